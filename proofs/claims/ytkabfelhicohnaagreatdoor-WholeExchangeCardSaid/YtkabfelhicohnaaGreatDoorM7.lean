/- Walks: the exchange format read, the wire. No condition. -/
import Derived.Test.YtkabfelhicohnaaGreatDoorM6
import Derived.Lib.SlSplitV
import Derived.Lib.CountLaws
import Derived.Lib.IndexBytes
import Derived.Lib.SplitLaws
import Derived.Tactics2
import Derived.Defers
import Derived.Recover
import Derived.Laws.Pointers
import Derived.Laws.BitsAllLaws
set_option linter.unusedSimpArgs false
set_option linter.unusedVariables false
set_option maxRecDepth 4000
set_option maxHeartbeats 2000000
namespace Go.Proofs.YtkabfelhicohnaaGreatDoor.V
open Go.RowKit
section
def isdg (u : UInt8) : Prop := 48 ≤ u.toNat ∧ u.toNat ≤ 57
def num (l : List UInt8) : Nat := l.foldl (fun k u => 10 * k + (u.toNat - 48)) 0
theorem num_snoc (l : List UInt8) (u : UInt8) : num (l ++ [u]) = 10 * num l + (u.toNat - 48) := by simp [num]
theorem num_lt' : ∀ (l : List UInt8) (k : Nat), (∀ u ∈ l, isdg u) → l.foldl (fun k u => 10 * k + (u.toNat - 48)) k < (k + 1) * 10 ^ l.length := by
  intro l
  induction l with
  | nil => intro k _; simp
  | cons u l ih =>
    intro k h
    have h1 := ih (10 * k + (u.toNat - 48)) fun x hx => h x (by simp [hx])
    have h2 := h u (by simp)
    unfold isdg at h2
    rw [List.foldl_cons, List.length_cons, Nat.pow_succ]
    refine Nat.lt_of_lt_of_le h1 ?_
    rw [Nat.mul_comm (10 ^ l.length) 10, ← Nat.mul_assoc]
    exact Nat.mul_le_mul_right _ (by omega)
theorem num_lt {l : List UInt8} (h : ∀ u ∈ l, isdg u) : num l < 10 ^ l.length := by simpa [num] using num_lt' l 0 h
theorem digs_dg (n k : Nat) : ∀ u ∈ digs n k, isdg u := by
  induction n generalizing k with
  | zero => intro u hu; simp [digs] at hu
  | succ n ih =>
    intro u hu
    rcases List.mem_append.1 hu with h | h
    · exact ih _ u h
    · simp only [List.mem_singleton] at h; subst h
      unfold isdg; rw [dig_nat]; omega
theorem num_digs (n k : Nat) (h : k < 10 ^ n) : num (digs n k) = k := by
  induction n generalizing k with
  | zero => simp at h; subst h; rfl
  | succ n ih =>
    rw [Nat.pow_succ] at h
    simp only [digs]
    rw [num_snoc, ih (k / 10) (by omega), dig_nat]; omega
def jn (c : UInt8) (p : List UInt8) (ps : List (List UInt8)) : List UInt8 := p ++ ps.flatMap fun q => c :: q
theorem jn_cons (c : UInt8) (p q : List UInt8) (ps : List (List UInt8)) : jn c p (q :: ps) = p ++ c :: jn c q ps := by simp [jn]
theorem idx_hit {c : UInt8} : ∀ {p r : List UInt8}, c ∉ p → Lib.indexByte (p ++ c :: r) c = p.length := by
  intro p
  induction p with
  | nil => intro r _; simp [Lib.indexByte]
  | cons a p ih =>
    intro r h
    have h1 := ih (r := r) (fun hm => h (by simp [hm]))
    have h2 : ¬ (a == c) = true := fun e => h (by simp [beq_iff_eq.1 e])
    rw [List.cons_append, Lib.indexByte, if_neg h2, h1, if_neg (by simp)]; simp
theorem idx_miss {c : UInt8} : ∀ {p : List UInt8}, c ∉ p → Lib.indexByte p c = -1 := by
  intro p
  induction p with
  | nil => intro _; rfl
  | cons a p ih =>
    intro h
    have h1 := ih (fun hm => h (by simp [hm]))
    have h2 : ¬ (a == c) = true := fun e => h (by simp [beq_iff_eq.1 e])
    rw [Lib.indexByte, if_neg h2, h1]; rfl
theorem jn_count {c : UInt8} : ∀ (ps : List (List UInt8)) (p : List UInt8), (∀ q ∈ p :: ps, c ∉ q) → (jn c p ps).count c = ps.length := by
  intro ps
  induction ps with
  | nil => intro p h; simp [jn, List.count_eq_zero.2 (h p (by simp))]
  | cons q ps ih =>
    intro p h
    rw [jn_cons, List.count_append, List.count_eq_zero.2 (h p (by simp)), List.count_cons_self, ih q (fun x hx => h x (by simp at hx ⊢; exact .inr hx)), List.length_cons]; omega
theorem split_pieces {c : UInt8} {w : World} : ∀ (ps : List (List UInt8)) (p : List UInt8) (a : Addr) (cap : Nat), (∀ q ∈ p :: ps, c ∉ q) → (jn c p ps).length ≤ cap → (jn c p ps).length ≤ 1000000 → CellsAt w a (bc (jn c p ps)) →
    (Lib.splitV [c] 0 ps.length a cap (jn c p ps)).length = ps.length + 1 ∧ ∀ (j : Nat) (q : List UInt8), (p :: ps)[j]? = some q → ∃ v, (Lib.splitV [c] 0 ps.length a cap (jn c p ps))[j]? = some v ∧ RBytes (fun i => i = a.block) w v q := by
  intro ps
  have piece : ∀ (p r : List UInt8) (a : Addr) (cap : Nat), (p ++ r).length ≤ 1000000 → CellsAt w a (bc (p ++ r)) → p.length ≤ cap → RBytes (fun i => i = a.block) w (.slice (some a) p.length cap) p := by
    intro p r a cap hl hc hp
    refine ⟨_, _, rfl, hp, by rw [List.length_append] at hl; unfold big; omega, fun i u hu => ⟨_, rfl, rfl, ?_⟩⟩
    refine hc i _ (bc_get ?_)
    rw [List.getElem?_append_left (List.getElem?_eq_some_iff.1 hu).1]; exact hu
  induction ps with
  | nil =>
    intro p a cap h hl hm hc
    have hj : jn c p [] = p := by simp [jn]
    rw [hj] at hl hc hm ⊢
    rw [Lib.splitV_miss _ _ _ _ _ _ (by rw [Lib.index_one, idx_miss (h p (by simp))])]
    refine ⟨rfl, fun j q hq => ?_⟩
    cases j with
    | zero => cases hq; exact ⟨_, rfl, piece p [] a cap (by simp; omega) (by simpa using hc) hl⟩
    | succ j => simp at hq
  | cons q ps ih =>
    intro p a cap h hl hm hc
    rw [jn_cons] at hl hc hm ⊢
    have hi : Lib.index (p ++ c :: jn c q ps) [c] = p.length := by rw [Lib.index_one, idx_hit (h p (by simp))]
    rw [List.length_cons, Lib.splitV_hit _ _ _ _ _ _ _ hi]
    have hd : (p ++ c :: jn c q ps).drop (p.length + [c].length) = jn c q ps := by
      rw [List.drop_append]; simp
    rw [hd]
    rw [List.length_append, List.length_cons] at hl hm
    have hcc : CellsAt w (Lib.tailAddr a cap (p.length + [c].length)) (bc (jn c q ps)) := by
      unfold Lib.tailAddr
      split
      · rename_i e
        have : (jn c q ps).length = 0 := by simp at e; omega
        intro j v hv
        have := (List.getElem?_eq_some_iff.1 hv).1
        rw [bc_len] at this; omega
      · refine hc.sub _ _ fun j v hv => ?_
        have hbc : bc (p ++ c :: jn c q ps) = bc (p ++ [c]) ++ bc (jn c q ps) := by rw [← bc_app]; simp
        rw [hbc, List.getElem?_append_right (by rw [bc_len]; simp)]
        rw [bc_len]
        simpa using hv
    have hblk : (Lib.tailAddr a cap (p.length + [c].length)).block = a.block := by unfold Lib.tailAddr; split <;> simp [add_block]
    obtain ⟨h1, h2⟩ := ih q _ (cap - (p.length + [c].length)) (fun x hx => h x (by simp at hx ⊢; exact .inr hx)) (by simp; omega) (by omega) hcc
    refine ⟨by rw [List.length_cons, h1], fun j x hx => ?_⟩
    cases j with
    | zero =>
      cases hx
      refine ⟨_, rfl, ?_⟩
      exact piece p (c :: jn c q ps) a _ (by simp; omega) hc (Nat.le_refl _)
    | succ j =>
      obtain ⟨v, hv, hr⟩ := h2 j x (by simpa using hx)
      exact ⟨v, by simpa using hv, by rw [hblk] at hr; exact hr⟩
end
section
theorem c68 {T0 : Nat} (bP : Nat) (A : Option Addr) (L cap a n : Nat) (w : World) (oP : Own w bP T0 [.slice A L cap, .int .i64 (a : Nat)]) (h : a + n ≤ L) (hc : L ≤ cap) (hL : L ≤ 1000000) : Calls Tryz.prog 68 #[.pointer (some ⟨bP, 0, none⟩), .int .i64 (n : Nat)] w fun e w' => e = .returned (.slice (part A a cap 1) n (cap - a)) ∧ Own w' bP T0 [.slice A L cap, .int .i64 ((a + n : Nat) : Int)] ∧ Kp (fun k => k = bP) w w' ∧ w'.heap.size = w.heap.size := by
 obtain ⟨W, hW⟩ : ∃ W, W = w := ⟨_, rfl⟩
 subst hW
 have KP : Kp (fun k => k = bP) W W := Kp.refl _ _
 refine enter (n := 46) Tryz.func68 rfl rfl (by simp) ?_
 refine wp_seq (c_reg (s_as (v := .slice _ _ _) rfl rfl rfl (w_nil (then_n (wp_seq (wp_seq ?_))))))
 have kd : New W W.drew := (Kp.refl _ _).drew
 have hdw : W.drew.heap.size = W.heap.size := rfl
 replace oP := oP.kp kd (fun e => e)
 replace KP := KP.transN kd
 refine c_drawG (fun u => Kp (fun _ => False) (W.drew) u) [false, false, false, false, false, false, false, false, false, false, false, false, false, false, false, false] [[], [0], [1], [2], [2], [2, 4], [2, 5], [2, 6], [2, 7], [2], [2, 9], [2, 10], [2, 11], [2, 8, 12], [2, 3, 13], [2, 14]] (fun i => i) (rank_back (by kernel_rfl)) rfl (by kernel_rfl) (Kp.refl _ _) ?_
 have kR : Kp (fun _ => False) (W.drew) (W.drew) := Kp.refl _ _
 refine t_q rfl rfl rfl (fun u hF => mvI rfl rfl rfl (w_nil ⟨rfl, rfl, rfl⟩)) ?_
 refine t_q rfl rfl rfl (fun u hF => s_lss rfl rfl rfl rfl rfl (decide_eq_false (by omega)) (w_nil ⟨rfl, rfl, rfl⟩)) ?_
 refine t_q rfl rfl rfl (fun u hF => mvB rfl rfl rfl (w_nil ⟨rfl, rfl, rfl⟩)) ?_
 refine t_q rfl rfl rfl (fun u hF => mvI rfl rfl rfl (w_nil ⟨rfl, rfl, rfl⟩)) ?_
 refine t_q rfl rfl rfl (fun u hF => s_mv (v := .pointer (some _)) rfl rfl rfl (w_nil ⟨rfl, rfl, rfl⟩)) ?_
 refine t_nc rfl rfl rfl ?_
 refine t_q rfl rfl rfl (fun u hF => s_fa fi107_0 rfl rfl rfl (w_nil ⟨rfl, rfl, rfl⟩)) ?_
 refine t_q rfl rfl rfl (fun u hF => s_ld1 (v := .slice A L cap) on38 rfl rfl rfl ((oP.kp hF (fun e => e)).get 0 rfl) (w_nil ⟨rfl, rfl, rfl⟩)) ?_
 refine t_q rfl rfl rfl (fun u hF => s_lenL Tryz.underlying38 rfl rfl rfl (w_nil ⟨rfl, rfl, rfl⟩)) ?_
 refine t_q rfl rfl rfl (fun u hF => s_mv (v := .pointer (some _)) rfl rfl rfl (w_nil ⟨rfl, rfl, rfl⟩)) ?_
 refine t_nc rfl rfl rfl ?_
 refine t_q rfl rfl rfl (fun u hF => s_fa fi107_1 rfl rfl rfl (w_nil ⟨rfl, rfl, rfl⟩)) ?_
 refine t_q rfl rfl rfl (fun u hF => s_ld1 (v := .int .i64 _) on3 rfl rfl rfl ((oP.kp hF (fun e => e)).get 1 rfl) (w_nil ⟨rfl, rfl, rfl⟩)) ?_
 refine t_q rfl rfl rfl (fun u hF => s_sub rfl rfl rfl rfl rfl (w64 (by omega)) (w_nil ⟨rfl, rfl, rfl⟩)) ?_
 refine t_q rfl rfl rfl (fun u hF => s_gtr rfl rfl rfl rfl rfl (decide_eq_false (by omega)) (w_nil ⟨rfl, rfl, rfl⟩)) ?_
 refine t_q rfl rfl rfl (fun u hF => pFB rfl rfl rfl rfl rfl (w_nil ⟨rfl, rfl, rfl⟩)) ?_
 refine t_n (then_n (c_F rfl rfl (wp_skip (then_n (wp_seq (c_reg (s_mv (v := .pointer (some _)) rfl rfl rfl (s_nc rfl rfl rfl (s_fa fi107_1 rfl rfl rfl ?_)))))))))
 refine s_ld1 (v := .int .i64 _) on3 rfl rfl rfl (oP.get 1 rfl) (mvI rfl rfl rfl (s_add (c := ((a + n : Nat) : Int)) rfl rfl rfl rfl rfl (w64c (by omega)) (s_nc rfl rfl rfl (s_fa fi107_1 rfl rfl rfl (s_st 1 sz3 (v := .int .i64 ((a + n : Nat) : Int)) (cs' := [.slice A L cap, .int .i64 ((a + n : Nat) : Int)]) rfl rfl rfl rfl rfl rfl rfl oP rfl rfl rfl ?_)))))
 clear oP; intro w1 oP kz zz
 replace KP := KP.trans kz
 have hz1 : w1.heap.size = W.heap.size := by first | exact zz | (rw [zz]; rfl)
 refine w_nil (then_n (wp_seq ?_))
 have kd : New w1 w1.drew := (Kp.refl _ _).drew
 have hdw : w1.drew.heap.size = w1.heap.size := rfl
 replace oP := oP.kp kd (fun e => e)
 replace KP := KP.transN kd
 refine c_drawG (fun u => Kp (fun _ => False) (w1.drew) u) [false, false, false, false, false, false, false, false, false, false, false, false, false, false, false, false] [[], [0], [1], [2], [], [4], [5], [6], [], [7, 8], [], [10], [11], [12], [3, 9, 13], [14]] (fun i => i) (rank_back (by kernel_rfl)) rfl (by kernel_rfl) (Kp.refl _ _) ?_
 have kR : Kp (fun _ => False) (w1.drew) (w1.drew) := Kp.refl _ _
 refine t_q rfl rfl rfl (fun u hF => s_mv (v := .pointer (some _)) rfl rfl rfl (w_nil ⟨rfl, rfl, rfl⟩)) ?_
 refine t_nc rfl rfl rfl ?_
 refine t_q rfl rfl rfl (fun u hF => s_fa fi107_0 rfl rfl rfl (w_nil ⟨rfl, rfl, rfl⟩)) ?_
 refine t_q rfl rfl rfl (fun u hF => s_ld1 (v := .slice A L cap) on38 rfl rfl rfl ((oP.kp hF (fun e => e)).get 0 rfl) (w_nil ⟨rfl, rfl, rfl⟩)) ?_
 refine t_q rfl rfl rfl (fun u hF => s_mv (v := .pointer (some _)) rfl rfl rfl (w_nil ⟨rfl, rfl, rfl⟩)) ?_
 refine t_nc rfl rfl rfl ?_
 refine t_q rfl rfl rfl (fun u hF => s_fa fi107_1 rfl rfl rfl (w_nil ⟨rfl, rfl, rfl⟩)) ?_
 refine t_q rfl rfl rfl (fun u hF => s_ld1 (v := .int .i64 _) on3 rfl rfl rfl ((oP.kp hF (fun e => e)).get 1 rfl) (w_nil ⟨rfl, rfl, rfl⟩)) ?_
 refine t_q rfl rfl rfl (fun u hF => mvI rfl rfl rfl (w_nil ⟨rfl, rfl, rfl⟩)) ?_
 refine t_q rfl rfl rfl (fun u hF => s_sub (c := (a : Int)) rfl rfl rfl rfl rfl (w64c (by omega)) (w_nil ⟨rfl, rfl, rfl⟩)) ?_
 refine t_q rfl rfl rfl (fun u hF => s_mv (v := .pointer (some _)) rfl rfl rfl (w_nil ⟨rfl, rfl, rfl⟩)) ?_
 refine t_nc rfl rfl rfl ?_
 refine t_q rfl rfl rfl (fun u hF => s_fa fi107_1 rfl rfl rfl (w_nil ⟨rfl, rfl, rfl⟩)) ?_
 refine t_q rfl rfl rfl (fun u hF => s_ld1 (v := .int .i64 _) on3 rfl rfl rfl ((oP.kp hF (fun e => e)).get 1 rfl) (w_nil ⟨rfl, rfl, rfl⟩)) ?_
 refine t_q rfl rfl rfl (fun u hF => s_slLH (lo := a) (hi := a + n) (m := n) el38 rfl rfl rfl rfl rfl rfl rfl (by omega) (by omega) (by omega) (by omega) (by omega) (w_nil ⟨rfl, rfl, rfl⟩)) ?_
 refine t_q rfl rfl rfl (fun u hF => s_as (v := .slice (part A a cap 1) n (cap - a)) rfl rfl rfl (w_nil ⟨rfl, rfl, rfl⟩)) ?_
 refine t_n (then_n (wp_ret ?_))
 refine ret1 (t := 4) (v := .slice (part A a cap 1) n (cap - a)) rfl rfl rfl ⟨rfl, oP, KP, ?_⟩
 exact hz1
theorem c67 {G : Nat → Prop} (bP : Nat) (A : Option Addr) (cap : Nat) (s : List UInt8) (a n : Nat) (ds : List UInt8) (w : World) (oP : Own w bP 109 [.slice A s.length cap, .int .i64 ((a : Nat) : Int)]) (hB : RBytes G w (.slice A s.length cap) s) (hG : ¬ G bP) (hds : (s.drop a).take n = ds) (hn : ds.length = n) (hd : ∀ u ∈ ds, isdg u) (h10 : n ≤ 10) (ha0 : n = 0 → a + n ≤ s.length) (hs : s.length ≤ 1000000) : Calls Tryz.prog 67 #[.pointer (some ⟨bP, 0, none⟩), .int .i64 (n : Nat)] w fun e w' => e = .returned (.int .i64 (num ds : Nat)) ∧ Own w' bP 109 [.slice A s.length cap, .int .i64 ((a + n : Nat) : Int)] ∧ Kp (fun k => k = bP) w w' ∧ w'.heap.size = w.heap.size := by
 obtain ⟨W, hW⟩ : ∃ W, W = w := ⟨_, rfl⟩
 subst hW
 have KP : Kp (fun k => k = bP) W W := Kp.refl _ _
 have hB2 := hB
 obtain ⟨A9, cap9, hv9, hcap, hBA⟩ := hB2
 cases hv9
 have han : n = 0 ∨ a + n ≤ s.length := by have h9 : ((s.drop a).take n).length = n := (by rw [hds, hn]); simp only [List.length_take, List.length_drop] at h9; omega
 have han : a + n ≤ s.length := by rcases han with h | h; (subst h; exact ha0 rfl); exact h
 have hBP := hBA.part (lo := a) (hi := a + n) (by omega) han hcap
 rw [show a + n - a = n by omega, hds] at hBP
 refine enter (n := 34) Tryz.func67 rfl rfl (by simp) ?_
 refine wp_seq (c_reg (asI rfl rfl rfl (w_nil (then_n (wp_seq (c_reg (asI rfl rfl rfl (w_nil (then_n ?_)))))))))
 refine wp_seq (wp_seq (c_reg (s_mv (v := .pointer (some _)) rfl rfl rfl (s_nc rfl rfl rfl (s_fa fi109_0 rfl rfl rfl (mvI rfl rfl rfl (s_call2 go68 rfl (c68 bP A s.length cap a n _ oP (by omega) hcap hs) rfl rfl rfl rfl ?_)))))))
 clear oP; rintro _ w1 ⟨rfl, oP, kz, zz⟩
 replace KP := KP.trans kz
 obtain ⟨P1, hP1⟩ : ∃ P1, P1 = part A a cap 1 := ⟨_, rfl⟩
 rw [← hP1] at hBP ⊢
 replace hBP := hBP.kp KP (fun i _ hg e => hG (e ▸ hg))
 refine ⟨_, rfl, ?_⟩
 refine s_lenL Tryz.underlying38 rfl rfl rfl (mvI rfl rfl rfl (w_nil (then_n (wp_block ?_))))
 refine c_loop (fun m f w => ∃ g i, m = n - i ∧ i ≤ n ∧ f = (upd (upd (upd (upd g 5 (.int .i64 (num (ds.take i) : Nat))) 12 (.slice P1 n (cap - a))) 13 (.int .i64 (n : Nat))) 14 (.int .i64 (i : Nat))) ∧ Own w bP 109 [.slice A s.length cap, .int .i64 ((a + n : Nat) : Int)] ∧ BytesAt G w P1 ds ∧ Kp (fun k => k = bP) W w ∧ w.heap.size = W.heap.size) (n) ⟨_, 0, by omega, by omega, (upd_keep' (upd_keep' (upd_keep' (upd_keep' rfl rfl) rfl) rfl) rfl), oP, hBP, KP, zz⟩ ?_
 clear KP oP hBP zz
 rintro m _ w0 ⟨g, i, rfl, hi, rfl, oP, hBP, KP, zz⟩
 refine wp_seq (c_reg (s_lss rfl rfl rfl rfl rfl rfl (w_nil (then_n (wp_seq ?_)))))
 refine c_if rfl rfl ?_ ?_
 ·intro ht15
  (try simp only [Q1, Q2, Q3, Q4, Q5] at ht15)
  have hlt : i < ds.length := by omega
  obtain ⟨q, hq, _, hcell⟩ := hBP.2 i _ (List.getElem?_eq_getElem hlt)
  have hud := hd _ (List.getElem_mem hlt)
  unfold isdg at hud
  have hns : num (ds.take (i + 1)) = 10 * num (ds.take i) + (ds[i].toNat - 48) := by rw [List.take_succ_eq_append_getElem hlt, num_snoc]
  have hnb : num (ds.take i) < 10000000000 := by have h1 := num_lt (l := ds.take i) (fun u hu => hd u (List.mem_of_mem_take hu)); have h2 : 10 ^ (ds.take i).length ≤ 10 ^ 10 := Nat.pow_le_pow_right (by omega) (by rw [List.length_take]; omega); omega
  subst hq
  refine wp_skip (then_n (wp_seq (wp_block (wp_seq (c_reg (s_iaE el38 rfl rfl rfl rfl rfl rfl (by omega) ?_))))))
  refine s_ld1 (v := .int .u8 _) on5 rfl rfl rfl (by rw [Nat.mul_one]; exact hcell) ?_
  refine s_as (v := .int .u8 _) rfl rfl rfl (w_nil (then_n (wp_seq (wp_seq (c_reg (s_mv (v := .int .u8 _) rfl rfl rfl (s_lss rfl rfl rfl rfl rfl (decide_eq_false (by omega)) (mvB rfl rfl rfl (s_mv (v := .int .u8 _) rfl rfl rfl ?_)))))))))
  refine s_gtr rfl rfl rfl rfl rfl (decide_eq_false (by omega)) (pFB rfl rfl rfl rfl rfl (w_nil (then_n (c_F rfl rfl (wp_skip (then_n (c_reg (mvI rfl rfl rfl (s_mul rfl rfl rfl rfl rfl (w64 (by omega)) ?_)))))))))
  refine s_mv (v := .int .u8 _) rfl rfl rfl (s_sub rfl rfl rfl rfl rfl (w8 (by omega)) (s_conv (by decide) Tryz.underlying3 rfl rfl rfl (w64 (by omega)) (s_add rfl rfl rfl rfl rfl (w64 (by omega)) (asI rfl rfl rfl (w_nil (inb_n (then_n (c_reg (s_add rfl rfl rfl rfl rfl (w64 (by omega)) ?_)))))))))
  refine mvI rfl rfl rfl (w_nil (then_n ?_))
  exact ⟨n - (i + 1), _, by omega, rfl, _, i + 1, rfl, by omega, (upd_keep' (upd_keep' (upd_keep' (upd_keep' rfl (iv (by rw [hns]; omega))) rfl) rfl) rfl), oP, hBP, KP, zz⟩
 ·intro ht15
  (try simp only [Q1, Q2, Q3, Q4, Q5] at ht15)
  refine wp_exit (then_x (then_x (inb_x (then_n (wp_seq (c_reg (mvI rfl rfl rfl (asI rfl rfl rfl (w_nil ?_)))))))))
  refine then_n (wp_ret ?_)
  have hin : i = n := by omega
  subst hin
  refine ret1 (t := 4) (v := .int .i64 _) rfl rfl rfl ⟨by rw [List.take_of_length_le (by omega)], oP, KP, zz⟩
end
section
section
variable {P : Program} {ops : Array Oper} {n : Nat} {ds : List Deferred}
def chkA (ops : Array Oper) (A : List (List Nat)) : Bool :=
  (ops.toList.zipIdx.all fun y => y.1.after.toList.all (fun e => !alw e || Nat.blt e.on y.2) &&
    (A.getD y.2 []).all (fun j => y.1.after.toList.any fun e => alw e && (e.on == j || (A.getD e.on []).contains j))) &&
  (List.range (ops.size - 1)).all fun j => (A.getD (ops.size - 1) []).contains j
theorem chkA_at {A : List (List Nat)} (hc : chkA ops A = true) {k : Nat} {o : Oper} (ho : ops[k]? = some o) : (∀ e ∈ o.after, alw e = true → e.on < k) ∧ ∀ j ∈ A.getD k [], ∃ e ∈ o.after, alw e = true ∧ (e.on = j ∨ j ∈ A.getD e.on []) := by
  unfold chkA at hc
  rw [Bool.and_eq_true, List.all_eq_true] at hc
  have := hc.1 (o, k) (by rw [List.mem_zipIdx_iff_getElem?]; simpa using ho)
  simp only [Bool.and_eq_true, List.all_eq_true, List.any_eq_true, Array.mem_toList_iff, List.contains_eq_mem, Bool.or_eq_true, decide_eq_true_eq, beq_iff_eq, Bool.not_eq_true', Nat.blt_eq] at this
  refine ⟨fun e he ha => ?_, fun j hj => ?_⟩
  · rcases this.1 e he with h | h
    · rw [ha] at h; cases h
    · exact h
  · obtain ⟨e, he, h1, h2⟩ := this.2 j hj
    exact ⟨e, he, h1, h2⟩
theorem anc_done2 {A : List (List Nat)} (hc : chkA ops A = true) {S : Nat → Bool} (hD : Dc ops S) : ∀ k, S k = true → k < ops.size → ∀ j ∈ A.getD k [], S j = true := by
  intro k
  induction k using Nat.strongRecOn with
  | _ k ih =>
    intro hk hlt j hj
    obtain ⟨o', ho'⟩ : ∃ o', ops[k]? = some o' := ⟨_, Array.getElem?_eq_getElem hlt⟩
    obtain ⟨q1, q2⟩ := chkA_at hc ho'
    obtain ⟨e, he, ha, h⟩ := q2 j hj
    have hdone := hD k o' ho' hk e he ha
    rcases h with rfl | h
    · exact hdone
    · exact ih e.on (q1 e he ha) hdone (by have := q1 e he ha; omega) j h
theorem c_drawL {Q : Exit → Act → World → Prop} {id : Nat} {f : Nat → Value} {w : World} (Fa : World → Prop) (tg : List Bool) (A : List (List Nat)) (rk : Nat → Nat) {ol : Oper} {lo : List Oper}
    (hb : ∀ m, ∀ i o, ops[i]? = some o → ∀ e ∈ o.after, Region.binds m e = true → e.on < ops.size ∧ (if m = .gc then rk else fun i => i) e.on < (if m = .gc then rk else fun i => i) i)
    (hops : ops.toList = lo ++ [ol]) (hl : tg.length = lo.length) (hc : chk ops (tg.zip lo) A = true) (hcA : chkA ops A = true) (hF : Fa w.drew)
    (h : WT P ops n ds Fa (fun f w => WL .plain P ops (fun e a u => e = .normal ∧ ∃ f', a = Fr n ds f' ∧ Q .normal (Fr n ds f') u) [ol] n ds f w) (tg.zip lo) f w.drew) : (Code.region id ops true).wp P Q (Fr n ds f) w := by
  generalize hll : tg.zip lo = l at hc h
  have hsz : ops.size = lo.length + 1 := by rw [← Array.length_toList, hops]; simp
  have hlen : l.length = lo.length := by subst hll; simp [List.length_zip, hl]
  have hatl : ∀ (i : Nat) (o : Oper), ops[i]? = some o → i < lo.length → lo[i]? = some o := by
    intro i o ho hi
    have : ops.toList[i]? = some o := by simpa using ho
    rwa [hops, List.getElem?_append_left hi] at this
  have hat : ∀ (i : Nat) (o : Oper), ops[i]? = some o → i < lo.length → ∃ b : Bool, l[i]? = some (b, o) := by
    intro i o ho hi
    subst hll
    refine ⟨tg[i]'(by rw [hl]; exact hi), ?_⟩
    rw [List.getElem?_zip_eq_some]
    exact ⟨by simp, hatl i o ho hi⟩
  have hlast : ∀ (i : Nat) (o : Oper), ops[i]? = some o → ¬ i < lo.length → o = ol ∧ i = lo.length := by
    intro i o ho hi
    have hlt : i < ops.size := (Array.getElem?_eq_some_iff.1 ho).1
    have hi2 : i = lo.length := by omega
    have : ops.toList[i]? = some o := by simpa using ho
    rw [hops, hi2] at this
    exact ⟨by simpa using this.symm, hi2⟩
  unfold chk at hc
  rw [List.all_eq_true] at hc
  have hc' : ∀ (i : Nat) (b : Bool) (o : Oper), l[i]? = some (b, o) → ∀ j x, j < i → l[j]? = some x → j ∈ A.getD i [] ∨ idp ops x (b, o) = true := by
    intro i b o hi j x hj hx
    have := hc ((b, o), i) (by rw [List.mem_zipIdx_iff_getElem?]; exact hi)
    simp only [Bool.and_eq_true, List.all_eq_true, List.contains_eq_mem, Bool.or_eq_true, decide_eq_true_eq] at this
    refine this.2 (x, j) ?_
    rw [List.mem_take_iff_getElem]
    have hjl : j < l.length := (List.getElem?_eq_some_iff.1 hx).1
    refine ⟨j, by simp; omega, ?_⟩
    have := (List.getElem?_eq_some_iff.1 hx).2
    simp [this]
  have hall : ∀ (S : Nat → Bool), Dc ops S → (∀ e ∈ ol.after, alw e = true → S e.on = true) → ∀ j, j < lo.length → S j = true := by
    intro S hD hd j hj
    have ho : ops[lo.length]? = some ol := by rw [← Array.getElem?_toList, hops]; simp
    have hcc := hcA
    unfold chkA at hcc
    rw [Bool.and_eq_true, List.all_eq_true, List.all_eq_true] at hcc
    have hjm : j ∈ A.getD lo.length [] := by
      have := hcc.2 j (by simp; omega)
      rw [hsz] at this
      simpa using this
    obtain ⟨q1, q2⟩ := chkA_at hcA ho
    obtain ⟨e, he, ha, h⟩ := q2 j hjm
    have hdone := hd e he ha
    rcases h with rfl | h
    · exact hdone
    · exact anc_done2 hcA hD e.on hdone (by have := q1 e he ha; omega) j h
  refine c_drawS (fun S f u => (S lo.length = true → Q .normal (Fr n ds f) u) ∧ (S lo.length = false → Fa u ∧ WT P ops n ds Fa (fun f w => WL .plain P ops (fun e a u => e = .normal ∧ ∃ f', a = Fr n ds f' ∧ Q .normal (Fr n ds f') u) [ol] n ds f w) (rem l S) f u)) rk hb ⟨(fun h => by cases h), fun _ => ⟨hF, ?_⟩⟩ ?_ ?_
  · have : rem l (fun _ => false) = l := by
      unfold rem
      rw [List.filter_eq_self.2 (by simp)]
      exact List.zipIdx_map_fst 0 l
    rw [this]; exact h
  · intro i o ho S f u hS hD hd ⟨hI1, hI2⟩
    have hlF : S lo.length = false := by
      cases hSk : S lo.length with
      | false => rfl
      | true =>
        exfalso
        by_cases hi : i < lo.length
        · have hol : ops[lo.length]? = some ol := by rw [← Array.getElem?_toList, hops]; simp
          have := hall S hD (fun e he ha => hD _ ol hol hSk e he ha) i hi
          rw [hS] at this; cases this
        · have := (hlast i o ho hi).2
          rw [this, hSk] at hS; cases hS
    obtain ⟨hF, h⟩ := hI2 hlF
    by_cases hi : i < lo.length
    · obtain ⟨b, hib⟩ := hat i o ho hi
      obtain ⟨L1, L2, e1, e2, e3⟩ := rem_at hib hS
      rw [e1] at h
      have h' := WT.front L1 f u (fun x hx => by
        obtain ⟨j, hj, hSj, hxj⟩ := e3 x hx
        rcases hc' i b o hib j x hj hxj with h | h
        · exfalso
          obtain ⟨q1, q2⟩ := chkA_at hcA ho
          obtain ⟨e, he, ha, h⟩ := q2 j h
          have hdone := hd e he ha
          rcases h with rfl | h
          · rw [hSj] at hdone; cases hdone
          · have := anc_done2 hcA hD e.on hdone (by have := q1 e he ha; omega) j h
            rw [hSj] at this; cases this
        · exact h) hF h
      refine wl1_mono (wl_step hF h') ?_
      rintro e a w' ⟨rfl, f', rfl, hF', h''⟩
      refine ⟨f', rfl, fun hS' => ?_, fun _ => ⟨hF', by rw [e2]; exact h''⟩⟩
      exfalso
      simp only [ins, Bool.or_eq_true, beq_iff_eq] at hS'
      rcases hS' with h | h
      · omega
      · rw [hlF] at h; cases h
    · obtain ⟨rfl, rfl⟩ := hlast i o ho hi
      have : rem l S = [] := by
        unfold rem
        rw [List.map_eq_nil_iff, List.filter_eq_nil_iff]
        intro p hp
        have hp2 := List.mem_zipIdx_iff_getElem?.1 hp
        have : p.2 < l.length := (List.getElem?_eq_some_iff.1 hp2).1
        simp [hall S hD hd p.2 (by omega)]
      rw [this] at h
      refine wl1_mono h ?_
      rintro e a w' ⟨rfl, f', rfl, hq⟩
      refine ⟨f', rfl, fun _ => hq, fun hS' => ?_⟩
      simp [ins] at hS'
  · intro S f u hS ⟨hI1, _⟩
    exact hI1 (hS _ (by omega))
theorem t_e {Fa : World → Prop} {Q : Exit → Act → World → Prop} {ol : Oper} {f : Nat → Value} {w : World} (h : WL .plain P ops (fun e a u => e = .normal ∧ ∃ f', a = Fr n ds f' ∧ Q .normal (Fr n ds f') u) [ol] n ds f w) :
    WT P ops n ds Fa (fun f w => WL .plain P ops (fun e a u => e = .normal ∧ ∃ f', a = Fr n ds f' ∧ Q .normal (Fr n ds f') u) [ol] n ds f w) [] f w := h
theorem WT.congrK {Fa : World → Prop} {K : (Nat → Value) → World → Prop} (hK : ∀ f f' w, Fr n ds f = Fr n ds f' → K f w → K f' w) : ∀ (L : List (Bool × Oper)) (f f' : Nat → Value) (w : World), Fr n ds f = Fr n ds f' → WT P ops n ds Fa K L f w → WT P ops n ds Fa K L f' w := by
  intro L
  induction L with
  | nil => intro f f' w he h; exact hK f f' w he h
  | cons x L ih =>
    intro f f' w he h
    obtain ⟨b, o⟩ := x
    have hp : ∀ v, Fr n ds (put' f o.dst v) = Fr n ds (put' f' o.dst v) := fun v => by rw [← Fr_put', ← Fr_put', he]
    simp only [WT, wnt] at h ⊢
    rw [← he]
    rcases h with ⟨h1, h⟩ | ⟨h1, h2, v, hv, h⟩ | ⟨h1, h2, h⟩
    · exact .inl ⟨h1, ih _ _ _ (hp _) h⟩
    · exact .inr (.inl ⟨h1, h2, v, hv, ih _ _ _ (hp _) h⟩)
    · exact .inr (.inr ⟨h1, h2, h.mono fun v w' q => ⟨q.1, ih _ _ _ (hp v) q.2⟩⟩)
theorem t_lK {Fa : World → Prop} {K : (Nat → Value) → World → Prop} (hK : ∀ f f' w, Fr n ds f = Fr n ds f' → K f w → K f' w) {L : List (Bool × Oper)} {f : Nat → Value} {w : World} {d : Option Nat} {op : Op} {ty : TypeId} {pos : String} {af : Array Edge} {g : Option (Nat × Bool)}
    (hg : Gd n ops f g = some true)
    (h : WL .plain P ops (fun e a w' => e = .normal ∧ ∃ f', a = Fr n ds f' ∧ Fa w' ∧ WT P ops n ds Fa K L f' w') [⟨d, op, ty, pos, af, g⟩] n ds f w) :
    WT P ops n ds Fa K ((true, ⟨d, op, ty, pos, af, g⟩) :: L) f w := by
  have hw := wanted_of (ds := ds) (o := ⟨d, op, ty, pos, af, g⟩) hg
  simp only [WT]
  refine .inr (.inr ⟨hw, trivial, ?_⟩)
  replace h := h.out
  simp only [wpM] at h
  unfold wpList at h
  rw [if_pos hw] at h
  rcases h with h | ⟨_, a, w, hl⟩
  · unfold Oper.wp at h
    unfold LS
    generalize (execOp (Fr n ds f).eval ⟨d, op, ty, pos, af, g⟩).run P w = r at h
    have key : ∀ v w', (∃ f', (Fr n ds f).put d v = Fr n ds f' ∧ Fa w' ∧ WT P ops n ds Fa K L f' w') → Fa w' ∧ WT P ops n ds Fa K L (put' f d v) w' := by
      rintro v w' ⟨f', he, hF, h⟩
      rw [Fr_put'] at he
      exact ⟨hF, WT.congrK hK L _ _ _ he.symm h⟩
    cases r with
    | ok x w1 =>
      cases x <;> simp only [Oper.upon, wpList] at h ⊢
      case value v => exact key _ _ h.2
      case skip => exact key _ _ h.2
      case enter F args =>
        refine h.mono ?_
        intro e w' he
        cases e with
        | returned v => exact ⟨v, rfl, key _ _ he.2⟩
        | panicked c => exact absurd he.1 (by simp)
        | outgrown => obtain ⟨a, w, hl⟩ := he; exact absurd hl.1 (by simp)
      case defer d' =>
        obtain ⟨_, f', he, _⟩ := h
        exfalso
        have := congrArg (fun a : Act => a.defers.length) he
        cases d <;> simp [Act.put, Fr] at this
      case row r args => exact h.mono fun v w' q => key _ _ q.2
    | halt x w1 => cases x <;> simp only [Oper.upon] at h <;> first | (exact h.elim; done) | (exact absurd h.1 (by simp))
  · exact absurd hl.1 (by simp)
theorem t_l2 {Fa : World → Prop} {Q : Exit → Act → World → Prop} {ol : Oper} {L : List (Bool × Oper)} {f : Nat → Value} {w : World} {d : Option Nat} {op : Op} {ty : TypeId} {pos : String} {af : Array Edge} {g : Option (Nat × Bool)}
    (hg : Gd n ops f g = some true)
    (h : WL .plain P ops (fun e a w' => e = .normal ∧ ∃ f', a = Fr n ds f' ∧ Fa w' ∧ WT P ops n ds Fa (fun f w => WL .plain P ops (fun e a u => e = .normal ∧ ∃ f', a = Fr n ds f' ∧ Q .normal (Fr n ds f') u) [ol] n ds f w) L f' w') [⟨d, op, ty, pos, af, g⟩] n ds f w) :
    WT P ops n ds Fa (fun f w => WL .plain P ops (fun e a u => e = .normal ∧ ∃ f', a = Fr n ds f' ∧ Q .normal (Fr n ds f') u) [ol] n ds f w) ((true, ⟨d, op, ty, pos, af, g⟩) :: L) f w :=
  t_lK (fun f f' w he hk => ⟨by have := hk.out; rwa [he] at this⟩) hg h
end
end
section
theorem bytesOf_nat (l : List UInt8) : Lib.bytesOf (l.map fun u => (u.toNat : Int)) = l := by
 induction l with
 | nil => rfl
 | cons u l ih => simp only [Lib.bytesOf, List.map_cons] at ih ⊢; rw [ih]; simp
theorem drewN_new (w : World) (q : Nat) : New w (w.drewN q) := ⟨rfl, rfl, rfl, Nat.le_refl _, fun _ _ _ => rfl⟩
theorem c93 (a1 a2 : Addr) (c1 : Nat) (l : List UInt8) (c : UInt8) (w : World) (hT : Tb w) (h1 : CellsAt w a1 (bc l)) (h2 : w.cell? a2 = some (.int .u8 c.toNat)) (hl : l.length ≤ c1) (hl6 : l.length ≤ 1000000) (hc1 : c1 ≤ 9223372036854775807) :
  Calls Tryz.prog 93 #[.slice (some a1) l.length c1, .slice (some a2) 1 1] w fun e w' => ∃ b, e = .returned (.slice (some ⟨b, 0, none⟩) (l.count c + 1) (l.count c + 1)) ∧ Own w' b 38 (Lib.splitV [c] 0 (l.count c) a1 c1 l) ∧ b = w.heap.size ∧ New w w' := by
 obtain ⟨m, hm⟩ := hT.mx
 refine (Tryz.bytes_Split a1 a2 l.length c1 1 1 (l.map fun u => (u.toNat : Int)) [(c.toNat : Int)] m w (by simp) rfl ?_ ?_ ?_ ?_ hl (by omega) (by omega) (by omega) (Nat.le_refl _) hm).mono ?_
 ·intro x hx
  obtain ⟨u, _, rfl⟩ := List.mem_map.1 hx
  have := u.toNat_lt; omega
 ·intro x hx
  simp only [List.mem_singleton] at hx; subst hx
  have := c.toNat_lt; omega
 ·intro i hi
  refine h1 i _ ?_
  rw [bc_get (List.getElem?_eq_getElem hi)]
  simp [List.getD_eq_getElem?_getD, hi]
 ·intro i hi
  obtain rfl : i = 0 := by omega
  simpa [Addr.add] using h2
 ·rintro e w' ⟨rfl, q, rfl⟩
  have e1 : Lib.bytesOf [(c.toNat : Int)] = [c] := by simp [Lib.bytesOf]
  rw [bytesOf_nat, e1, Lib.count_one]
  refine ⟨w.heap.size, rfl, ?_, rfl, (kp_alloc w _).trans (drewN_new _ q)⟩
  exact own_alloc w 38 _
theorem rt_ge {s : ByteArray} : ∀ {i : Nat}, RT s i → ∀ j, i ≤ j → j < s.size → 32 ≤ bt s j := by
 intro i h
 induction h with
 | nil => intro j h1 h2; omega
 | cons i n c hi hat hn hm hrt ih =>
  intro j h1 h2
  by_cases hj : i + n ≤ j
  ·exact ih j hj h2
  ·obtain ⟨m1, m2, m3, m4⟩ := memb_valid hm
   unfold atF at hat
   obtain ⟨u0, _, e0, g0, l0⟩ := bt_get hi
   split at hat
   ·simp only [Prod.mk.injEq] at hat
    obtain rfl : j = i := by omega
    omega
   ·split at hat
    ·rename_i h3
     simp only [Prod.mk.injEq] at hat
     have : j = i ∨ j = i + 1 := by omega
     rcases this with rfl | rfl <;> omega
    ·split at hat
     ·rename_i h3
      simp only [Prod.mk.injEq] at hat
      have : j = i ∨ j = i + 1 ∨ j = i + 2 := by omega
      rcases this with rfl | rfl | rfl <;> omega
     ·simp only [Prod.mk.injEq] at hat; omega
theorem text_ge {s : ByteArray} (h : VText s) : ∀ u ∈ s.data.toList, 32 ≤ u.toNat := by
 intro u hu
 obtain ⟨j, hj, e⟩ := List.getElem_of_mem hu
 have hj2 : j < s.size := by rwa [tl_len] at hj
 have h1 := rt_ge h.2.2.2.2 j (by omega) hj2
 have h2 : s[j]? = some u := by rw [get_list, List.getElem?_eq_getElem hj, e]
 rw [bt_at h2] at h1; omega
def pcs (l : List Sub) : List (List UInt8) := l.map fun s => UInt8.ofNat s.code.toNat :: s.value.data.toList
theorem subs_jn (l : List Sub) : l.flatMap sdat = jn 31 [] (pcs l) := by
 simp only [jn, pcs, List.nil_append, List.flatMap_map]
 rfl
theorem pcs_no {l : List Sub} (h : ∀ s ∈ l, VSub VText s) : ∀ q ∈ [] :: pcs l, (31 : UInt8) ∉ q := by
 intro q hq hm
 rcases List.mem_cons.1 hq with rfl | hq
 ·simp at hm
 ·obtain ⟨s, hs, rfl⟩ := List.mem_map.1 hq
  obtain ⟨h1, h2⟩ := h s hs
  rcases List.mem_cons.1 hm with e | hm
  ·have h3 := cd_le h1
   have h4 := u8v (x := s.code) (by omega)
   rw [← e] at h4; simp at h4; omega
  ·have := text_ge h2 31 hm; simp at this
theorem c69 {G : Nat → Prop} (x : Fld) (ad : Addr) (cap : Nat) (w : World) (hT : Tb w) (hB : BytesAt G w (some ad) (fdat x)) (hcap : (fdat x).length ≤ cap) (hcm : cap ≤ 9223372036854775807) (hv : VFld VText x) : Calls Tryz.prog 69 #[.string x.tag, .slice (some ad) (fdat x).length cap] w fun e w' => ∃ vs, e = .returned (.agg (x.cells vs).toArray) ∧ RSubs (fun i => w.heap.size ≤ i) w' vs x.subs ∧ New w w' := by
 obtain ⟨W, hW⟩ : ∃ W, W = w := ⟨_, rfl⟩
 subst hW
 have K : New W W := Kp.refl _ _
 obtain ⟨hv1, hv2, hv3, hv4, hv5, hv6⟩ := hv
 have hi0 := ind_le hv2
 have hi1 := ind_le hv3
 have hfl := fdat_len x
 have hsl := subs_len hv6
 have hCA := hB.cells
 have hd0 : W.cell? (ad.add (0 * 1)) = some (.int .u8 x.i0) := by have h9 := hCA 0 _ (bc_get (u := UInt8.ofNat x.i0.toNat) rfl); rw [u8v (by omega)] at h9; exact h9
 have hd1 : W.cell? (ad.add (1 * 1)) = some (.int .u8 x.i1) := by have h9 := hCA 1 _ (bc_get (u := UInt8.ofNat x.i1.toNat) rfl); rw [u8v (by omega)] at h9; exact h9
 have hc2 : CellsAt W (ad.add (2 * 1)) (bc (x.subs.flatMap sdat)) := hCA.sub 2 _ (fun j v hv => by
  have e9 : bc (fdat x) = bc [UInt8.ofNat x.i0.toNat, UInt8.ofNat x.i1.toNat] ++ (bc (x.subs.flatMap sdat) ++ bc [30]) := by rw [← bc_app, ← bc_app]; simp [fdat]
  rw [e9, List.getElem?_append_right (by rw [bc_len]; simp), List.getElem?_append_left (by have h8 := (List.getElem?_eq_some_iff.1 hv).1; have h7 := bc_len [UInt8.ofNat x.i0.toNat, UInt8.ofNat x.i1.toNat]; simp only [List.length_cons, List.length_nil] at h7; omega)]
  simpa [bc_len] using hv)
 have hcnt : (x.subs.flatMap sdat).count 31 = (pcs x.subs).length := by rw [subs_jn]; exact jn_count _ _ (pcs_no hv6)
 refine enter (n := 54) Tryz.func69 rfl rfl (by simp) ?_
 refine wp_seq (c_reg (s_alloc z53 rfl rfl ?_))
 intro b4 w1 eb4 o4 kb4 zb4
 have gb4_K : W.heap.size ≤ b4 := by have := K.size; omega
 replace K := K.transN kb4
 refine w_nil (then_n (wp_seq (wp_seq (c_reg (s_mv (v := .slice (some ad) (fdat x).length cap) rfl rfl rfl (s_lenL Tryz.underlying38 rfl rfl rfl (s_lss rfl rfl rfl rfl rfl (decide_eq_false (by omega)) (w_nil (then_n ?_)))))))))
 refine c_F rfl rfl (wp_skip (then_n (wp_seq ?_)))
 have kd : New w1 w1.drew := (Kp.refl _ _).drew
 have hdw : w1.drew.heap.size = w1.heap.size := rfl
 replace o4 := o4.kp kd (fun e => e)
 replace K := K.transN kd
 have KW := K
 refine c_drawL (fun u => Kp (fun _ => False) (w1.drew) u) [false, false, false, false, false, false, false, false, false, true] [[], [], [1], [2], [], [4], [5], [3, 6], [0, 7], [], [0, 1, 2, 3, 4, 5, 6, 7, 8, 9]] (fun i => i) (rank_back (by kernel_rfl)) (lo := [_, _, _, _, _, _, _, _, _, _]) rfl rfl (by kernel_rfl) (by kernel_rfl) (Kp.refl _ _) ?_
 have kR : Kp (fun _ => False) (w1.drew) (w1.drew) := Kp.refl _ _
 refine t_q rfl rfl rfl (fun u hF => s_mv (v := .string _) rfl rfl rfl (w_nil ⟨rfl, rfl, rfl⟩)) ?_
 refine t_q rfl rfl rfl (fun u hF => s_mv (v := .slice (some ad) (fdat x).length cap) rfl rfl rfl (w_nil ⟨rfl, rfl, rfl⟩)) ?_
 refine t_q rfl rfl rfl (fun u hF => s_iaE (j := 0) el38 rfl rfl rfl rfl rfl rfl (by omega) (w_nil ⟨rfl, rfl, rfl⟩)) ?_
 refine t_q rfl rfl rfl (fun u hF => s_ld1 (v := .int .u8 _) on5 rfl rfl rfl ((KW.transN hF).cell hd0 (fun e => e)) (w_nil ⟨rfl, rfl, rfl⟩)) ?_
 refine t_q rfl rfl rfl (fun u hF => s_mv (v := .slice (some ad) (fdat x).length cap) rfl rfl rfl (w_nil ⟨rfl, rfl, rfl⟩)) ?_
 refine t_q rfl rfl rfl (fun u hF => s_iaE (j := 1) el38 rfl rfl rfl rfl rfl rfl (by omega) (w_nil ⟨rfl, rfl, rfl⟩)) ?_
 refine t_q rfl rfl rfl (fun u hF => s_ld1 (v := .int .u8 _) on5 rfl rfl rfl ((KW.transN hF).cell hd1 (fun e => e)) (w_nil ⟨rfl, rfl, rfl⟩)) ?_
 refine t_q rfl rfl rfl (fun u hF => s_bd2 (cells := #[.int .u8 x.i0, .int .u8 x.i1]) bd48 rfl rfl rfl rfl rfl rfl (w_nil ⟨rfl, rfl, rfl⟩)) ?_
 refine t_q rfl rfl rfl (fun u hF => s_bd2 (cells := #[.string x.tag, .int .u8 x.i0, .int .u8 x.i1, .slice none 0 0]) bd53 rfl rfl rfl rfl rfl rfl (w_nil ⟨rfl, rfl, rfl⟩)) ?_
 refine t_l2 rfl (s_alloc z53 rfl rfl ?_)
 intro b5 w2 eb5 o5 kb5 zb5
 have gb5_K : W.heap.size ≤ b5 := by have := K.size; omega
 have gb5_kR : w1.drew.heap.size ≤ b5 := by have := kR.size; omega
 replace o4 := o4.kp kb5 (fun e => e)
 replace K := K.transN kb5
 replace kR := kR.transN kb5
 refine w_nil ⟨rfl, _, rfl, kR, ?_⟩
 refine t_e (s_st 0 sz53 (v := .agg _) rfl rfl rfl rfl rfl rfl rfl o5 rfl rfl rfl ?_)
 clear o5; intro w3 o5 ksw3 zsw3
 replace o4 := o4.kp ksw3 (show ¬ (_ = _) by omega)
 replace K := K.trans' ksw3 (fun i hi (e : i = b5) => by omega)
 refine w_nil ⟨rfl, _, rfl, ?_⟩
 refine then_n (wp_seq (wp_seq (c_reg (s_mv (v := .slice (some ad) (fdat x).length cap) rfl rfl rfl (s_mv (v := .slice (some ad) (fdat x).length cap) rfl rfl rfl (s_lenL Tryz.underlying38 rfl rfl rfl (s_sub rfl rfl rfl rfl rfl (w64 (by omega)) (s_slLH (lo := 2) (hi := (fdat x).length - 1) (m := (fdat x).length - 3) el38 rfl rfl rfl rfl rfl rfl rfl rfl (by omega) (by omega) (by omega) (by omega) ?_))))))))
 rw [part_at (A := some ad) (p := ad) rfl (show cap ≠ 2 by omega)]
 have hn3 : (fdat x).length - 3 = (x.subs.flatMap sdat).length := by rw [hfl]; omega
 rw [hn3]
 refine s_bs1E (cs := [.int .u8 31]) el38 rfl (by decide) rfl rfl rfl rfl ?_
 intro b27 w4 eb27 o27 k27 z27
 replace o4 := o4.kp k27 (fun e => e)
 replace o5 := o5.kp k27 (fun e => e)
 replace K := K.transN k27
 refine s_call2 go93 rfl (c93 (ad.add (2 * 1)) ⟨b27, 0, none⟩ (cap - 2) (x.subs.flatMap sdat) 31 _ (hT.kp K (fun _ _ _ e => e)) (hc2.kp K (fun e => e)) (by have := o27.get 0 rfl; simpa [Addr.add] using this) (by omega) (by omega) (by omega)) rfl rfl rfl rfl ?_
 rintro _ w5 ⟨b28, rfl, o28, eb28, k28⟩
 replace o4 := o4.kp k28 (fun e => e)
 replace o5 := o5.kp k28 (fun e => e)
 replace o27 := o27.kp k28 (fun e => e)
 replace K := K.transN k28
 rw [hcnt] at o28 ⊢
 obtain ⟨pl, hpl⟩ : ∃ pl, pl = Lib.splitV [31] 0 (pcs x.subs).length (ad.add (2 * 1)) (cap - 2) (x.subs.flatMap sdat) := ⟨_, rfl⟩
 rw [← hpl] at o28
 have hpn : (pcs x.subs).length = x.subs.length := by simp [pcs]
 rw [hpn]
 have hps : pl.length = x.subs.length + 1 ∧ ∀ (j : Nat) (q : List UInt8), ([] :: pcs x.subs)[j]? = some q → ∃ v, pl[j]? = some v ∧ RBytes (fun i => i = ad.block) W v q := by
  have h9 := split_pieces (c := 31) (w := W) (pcs x.subs) [] (ad.add (2 * 1)) (cap - 2) (pcs_no hv6) (by rw [← subs_jn]; omega) (by rw [← subs_jn]; omega) (by rw [← subs_jn]; exact hc2)
  rw [← subs_jn, ← hpl, hpn, add_block] at h9; exact h9
 obtain ⟨B2, hB2⟩ : ∃ B2, B2 = w5.heap.size := ⟨_, rfl⟩
 have hb5l := o5.lt
 have hb4l := o4.lt
 have hb28l := o28.lt
 refine ⟨_, rfl, ?_⟩
 refine s_slL (lo := 1) (m := x.subs.length) el100 rfl rfl rfl rfl rfl rfl (by omega) (by omega) ?_
 rw [part_at (A := some ⟨b28, 0, none⟩) rfl (show x.subs.length + 1 ≠ 1 by omega)]
 refine s_lenL Tryz.underlying100 rfl rfl rfl (mvI rfl rfl rfl (w_nil (then_n (wp_block ?_))))
 refine c_loop (fun m f w => ∃ g k vo rs, m = x.subs.length - k ∧ k ≤ x.subs.length ∧ f = (upd (upd (upd (upd (upd g 4 (.pointer (some ⟨b4, 0, none⟩))) 5 (.pointer (some ⟨b5, 0, none⟩))) 29 (.slice (some (Addr.add ⟨b28, 0, none⟩ (1 * 1))) x.subs.length (x.subs.length + 1 - 1))) 30 (.int .i64 (x.subs.length : Nat))) 31 (.int .i64 (k : Nat))) ∧ Own w b5 53 [.string x.tag, .int .u8 x.i0, .int .u8 x.i1, vo] ∧ Own w b4 53 [.string ⟨#[]⟩, .int .u8 0, .int .u8 0, .slice none 0 0] ∧ Own w b28 38 pl ∧ Row w vo 50 2 k ((x.subs.take k).flatMap Sub.cells) rs ∧ (∀ b, rs = some b → B2 ≤ b) ∧ B2 ≤ w.heap.size ∧ New W w) (x.subs.length) ⟨_, 0, _, none, by omega, by omega, (upd_keep' (upd_keep' (upd_keep' (upd_keep' (upd_keep' rfl rfl) rfl) rfl) rfl) rfl), o5, o4, o28, Row.nil _ 50 2, (fun b h => by cases h), by omega, K⟩ ?_
 clear K o5 o4 o28
 rintro m _ w0 ⟨g, k, vo, rs, rfl, hk, rfl, o5, o4, o28, hrow, hge, hBw, K⟩
 have K0 := K
 have kw0 : New w0 w0 := Kp.refl _ _
 refine wp_seq (c_reg (s_lss rfl rfl rfl rfl rfl rfl (w_nil (then_n (wp_seq ?_)))))
 refine c_if rfl rfl ?_ ?_
 ·intro ht32
  (try simp only [Q1, Q2, Q3, Q4, Q5] at ht32)
  have hlt : k < x.subs.length := by omega
  obtain ⟨sb, hsb⟩ : ∃ sb, sb = x.subs[k] := ⟨_, rfl⟩
  obtain ⟨pv, hpv, hpr⟩ := hps.2 (k + 1) (UInt8.ofNat sb.code.toNat :: sb.value.data.toList) (by simp [pcs, hlt, hsb])
  have hpr2 := hpr
  obtain ⟨Ap, cp, rfl, hcp, hAp⟩ := hpr
  have hvs := hv6 _ (List.getElem_mem hlt)
  rw [← hsb] at hvs
  have hcd := cd_le hvs.1
  obtain ⟨ap, rfl, _, hap⟩ := hAp.2 0 _ rfl
  have hcu := u8v (x := sb.code) (by omega)
  have hpl9 : (UInt8.ofNat sb.code.toNat :: sb.value.data.toList).length = sb.value.size + 1 := by rw [List.length_cons, tl_len]
  have hRp : RBytes (fun i => i = ad.block) W (.slice (part (some ap) 1 cp 1) sb.value.size (cp - 1)) sb.value.data.toList := by
   have h9 := RBytes.part (lo := 1) (hi := sb.value.size + 1) hpr2 (by omega) (by rw [hpl9]; omega)
   rw [Nat.add_sub_cancel, List.drop_succ_cons, List.drop_zero, List.take_of_length_le (by rw [tl_len]; omega)] at h9; exact h9
  rw [hpl9] at hpv hcp
  have hvt := hvs.2.2.1
  refine wp_skip (then_n (wp_seq (wp_block (wp_seq (c_reg (s_iaE (j := k) el100 rfl rfl rfl rfl rfl rfl (by omega) ?_))))))
  refine s_ld1 (v := .slice (some ap) (sb.value.size + 1) cp) on38 rfl rfl rfl (by have h9 := o28.get (k + 1) hpv; rw [add_add]; simpa [Nat.add_comm] using h9) ?_
  refine s_as (v := .slice (some ap) (sb.value.size + 1) cp) rfl rfl rfl (w_nil (then_n (wp_seq (wp_seq (c_reg (s_mv (v := .slice (some ap) (sb.value.size + 1) cp) rfl rfl rfl (s_lenL Tryz.underlying38 rfl rfl rfl (s_eq rfl rfl rfl rfl rfl (decide_eq_false (by omega)) (w_nil ?_)))))))))
  refine then_n (c_F rfl rfl (wp_skip (then_n ?_)))
  have kd : New w0 w0.drew := (Kp.refl _ _).drew
  have hdw : w0.drew.heap.size = w0.heap.size := rfl
  replace o5 := o5.kp kd (fun e => e)
  replace o4 := o4.kp kd (fun e => e)
  replace o28 := o28.kp kd (fun e => e)
  replace K := K.transN kd
  replace kw0 := kw0.transN kd
  have KW := K
  have hkw := kw0.size
  replace hrow := hrow.kp kw0 (fun _ _ e => e)
  have hMW : ∀ i, i < W.heap.size → some i = rs → False := fun i hi e => by have := hge i e.symm; have := K0.size; omega
  have q_o5 := o5
  refine c_drawL (fun u => Kp (fun k => some k = rs) (w0.drew) u) [false, false, false, false, false, false, false, false, false, true, true, false] [[], [0], [], [2], [3], [], [5], [6], [4, 7], [8], [1, 9], [], [0, 1, 2, 3, 4, 5, 6, 7, 8, 9, 10, 11]] (fun i => i) (rank_back (by kernel_rfl)) (lo := [_, _, _, _, _, _, _, _, _, _, _, _]) rfl rfl (by kernel_rfl) (by kernel_rfl) (Kp.refl _ _) ?_
  have kR : Kp (fun k => some k = rs) (w0.drew) (w0.drew) := Kp.refl _ _
  refine t_q rfl rfl rfl (fun u hF => s_fa fi53_2 rfl rfl rfl (w_nil ⟨rfl, rfl, rfl⟩)) ?_
  refine t_q rfl rfl rfl (fun u hF => s_ld1 (v := vo) on51 rfl rfl rfl ((q_o5.kp hF (fun e => by have := hge b5 e.symm; omega)).get 3 rfl) (w_nil ⟨rfl, rfl, rfl⟩)) ?_
  refine t_q rfl rfl rfl (fun u hF => s_mv (v := .slice (some ap) (sb.value.size + 1) cp) rfl rfl rfl (w_nil ⟨rfl, rfl, rfl⟩)) ?_
  refine t_q rfl rfl rfl (fun u hF => s_iaE (j := 0) el38 rfl rfl rfl rfl rfl rfl (by omega) (w_nil ⟨rfl, rfl, rfl⟩)) ?_
  refine t_q rfl rfl rfl (fun u hF => s_ld1 (v := .int .u8 sb.code) on5 rfl rfl rfl (by have h9 := (KW.trans' hF hMW).cell hap (fun e => e); rw [hcu] at h9; exact h9) (w_nil ⟨rfl, rfl, rfl⟩)) ?_
  refine t_q rfl rfl rfl (fun u hF => s_mv (v := .slice (some ap) (sb.value.size + 1) cp) rfl rfl rfl (w_nil ⟨rfl, rfl, rfl⟩)) ?_
  refine t_q rfl rfl rfl (fun u hF => s_slL (lo := 1) (m := sb.value.size) el38 rfl rfl rfl rfl rfl rfl (by omega) (by omega) (w_nil ⟨rfl, rfl, rfl⟩)) ?_
  refine t_q rfl rfl rfl (fun u hF => s_cvBS (s := sb.value.data.toList) Tryz.underlying38 Tryz.underlying5 Tryz.underlying9 rfl rfl rfl (hRp.kp (KW.trans' hF hMW) (fun _ _ _ e => e)) (w_nil ⟨rfl, rfl, rfl⟩)) ?_
  refine t_q rfl rfl rfl (fun u hF => s_bd2 (cells := #[.int .u8 sb.code, .string sb.value]) bd50 rfl rfl rfl rfl rfl rfl (w_nil ⟨rfl, rfl, rfl⟩)) ?_
  refine t_l2 rfl (s_bs1E (cs := sb.cells) el51 rfl (by decide) rfl rfl rfl rfl ?_)
  intro b49 w6 eb49 o49 k49 z49
  replace o5 := o5.kp k49 (fun e => e)
  replace o4 := o4.kp k49 (fun e => e)
  replace o28 := o28.kp k49 (fun e => e)
  replace K := K.transN k49
  replace kw0 := kw0.transN k49
  replace kR := kR.transN k49
  replace hrow := hrow.kp k49 (fun _ _ e => e)
  have hk49 := k49.size
  refine w_nil ⟨rfl, _, rfl, kR, ?_⟩
  refine t_l2 rfl (s_appR (news := sb.cells) el51 rfl rfl rfl rfl rfl rfl hrow o49.cells rfl rfl (by omega) ?_)
  intro vz wA rz rowz kA hrz
  have hgz := row_fresh hge (show B2 ≤ _ by omega) hrz
  have hkA := kA.size
  have e9 : (x.subs.take k).flatMap Sub.cells ++ sb.cells = (x.subs.take (k + 1)).flatMap Sub.cells := by rw [hsb]; exact (fm_succ _ _ hlt).symm
  rw [e9] at rowz
  replace o5 := o5.kp kA (fun e => by have := hge b5 e.symm; omega)
  replace o4 := o4.kp kA (fun e => by have := hge b4 e.symm; omega)
  replace o28 := o28.kp kA (fun e => by have := hge b28 e.symm; omega)
  replace K := New.row K (fun b hb => by have := hge b hb; omega) kA
  replace kR := kR.trans kA
  refine w_nil ⟨rfl, _, rfl, kR, ?_⟩
  refine t_q rfl rfl rfl (fun u hF => s_fa fi53_2 rfl rfl rfl (w_nil ⟨rfl, rfl, rfl⟩)) ?_
  refine t_e ?_
  have hsh := Row.shape rowz
  have h1z : vz.cells = #[vz] ∧ vz.oneCell' = true := by obtain ⟨_, _, e, _⟩ := hsh; rw [e]; exact ⟨rfl, rfl⟩
  refine s_st 3 sz51 (v := vz) (new := [vz]) rfl rfl rfl rfl rfl h1z.1 (by simp [h1z.2]) o5 rfl rfl rfl ?_
  clear o5; intro w7 o5 kz zz
  replace rowz := rowz.kp kz (fun b hb (e : b = b5) => by have := hgz b hb; omega)
  replace o4 := o4.kp kz (fun (e : b4 = b5) => by omega)
  replace o28 := o28.kp kz (fun (e : b28 = b5) => by omega)
  replace K := K.trans' kz (fun i hi (e : i = b5) => by omega)
  have hkz := kz.size
  refine w_nil ⟨rfl, _, rfl, ?_⟩
  refine inb_n (then_n (c_reg (s_add rfl rfl rfl rfl rfl (w64 (by omega)) (mvI rfl rfl rfl (w_nil (then_n ?_))))))
  exact ⟨x.subs.length - (k + 1), _, by omega, rfl, _, k + 1, vz, rz, rfl, by omega, (upd_keep' (upd_keep' (upd_keep' (upd_keep' (upd_keep' rfl rfl) rfl) rfl) rfl) rfl), o5, o4, o28, rowz, hgz, (by omega), K⟩
 ·intro ht32
  (try simp only [Q1, Q2, Q3, Q4, Q5] at ht32)
  refine wp_exit (then_x (then_x (inb_x (then_n (wp_seq (c_reg (s_ldA ag53 rfl rfl rfl o5.cells rfl ?_)))))))
  have h1v : vo.oneCell' = true := by obtain ⟨_, _, e, _⟩ := Row.shape hrow; rw [e]; rfl
  refine s_st 0 sz53 (v := .agg #[.string x.tag, .int .u8 x.i0, .int .u8 x.i1, vo]) (new := [.string x.tag, .int .u8 x.i0, .int .u8 x.i1, vo]) (cs' := [.string x.tag, .int .u8 x.i0, .int .u8 x.i1, vo]) rfl rfl rfl rfl rfl rfl (by show (true && (true && (true && (Value.oneCell' vo && true)))) = true; rw [h1v]; rfl) o4 rfl rfl rfl ?_
  clear o4; intro w6 o4 kz zz
  replace hrow := hrow.kp kz (fun b hb (e : b = b4) => by have := hge b hb; have := o5.lt; omega)
  replace K := K.trans' kz (fun i hi (e : i = b4) => by omega)
  refine w_nil (then_n (wp_ret ?_))
  obtain rfl : k = x.subs.length := by omega
  rw [List.take_length] at hrow
  refine retC (t := 4) (T := 53) ag53 rfl rfl rfl o4.cells rfl ⟨vo, rfl, ?_, K⟩
  exact (rsubs_of_row hrow (by omega)).weak (fun i e => by have := hge i e.symm; omega)
end
section
theorem c66i (a b c : Value) (w : World) : CallsD Tryz.prog 66 #[a, b, c] .returning w fun e u' w' => e = .returned (.tuple #[]) ∧ u' = .returning ∧ w' = w := by
  refine callsD_of_wpS Tryz.func66 rfl fun c₀ cs hu => ?_
  apply wpS_seq
  apply wpS_region
  simp [wpOpsS, go_sem, recoverD, hu, Tryz.ntmps66, Exit.thenS]
  apply wpS_seq
  apply wpS_region
  simp [wpOpsS, go_sem, recoverD, hu, Tryz.ntmps66, Exit.thenS]
  refine wpS_cond (t := false) (by simp [Act.eval, Array.replicate]) ?_
  simp only [Bool.false_eq_true, if_false]
  refine wpS_of_wp (wp_skip ?_)
  cases c₀
  simp_all [bodyPostS, results, Tryz.results66]
section
variable {P : Program} {ops : Array Oper} {Q : Exit → Act → World → Prop} {n : Nat} {ds : List Deferred} {f : Nat → Value} {w : World} {rest : List Oper} {d : Nat} {ty : TypeId} {pos : String} {af : Array Edge} {g : Option (Nat × Bool)} {v v1 v2 : Value} {x y z : Operand}
theorem s_mf3 {F : FuncId} (hg : Gd n ops f g = some true) (hb : inb n x = true) (hb' : inb n y = true) (hb2 : inb n z = true) (hx : ev f x = v) (hy : ev f y = v1) (hz : ev f z = v2)
    (k : WL .plain P ops Q rest n ds (upd f d (.func (.func F) #[] #[v, v1, v2])) w) : WL .plain P ops Q (⟨some d, .makeFunc (.func F) #[] #[x, y, z], ty, pos, af, g⟩ :: rest) n ds f w :=
  st_run hg (by simp only [execOp, List.map_toArray, List.map_cons, List.map_nil, Fr_eval hb, Fr_eval hb', Fr_eval hb2, hx, hy, hz]; rfl) k
theorem s_defer {F : FuncId} {caps : Array Value} (hg : Gd n ops f g = some true) (hb : inb n x = true) (hx : ev f x = .func (.func F) #[] caps)
    (k : WL .plain P ops Q rest n ({ target := .fn (.func F) caps, args := #[] } :: ds) f w) : WL .plain P ops Q (⟨none, .defer ⟨.value x, #[], #[]⟩, ty, pos, af, g⟩ :: rest) n ds f w := by
  constructor
  have k := k.out
  simp only [wpM] at k ⊢
  unfold wpList
  rw [if_pos (wanted_of hg)]
  refine .inl ?_
  unfold Oper.wp
  have hr : (execOp (Fr n ds f).eval ⟨none, .defer ⟨.value x, #[], #[]⟩, ty, pos, af, g⟩).run P w = .ok (.defer { target := .fn (.func F) caps, args := #[] }) w := by
    simp only [execOp, resolve, Fr_eval hb, hx, List.map_toArray, List.map_nil, Deferred.ofValue]
    rfl
  rw [hr]
  exact k
theorem enterD {F : FuncId} {fn : Func} {c : Code} {args : Array Value} {R : Ending → World → Prop} {n : Nat} (hf : P.funcs[F]? = some fn) (hb : fn.body = some c) (hn : fn.ntmps = n) (ha : args.size ≤ n)
    (h : c.wp P (bodyPostD P fn R) (Fr n [] (fun i => args.getD i undef)) w) : Calls P F args w R := by
  refine calls_of_wp_defers hf hb ?_
  have e : ({ tmps := args ++ Array.replicate (fn.ntmps - args.size) undef, defers := [] } : Act) = Fr n [] (fun i => args.getD i undef) := by
    simp only [Fr, Act.mk.injEq, and_true]
    apply Array.ext
    · simp; omega
    · intro i h1 h2
      simp only [Array.getElem_ofFn]
      by_cases hi : i < args.size
      · rw [Array.getElem_append_left hi]; simp [Array.getD, hi]
      · rw [Array.getElem_append_right (by omega)]; simp [Array.getD, hi]
  rw [e]; exact h
theorem retD {fn : Func} {R : Ending → World → Prop} {t u s : Nat} {p2 p3 p4 : Addr} {c2 : List Value} {a b c : Value} (hr : fn.results = #[.cell t 24, .cell u 3, .cell s 4]) (hb : Nat.blt t n = true) (hb' : Nat.blt u n = true) (hb'' : Nat.blt s n = true)
    (hv : f t = .pointer (some p2)) (hu : f u = .pointer (some p3)) (hs : f s = .pointer (some p4)) (h2 : CellsAt w p2 c2) (hl : c2.length = 2) (h3 : w.cell? p3 = some v) (h4 : w.cell? p4 = some v1)
    (h : R (.returned (.tuple #[.agg c2.toArray, v, v1])) w) : bodyPostD Tryz.prog fn R .ret (Fr n [{ target := .fn (.func 66) #[a, b, c], args := #[] }] f) w := by
  refine leaves_cons (f := 66) (args := #[a, b, c]) (by simp) ?_ ((c66i a b c w).mono ?_)
  · obtain ⟨fn, hF, hn, hbd⟩ := go66
    simp [invoke, callFunc, hF, hn, hbd, go_sem]
  rintro e u' w' ⟨rfl, rfl, rfl⟩
  have e1 := Fr_getD n [] f t (by simpa using hb)
  have e2 := Fr_getD n [] f u (by simpa using hb')
  have e3 := Fr_getD n [] f s (by simpa using hb'')
  refine ⟨_, ?_, h⟩
  simp only [results, hr, List.mapM_toArray, List.mapM_cons, List.mapM_nil]
  simp only [Fr] at e1 e2 e3 ⊢
  simp only [e1, e2, e3, hv, hu, hs]
  simp [asAddr, run_loadA ag24 hl h2, run_load1 on3 h3, run_load1 on4 h4]
end
end
section
theorem mid_of {α : Type} {b p q r : List α} {i n : Nat} (h : b = p ++ q ++ r) (hp : p.length = i) (hq : q.length = n) : (b.drop i).take n = q := by
  subst h hp hq
  rw [List.append_assoc, List.drop_left, List.take_left]
theorem wdir_app2 : ∀ (l1 l2 : List Fld) (k : Nat), wdir k (l1 ++ l2) = wdir k l1 ++ wdir (k + (wdat l1).length) l2 := by
  intro l1
  induction l1 with
  | nil => intro l2 k; simp [wdir, wdat]
  | cons a l ih =>
    intro l2 k
    simp only [List.cons_append, wdir]
    rw [ih]
    simp [wdat, Nat.add_assoc]
theorem wdat_app2 (l1 l2 : List Fld) : wdat (l1 ++ l2) = wdat l1 ++ wdat l2 := by simp [wdat]
theorem split_at' {α : Type} {l : List α} {k : Nat} (h : k < l.length) : l = l.take k ++ l[k] :: l.drop (k + 1) := by
  rw [List.getElem_cons_drop, List.take_append_drop]
section
variable {id : Nat} {l : List Fld} {k : Nat}
def hd22 (id : Nat) (l : List Fld) : List UInt8 := digs 6 (22 + (wdir 0 l).length + 1 + (wdat l).length + 1) ++ digs 6 (22 + (wdir 0 l).length + 1) ++ digs 10 id
theorem hd22_len : (hd22 id l).length = 22 := by simp [hd22, digs_len]
theorem wex_eq : wex id l = hd22 id l ++ wdir 0 l ++ [30] ++ wdat l ++ [29] := by simp [wex, hd22]
theorem wex_len : (wex id l).length = 22 + (wdir 0 l).length + 1 + (wdat l).length + 1 := by simp [wex_eq, hd22_len]; omega
theorem wex_0 : ((wex id l).drop 0).take 6 = digs 6 (22 + (wdir 0 l).length + 1 + (wdat l).length + 1) :=
  mid_of (p := []) (r := digs 6 (22 + (wdir 0 l).length + 1) ++ digs 10 id ++ wdir 0 l ++ [30] ++ wdat l ++ [29]) (by simp [wex]) rfl (digs_len _ _)
theorem wex_6 : ((wex id l).drop 6).take 6 = digs 6 (22 + (wdir 0 l).length + 1) :=
  mid_of (p := digs 6 (22 + (wdir 0 l).length + 1 + (wdat l).length + 1)) (r := digs 10 id ++ wdir 0 l ++ [30] ++ wdat l ++ [29]) (by simp [wex]) (digs_len _ _) (digs_len _ _)
theorem wex_12 : ((wex id l).drop 12).take 10 = digs 10 id :=
  mid_of (p := digs 6 (22 + (wdir 0 l).length + 1 + (wdat l).length + 1) ++ digs 6 (22 + (wdir 0 l).length + 1)) (r := wdir 0 l ++ [30] ++ wdat l ++ [29]) (by simp [wex]) (by simp [digs_len]) (digs_len _ _)
theorem dir_at (hv : ∀ f ∈ l, VFld VText f) (h : k < l.length) : ∃ p r, wex id l = p ++ (l[k].tag.data.toList ++ digs 5 (fdat l[k]).length ++ digs 6 (wdat (l.take k)).length) ++ r ∧ p.length = 22 + 14 * k := by
  refine ⟨hd22 id l ++ wdir 0 (l.take k), wdir (0 + (wdat (l.take k)).length + (fdat l[k]).length) (l.drop (k + 1)) ++ [30] ++ wdat l ++ [29], ?_, ?_⟩
  · rw [wex_eq]
    have e : wdir 0 l = wdir 0 (l.take k) ++ ((l[k].tag.data.toList ++ digs 5 (fdat l[k]).length ++ digs 6 (0 + (wdat (l.take k)).length)) ++ wdir (0 + (wdat (l.take k)).length + (fdat l[k]).length) (l.drop (k + 1))) := by
      conv => lhs; rw [split_at' h]
      rw [wdir_app2]; rfl
    rw [e]; simp only [Nat.zero_add, List.append_assoc]
  · rw [List.length_append, hd22_len, wdir_len (take_all hv k), List.length_take]; omega
theorem wex_tag (hv : ∀ f ∈ l, VFld VText f) (h : k < l.length) : ((wex id l).drop (22 + 14 * k)).take 3 = l[k].tag.data.toList := by
  obtain ⟨p, r, e, hp⟩ := dir_at (id := id) hv h
  exact mid_of (p := p) (r := digs 5 (fdat l[k]).length ++ digs 6 (wdat (l.take k)).length ++ r) (by rw [e]; simp) hp (tag_len (hv _ (List.getElem_mem h)).1).1
theorem wex_n (hv : ∀ f ∈ l, VFld VText f) (h : k < l.length) : ((wex id l).drop (22 + 14 * k + 3)).take 5 = digs 5 (fdat l[k]).length := by
  obtain ⟨p, r, e, hp⟩ := dir_at (id := id) hv h
  exact mid_of (p := p ++ l[k].tag.data.toList) (r := digs 6 (wdat (l.take k)).length ++ r) (by rw [e]; simp) (by rw [List.length_append, hp, (tag_len (hv _ (List.getElem_mem h)).1).1]) (digs_len _ _)
theorem wex_b (hv : ∀ f ∈ l, VFld VText f) (h : k < l.length) : ((wex id l).drop (22 + 14 * k + 3 + 5)).take 6 = digs 6 (wdat (l.take k)).length := by
  obtain ⟨p, r, e, hp⟩ := dir_at (id := id) hv h
  exact mid_of (p := p ++ l[k].tag.data.toList ++ digs 5 (fdat l[k]).length) (r := r) (by rw [e]; simp) (by rw [List.length_append, List.length_append, hp, (tag_len (hv _ (List.getElem_mem h)).1).1, digs_len]) (digs_len _ _)
theorem wex_d (hv : ∀ f ∈ l, VFld VText f) (h : k < l.length) : ((wex id l).drop (22 + (wdir 0 l).length + 1 + (wdat (l.take k)).length)).take (fdat l[k]).length = fdat l[k] := by
  have e : wdat l = wdat (l.take k) ++ (fdat l[k] ++ wdat (l.drop (k + 1))) := by
    conv => lhs; rw [split_at' h]
    rw [wdat_app2]; rfl
  refine mid_of (p := hd22 id l ++ wdir 0 l ++ [30] ++ wdat (l.take k)) (r := wdat (l.drop (k + 1)) ++ [29]) ?_ ?_ rfl
  · rw [wex_eq]
    conv => lhs; rw [e]
    simp only [List.append_assoc]
  · simp only [List.length_append, hd22_len, List.length_cons, List.length_nil]
theorem wdat_take (h : k < l.length) : (wdat (l.take k)).length + (fdat l[k]).length ≤ (wdat l).length := by
  have e : wdat l = wdat (l.take k) ++ (fdat l[k] ++ wdat (l.drop (k + 1))) := by
    conv => lhs; rw [split_at' h]
    rw [wdat_app2]; rfl
  rw [e]; simp only [List.length_append]; omega
end
theorem num_digs' (n k : Nat) {m : Nat} (hm : m = 10 ^ n) (h : k < m) : num (digs n k) = k := num_digs n k (hm ▸ h)
def pl109 : Nat → Option (Nat × Nat) := (#[(0, 2)][·]?)
theorem bd109 : isBd Tryz.prog 109 pl109 #[.slice none 0 0, .int .i64 0] := fun parts => by kernel_rfl
section steps
variable {md : Md} {P : Program} {ops : Array Oper} {Q : Exit → Act → World → Prop} {n : Nat} {ds : List Deferred} {f : Nat → Value} {w w' : World} {rest : List Oper}
  {d : Nat} {ty : TypeId} {pos : String} {af : Array Edge} {g : Option (Nat × Bool)} {v : Value} {x y z : Operand} {T : TypeId}
theorem s_appF1 {B : Nat} {v1 vs : Value} {l : List Fld} {e : Fld} {r : Option Nat} {a : Addr} {c bytes : Nat} (hE : elIs P T 53 4 bytes) (h100 : Nat.ble bytes 100 = true)
    (hg : Gd n ops f g = some true) (hb : inb n x = true) (hb' : inb n y = true) (hx : ev f x = v1) (hy : ev f y = .slice (some a) 1 c)
    (h1 : FRow B w v1 l r) (hc : CellsAt w a (e.cells vs)) (hs : RSubs (fun i => B ≤ i ∧ some i ≠ r) w vs e.subs) (hBw : B ≤ w.heap.size) (hm : l.length + 1 ≤ 1000000)
    (k : ∀ v' w' r', FRow B w' v' (l ++ [e]) r' → Kp (fun k => some k = r) w w' → (r' = r ∨ r' = some w.heap.size) → WL md P ops Q rest n ds (upd f d v') w') :
    WL md P ops Q (⟨some d, .call ⟨.builtin .append, #[x, y], #[T, T]⟩, ty, pos, af, g⟩ :: rest) n ds f w := by
  obtain ⟨xs, hxs, hnx⟩ := h1.parts hBw
  have h1c : (e.cells vs).all (·.oneCell') = true := by
    show (true && (true && (true && (Value.oneCell' vs && true)))) = true
    rw [hs.one]; rfl
  refine s_appR (news := e.cells vs) hE h100 hg hb hb' hx hy hxs hc rfl h1c hm fun v' w' r' hr hk ho => k v' w' r' ?_ hk ho
  have := hnx [(e, vs)] w' v' r' (by simpa [flatF] using hr) hk ho (by intro p hp; simp only [List.mem_singleton] at hp; subst hp; exact hs)
  simpa using this
end steps
end
section
theorem FRow.weakB {B B2 : Nat} {w : World} {v : Value} {l : List Fld} {r : Option Nat} (h : FRow B w v l r) (hB : B2 ≤ B) : FRow B2 w v l r := by
 obtain ⟨ps, h1, h2, h3, h4⟩ := h
 exact ⟨ps, h1, h2, fun p hp => (h3 p hp).weak (fun i hi => ⟨by omega, hi.2⟩), fun b hb => by have := h4 b hb; omega⟩
theorem c32 (id : Int) (l : List Fld) (a : Addr) (cap : Nat) (w : World) (hT : Tb w) (hv : VRec VText id l) (hB : BytesAt (fun i => i = a.block) w (some a) (wex id.toNat l)) (hcap : (wex id.toNat l).length ≤ cap) (hcm : cap ≤ 9223372036854775807) (hab : a.block < w.heap.size) : Calls Tryz.prog 32 #[.slice (some a) (wex id.toNat l).length cap] w fun e w' => ∃ A2 c2 r, e = .returned (.tuple #[.agg #[.int .i64 id, .slice A2 l.length c2], .int .i64 ((wex id.toNat l).length : Nat), .bool true]) ∧ FRow w.heap.size w' (.slice A2 l.length c2) l r ∧ New w w' := by
 obtain ⟨W, hW⟩ : ∃ W, W = w := ⟨_, rfl⟩
 subst hW
 have K : New W W := Kp.refl _ _
 obtain ⟨hv1, hv2, hv3, hv4, hv5⟩ := hv
 have hdl := wdir_len hv5 0
 have hal := wdat_le hv5
 have hwl := wex_len (id := id.toNat) (l := l)
 have hRB : RBytes (fun i => i = a.block) W (.slice (some a) (wex id.toNat l).length cap) (wex id.toNat l) := ⟨_, _, rfl, hcap, hB⟩
 refine enterD (n := 93) Tryz.func32 rfl rfl (by simp) ?_
 refine wp_seq (c_reg (s_alloc z24 rfl rfl ?_))
 intro b2 w1 eb2 o2 kb2 zb2
 have gb2_K : W.heap.size ≤ b2 := by have := K.size; omega
 replace K := K.transN kb2
 refine s_alloc z3 rfl rfl ?_
 intro b3 w2 eb3 o3 kb3 zb3
 have gb3_K : W.heap.size ≤ b3 := by have := K.size; omega
 replace o2 := o2.kp kb3 (fun e => e)
 replace K := K.transN kb3
 refine s_alloc z4 rfl rfl ?_
 intro b4 w3 eb4 o4 kb4 zb4
 have gb4_K : W.heap.size ≤ b4 := by have := K.size; omega
 replace o2 := o2.kp kb4 (fun e => e)
 replace o3 := o3.kp kb4 (fun e => e)
 replace K := K.transN kb4
 refine w_nil (then_n (wp_seq (c_reg (s_mf3 rfl rfl rfl rfl rfl rfl rfl (s_defer rfl rfl rfl (w_nil (then_n (wp_seq (c_reg ?_)))))))))
 refine s_mv (v := .slice (some a) (wex id.toNat l).length cap) rfl rfl rfl (s_bd1 (cells := #[.slice (some a) (wex id.toNat l).length cap, .int .i64 0]) bd107 rfl rfl rfl rfl (s_bd1 (cells := #[.slice (some a) (wex id.toNat l).length cap, .int .i64 0]) bd109 rfl rfl rfl rfl (s_box (v := .agg #[.slice (some a) (wex id.toNat l).length cap, .int .i64 0]) (cs := [.slice (some a) (wex id.toNat l).length cap, .int .i64 0]) rfl rfl rfl rfl ?_)))
 intro bP w4 ebP oP kbP zbP
 have gbP : W.heap.size ≤ bP := by have := K.size; omega
 replace o2 := o2.kp kbP (fun e => e)
 replace o3 := o3.kp kbP (fun e => e)
 replace o4 := o4.kp kbP (fun e => e)
 replace K := K.transN kbP
 refine s_as (v := .pointer (some _)) rfl rfl rfl (w_nil (then_n (wp_seq (c_reg (s_mv (v := .pointer (some _)) rfl rfl rfl ?_)))))
 refine s_call2 go67 rfl (c67 (G := fun i => i = a.block) bP (some a) cap (wex id.toNat l) (0) 6 _ _ oP (hRB.kp K (fun _ _ _ e => e)) (fun e => by have e2 : bP = a.block := e; omega) (wex_0) (digs_len _ _) (digs_dg _ _) (by decide) (fun h => absurd h (by decide)) (by omega)) rfl rfl rfl rfl ?_
 clear oP; rintro _ w5 ⟨rfl, oP, kz, zz⟩
 replace o2 := o2.kp kz (show ¬ (_ = _) by omega)
 replace o3 := o3.kp kz (show ¬ (_ = _) by omega)
 replace o4 := o4.kp kz (show ¬ (_ = _) by omega)
 replace K := K.trans' kz (fun i hi (e : i = bP) => by omega)
 rw [num_digs' 6 _ (m := 1000000) (by decide) (by omega)]
 rw [← hwl]
 rw [show 0 + 6 = 6 from rfl] at oP
 refine ⟨_, rfl, ?_⟩
 refine s_st 0 sz3 (v := .int .i64 _) rfl rfl rfl rfl rfl rfl rfl o3 rfl rfl rfl ?_
 clear o3; intro w6 o3 ksw6 zsw6
 replace o2 := o2.kp ksw6 (show ¬ (_ = _) by omega)
 replace o4 := o4.kp ksw6 (show ¬ (_ = _) by omega)
 replace oP := oP.kp ksw6 (show ¬ (_ = _) by omega)
 replace K := K.trans' ksw6 (fun i hi (e : i = b3) => by omega)
 refine w_nil (then_n (wp_seq (c_reg (s_mv (v := .pointer (some _)) rfl rfl rfl ?_))))
 refine s_call2 go67 rfl (c67 (G := fun i => i = a.block) bP (some a) cap (wex id.toNat l) (6) 6 _ _ oP (hRB.kp K (fun _ _ _ e => e)) (fun e => by have e2 : bP = a.block := e; omega) (wex_6) (digs_len _ _) (digs_dg _ _) (by decide) (fun h => absurd h (by decide)) (by omega)) rfl rfl rfl rfl ?_
 clear oP; rintro _ w7 ⟨rfl, oP, kz, zz⟩
 replace o2 := o2.kp kz (show ¬ (_ = _) by omega)
 replace o3 := o3.kp kz (show ¬ (_ = _) by omega)
 replace o4 := o4.kp kz (show ¬ (_ = _) by omega)
 replace K := K.trans' kz (fun i hi (e : i = bP) => by omega)
 rw [num_digs' 6 _ (m := 1000000) (by decide) (by omega)]
 rw [show 6 + 6 = 12 from rfl] at oP
 refine ⟨_, rfl, ?_⟩
 refine asI rfl rfl rfl (w_nil (then_n (wp_seq (c_reg (s_mv (v := .pointer (some _)) rfl rfl rfl ?_)))))
 refine s_call2 go67 rfl (c67 (G := fun i => i = a.block) bP (some a) cap (wex id.toNat l) (12) 10 _ _ oP (hRB.kp K (fun _ _ _ e => e)) (fun e => by have e2 : bP = a.block := e; omega) (wex_12) (digs_len _ _) (digs_dg _ _) (by decide) (fun h => absurd h (by decide)) (by omega)) rfl rfl rfl rfl ?_
 clear oP; rintro _ w8 ⟨rfl, oP, kz, zz⟩
 replace o2 := o2.kp kz (show ¬ (_ = _) by omega)
 replace o3 := o3.kp kz (show ¬ (_ = _) by omega)
 replace o4 := o4.kp kz (show ¬ (_ = _) by omega)
 replace K := K.trans' kz (fun i hi (e : i = bP) => by omega)
 rw [num_digs' 10 _ (m := 10000000000) (by decide) (by omega)]
 rw [show ((id.toNat : Nat) : Int) = id by omega]
 rw [show 12 + 10 = 22 from rfl] at oP
 refine ⟨_, rfl, ?_⟩
 refine s_fa fi24_0 rfl rfl rfl (s_st 0 sz3 (v := .int .i64 _) rfl rfl rfl rfl rfl rfl rfl o2 rfl rfl rfl ?_)
 clear o2; intro w9 o2 ksw9 zsw9
 replace o3 := o3.kp ksw9 (show ¬ (_ = _) by omega)
 replace o4 := o4.kp ksw9 (show ¬ (_ = _) by omega)
 replace oP := oP.kp ksw9 (show ¬ (_ = _) by omega)
 replace K := K.trans' ksw9 (fun i hi (e : i = b2) => by omega)
 refine w_nil (then_n (wp_seq ?_))
 have kd : New w9 w9.drew := (Kp.refl _ _).drew
 have hdw : w9.drew.heap.size = w9.heap.size := rfl
 replace o2 := o2.kp kd (fun e => e)
 replace o3 := o3.kp kd (fun e => e)
 replace o4 := o4.kp kd (fun e => e)
 replace oP := oP.kp kd (fun e => e)
 replace K := K.transN kd
 have q_oP := oP
 have q_o3 := o3
 refine c_drawL (fun u => Kp (fun _ => False) (w9.drew) u) [false, false, false, false, false, false, false, false, true, false, false, true, false, false, false, false, false, false] [[], [], [1], [2], [3], [4], [], [6], [7], [], [9], [8, 10], [11], [12], [5, 13], [0], [15], [15, 16], [0, 1, 2, 3, 4, 5, 6, 7, 8, 9, 10, 11, 12, 13, 14, 15, 16, 17]] (fun i => i) (rank_back (by kernel_rfl)) (lo := [_, _, _, _, _, _, _, _, _, _, _, _, _, _, _, _, _, _]) rfl rfl (by kernel_rfl) (by kernel_rfl) (Kp.refl _ _) ?_
 have kR : Kp (fun _ => False) (w9.drew) (w9.drew) := Kp.refl _ _
 refine t_q rfl rfl rfl (fun u hF => s_mv (v := .pointer (some _)) rfl rfl rfl (w_nil ⟨rfl, rfl, rfl⟩)) ?_
 refine t_q rfl rfl rfl (fun u hF => s_mv (v := .pointer (some _)) rfl rfl rfl (w_nil ⟨rfl, rfl, rfl⟩)) ?_
 refine t_nc rfl rfl rfl ?_
 refine t_q rfl rfl rfl (fun u hF => s_fa fi109_0 rfl rfl rfl (w_nil ⟨rfl, rfl, rfl⟩)) ?_
 refine t_q rfl rfl rfl (fun u hF => s_fa fi107_0 rfl rfl rfl (w_nil ⟨rfl, rfl, rfl⟩)) ?_
 refine t_q rfl rfl rfl (fun u hF => s_ld1 (v := .slice (some a) (wex id.toNat l).length cap) on38 rfl rfl rfl ((q_oP.kp hF (fun e => e)).get 0 rfl) (w_nil ⟨rfl, rfl, rfl⟩)) ?_
 refine t_q rfl rfl rfl (fun u hF => s_mv (v := .slice (some a) (wex id.toNat l).length cap) rfl rfl rfl (w_nil ⟨rfl, rfl, rfl⟩)) ?_
 refine t_q rfl rfl rfl (fun u hF => s_bd2 (cells := #[.slice (some a) (wex id.toNat l).length cap, .int .i64 22]) bd107 rfl rfl rfl rfl rfl rfl (w_nil ⟨rfl, rfl, rfl⟩)) ?_
 refine t_l2 rfl (s_box (v := .agg #[.slice (some a) (wex id.toNat l).length cap, .int .i64 22]) (cs := [.slice (some a) (wex id.toNat l).length cap, .int .i64 ((22 : Nat) : Int)]) rfl rfl rfl rfl ?_)
 intro b31 w10 eb31 o31 k31 z31
 have gb31_K : W.heap.size ≤ b31 := by have := K.size; omega
 have gb31_kR : w9.drew.heap.size ≤ b31 := by have := kR.size; omega
 replace o2 := o2.kp k31 (fun e => e)
 replace o3 := o3.kp k31 (fun e => e)
 replace o4 := o4.kp k31 (fun e => e)
 replace oP := oP.kp k31 (fun e => e)
 replace K := K.transN k31
 replace kR := kR.transN k31
 refine w_nil ⟨rfl, _, rfl, kR, ?_⟩
 refine t_q rfl rfl rfl (fun u hF => s_ld1 (v := .int .i64 _) on3 rfl rfl rfl ((q_o3.kp hF (fun e => e)).get 0 rfl) (w_nil ⟨rfl, rfl, rfl⟩)) ?_
 refine t_q rfl rfl rfl (fun u hF => s_sub (c := (((wex id.toNat l).length - 22 : Nat) : Int)) rfl rfl rfl rfl rfl (w64c (by omega)) (w_nil ⟨rfl, rfl, rfl⟩)) ?_
 refine t_l2 rfl (s_call2 go68 rfl (c68 b31 (some a) (wex id.toNat l).length cap 22 ((wex id.toNat l).length - 22) _ o31 (by omega) hcap (by omega)) rfl rfl rfl (iv (by omega)) ?_)
 clear o31; rintro _ w11 ⟨rfl, o31, k34, z34⟩
 replace o2 := o2.kp k34 (show ¬ (_ = _) by omega)
 replace o3 := o3.kp k34 (show ¬ (_ = _) by omega)
 replace o4 := o4.kp k34 (show ¬ (_ = _) by omega)
 replace oP := oP.kp k34 (show ¬ (_ = _) by omega)
 replace K := K.trans' k34 (fun i hi (e : i = b31) => by omega)
 replace kR := kR.trans' k34 (fun i hi (e : i = b31) => by omega)
 refine ⟨_, rfl, ?_⟩
 refine w_nil ⟨rfl, _, rfl, kR, ?_⟩
 refine t_q rfl rfl rfl (fun u hF => s_lenL Tryz.underlying38 rfl rfl rfl (w_nil ⟨rfl, rfl, rfl⟩)) ?_
 refine t_q rfl rfl rfl (fun u hF => s_add (c := (((wex id.toNat l).length : Nat) : Int)) rfl rfl rfl rfl rfl (w64c (by omega)) (w_nil ⟨rfl, rfl, rfl⟩)) ?_
 refine t_q rfl rfl rfl (fun u hF => s_slH (hi := (wex id.toNat l).length) el38 rfl rfl rfl rfl rfl (by omega) hcap (w_nil ⟨rfl, rfl, rfl⟩)) ?_
 refine t_nc rfl rfl rfl ?_
 refine t_q rfl rfl rfl (fun u hF => s_fa fi109_0 rfl rfl rfl (w_nil ⟨rfl, rfl, rfl⟩)) ?_
 refine t_q rfl rfl rfl (fun u hF => s_fa fi107_0 rfl rfl rfl (w_nil ⟨rfl, rfl, rfl⟩)) ?_
 refine t_e (s_st 0 sz38 (v := .slice (part (some a) 0 cap 1) (wex id.toNat l).length cap) (new := [.slice (part (some a) 0 cap 1) (wex id.toNat l).length cap]) (cs' := [.slice (part (some a) 0 cap 1) (wex id.toNat l).length cap, .int .i64 ((22 : Nat) : Int)]) rfl rfl rfl rfl rfl rfl rfl oP rfl rfl rfl ?_)
 clear oP; intro w12 oP ks zs
 replace o2 := o2.kp ks (show ¬ (_ = _) by omega)
 replace o3 := o3.kp ks (show ¬ (_ = _) by omega)
 replace o4 := o4.kp ks (show ¬ (_ = _) by omega)
 replace o31 := o31.kp ks (show ¬ (_ = _) by omega)
 replace K := K.trans' ks (fun i hi (e : i = bP) => by omega)
 rw [part0] at oP
 refine w_nil ⟨rfl, _, rfl, ?_⟩
 refine then_n (wp_seq (wp_block ?_))
 obtain ⟨B1, hB1⟩ : ∃ B1, B1 = w12.heap.size := ⟨_, rfl⟩
 have lt2 := o2.lt
 have lt3 := o3.lt
 have lt4 := o4.lt
 have ltP := oP.lt
 refine c_loop (fun m f w => ∃ g k vr r2, m = l.length - k ∧ k ≤ l.length ∧ f = (upd (upd (upd (upd (upd (upd g 0 (.slice (some a) (wex id.toNat l).length cap)) 2 (.pointer (some ⟨b2, 0, none⟩))) 3 (.pointer (some ⟨b3, 0, none⟩))) 4 (.pointer (some ⟨b4, 0, none⟩))) 5 (.pointer (some ⟨bP, 0, none⟩))) 6 (.int .i64 (((22 + (wdir 0 l).length + 1) : Nat) : Int))) ∧ FRow B1 w vr (l.take k) r2 ∧ Own w b2 24 [.int .i64 id, vr] ∧ Own w b3 3 [.int .i64 ((wex id.toNat l).length : Nat)] ∧ Own w b4 4 [.bool false] ∧ Own w bP 109 [.slice (some a) (wex id.toNat l).length cap, .int .i64 ((22 + 14 * k : Nat) : Int)] ∧ B1 ≤ w.heap.size ∧ New W w) (l.length) ⟨_, 0, _, none, by omega, by omega, (upd_keep' (upd_keep' (upd_keep' (upd_keep' (upd_keep' (upd_keep' rfl rfl) rfl) rfl) rfl) rfl) rfl), FRow.nil _ _, o2, o3, o4, oP, by omega, K⟩ ?_
 clear K o2 o3 o4 oP
 rintro m _ w0 ⟨g, k, vr, r2, rfl, hk, rfl, hr, o2, o3, o4, oP, hBw, K⟩
 have hgr := hr.rge
 have hlr := hr.rlt
 have hsh : ∃ Ar cr, vr = .slice Ar (l.take k).length cr := by obtain ⟨ps9, _, hrow9, _⟩ := hr; obtain ⟨A9, c9, h9, _⟩ := hrow9.shape; exact ⟨A9, c9, h9⟩
 obtain ⟨Ar, cr, rfl⟩ := hsh
 rw [List.length_take, Nat.min_eq_left hk] at *
 refine wp_seq (wp_seq (c_reg (s_mv (v := .pointer (some _)) rfl rfl rfl (s_nc rfl rfl rfl (s_fa fi109_0 rfl rfl rfl (s_fa fi107_1 rfl rfl rfl (s_ld1 (v := .int .i64 _) on3 rfl rfl rfl (oP.get 1 rfl) (s_add (c := ((22 + 14 * k + 1 : Nat) : Int)) rfl rfl rfl rfl rfl (w64c (by omega)) (mvI rfl rfl rfl ?_)))))))))
 refine s_lss rfl rfl rfl rfl rfl rfl (mvB rfl rfl rfl ?_)
 refine w_split (t := 49) rfl ?_ ?_
 ·intro hs49
  (try simp only [Q1, Q2, Q3, Q4, Q5] at hs49)
  have hlt : k < l.length := by have := hdl; omega
  have hvk := hv5 _ (List.getElem_mem hlt)
  have hfl := fdat_le hvk
  have hwt := wdat_take hlt
  have htag := tag_len hvk.1
  have kz0 : Kp (fun i => i = bP) w0 w0 := Kp.refl _ _
  refine s_fa fi24_1 rfl rfl rfl (s_ld1 (v := .slice Ar k cr) on22 rfl rfl rfl (o2.get 1 rfl) (s_lenL Tryz.underlying22 rfl rfl rfl (s_leq rfl rfl rfl rfl rfl (decide_eq_true (by omega)) (pTB rfl rfl rfl rfl rfl (w_nil (then_n (c_T rfl rfl (wp_skip (then_n ?_)))))))))
  refine wp_block (wp_seq (c_reg (s_mv (v := .pointer (some _)) rfl rfl rfl (s_nc rfl rfl rfl (s_fa fi109_0 rfl rfl rfl (s_call2 go68 rfl (c68 bP (some a) (wex id.toNat l).length cap (22 + 14 * k) 3 _ oP (by omega) hcap (by omega)) rfl rfl rfl rfl ?_))))))
  clear oP; rintro _ w13 ⟨rfl, oP, kz, zz⟩
  replace o2 := o2.kp kz (show ¬ (_ = _) by omega)
  replace o3 := o3.kp kz (show ¬ (_ = _) by omega)
  replace o4 := o4.kp kz (show ¬ (_ = _) by omega)
  replace K := K.trans' kz (fun i hi (e : i = bP) => by omega)
  replace kz0 := kz0.trans' kz (fun i hi (e : i = bP) => by show i = bP; omega)
  have hR3 := RBytes.part (lo := 22 + 14 * k) (hi := 22 + 14 * k + 3) hRB (by omega) (by omega)
  rw [Nat.add_sub_cancel_left, wex_tag hv5 hlt] at hR3
  refine ⟨_, rfl, ?_⟩
  refine s_cvBS (s := l[k].tag.data.toList) Tryz.underlying38 Tryz.underlying5 Tryz.underlying9 rfl rfl rfl (hR3.kp K (fun _ _ _ e => e)) ?_
  rw [show (⟨l[k].tag.data.toList.toArray⟩ : ByteArray) = l[k].tag from rfl]
  refine s_as (v := .string _) rfl rfl rfl (w_nil (then_n (wp_seq (c_reg (s_mv (v := .pointer (some _)) rfl rfl rfl ?_)))))
  refine s_call2 go67 rfl (c67 (G := fun i => i = a.block) bP (some a) cap (wex id.toNat l) (22 + 14 * k + 3) 5 _ _ oP (hRB.kp K (fun _ _ _ e => e)) (fun e => by have e2 : bP = a.block := e; omega) (wex_n hv5 hlt) (digs_len _ _) (digs_dg _ _) (by decide) (fun h => absurd h (by decide)) (by omega)) rfl rfl rfl rfl ?_
  clear oP; rintro _ w14 ⟨rfl, oP, kz, zz⟩
  replace o2 := o2.kp kz (show ¬ (_ = _) by omega)
  replace o3 := o3.kp kz (show ¬ (_ = _) by omega)
  replace o4 := o4.kp kz (show ¬ (_ = _) by omega)
  replace K := K.trans' kz (fun i hi (e : i = bP) => by omega)
  replace kz0 := kz0.trans' kz (fun i hi (e : i = bP) => by show i = bP; omega)
  rw [num_digs' 5 _ (m := 100000) (by decide) (by omega)]
  refine ⟨_, rfl, ?_⟩
  refine s_mv (v := .pointer (some _)) rfl rfl rfl ?_
  refine s_call2 go67 rfl (c67 (G := fun i => i = a.block) bP (some a) cap (wex id.toNat l) (22 + 14 * k + 3 + 5) 6 _ _ oP (hRB.kp K (fun _ _ _ e => e)) (fun e => by have e2 : bP = a.block := e; omega) (wex_b hv5 hlt) (digs_len _ _) (digs_dg _ _) (by decide) (fun h => absurd h (by decide)) (by omega)) rfl rfl rfl rfl ?_
  clear oP; rintro _ w15 ⟨rfl, oP, kz, zz⟩
  replace o2 := o2.kp kz (show ¬ (_ = _) by omega)
  replace o3 := o3.kp kz (show ¬ (_ = _) by omega)
  replace o4 := o4.kp kz (show ¬ (_ = _) by omega)
  replace K := K.trans' kz (fun i hi (e : i = bP) => by omega)
  replace kz0 := kz0.trans' kz (fun i hi (e : i = bP) => by show i = bP; omega)
  rw [num_digs' 6 _ (m := 1000000) (by decide) (by omega)]
  refine ⟨_, rfl, ?_⟩
  refine asI rfl rfl rfl (asI rfl rfl rfl (w_nil (then_n (wp_seq ?_))))
  have kd : New w15 w15.drew := (Kp.refl _ _).drew
  have hdw : w15.drew.heap.size = w15.heap.size := rfl
  replace o2 := o2.kp kd (fun e => e)
  replace o3 := o3.kp kd (fun e => e)
  replace o4 := o4.kp kd (fun e => e)
  replace oP := oP.kp kd (fun e => e)
  replace K := K.transN kd
  replace kz0 := kz0.transN kd
  have hb0 := hBw
  have q_oP := oP
  refine c_drawG (fun u => Kp (fun _ => False) (w15.drew) u) [false, false, false, false, false, false, false, false, false, false, false, false, false, false, false, false, true, false] [[], [0], [1], [2], [3], [], [], [5, 6], [], [8], [9], [10], [11], [12], [7, 13], [4, 14], [15], [16]] (fun i => i) (rank_back (by kernel_rfl)) rfl (by kernel_rfl) (Kp.refl _ _) ?_
  have kR : Kp (fun _ => False) (w15.drew) (w15.drew) := Kp.refl _ _
  refine t_q rfl rfl rfl (fun u hF => s_mv (v := .pointer (some _)) rfl rfl rfl (w_nil ⟨rfl, rfl, rfl⟩)) ?_
  refine t_nc rfl rfl rfl ?_
  refine t_q rfl rfl rfl (fun u hF => s_fa fi109_0 rfl rfl rfl (w_nil ⟨rfl, rfl, rfl⟩)) ?_
  refine t_q rfl rfl rfl (fun u hF => s_fa fi107_0 rfl rfl rfl (w_nil ⟨rfl, rfl, rfl⟩)) ?_
  refine t_q rfl rfl rfl (fun u hF => s_ld1 (v := .slice (some a) (wex id.toNat l).length cap) on38 rfl rfl rfl ((q_oP.kp hF (fun e => e)).get 0 rfl) (w_nil ⟨rfl, rfl, rfl⟩)) ?_
  refine t_q rfl rfl rfl (fun u hF => mvI rfl rfl rfl (w_nil ⟨rfl, rfl, rfl⟩)) ?_
  refine t_q rfl rfl rfl (fun u hF => mvI rfl rfl rfl (w_nil ⟨rfl, rfl, rfl⟩)) ?_
  refine t_q rfl rfl rfl (fun u hF => s_add (c := (((22 + (wdir 0 l).length + 1) + (wdat (l.take k)).length : Nat) : Int)) rfl rfl rfl rfl rfl (w64c (by omega)) (w_nil ⟨rfl, rfl, rfl⟩)) ?_
  refine t_q rfl rfl rfl (fun u hF => s_mv (v := .pointer (some _)) rfl rfl rfl (w_nil ⟨rfl, rfl, rfl⟩)) ?_
  refine t_nc rfl rfl rfl ?_
  refine t_q rfl rfl rfl (fun u hF => s_fa fi109_0 rfl rfl rfl (w_nil ⟨rfl, rfl, rfl⟩)) ?_
  refine t_q rfl rfl rfl (fun u hF => s_fa fi107_0 rfl rfl rfl (w_nil ⟨rfl, rfl, rfl⟩)) ?_
  refine t_q rfl rfl rfl (fun u hF => s_ld1 (v := .slice (some a) (wex id.toNat l).length cap) on38 rfl rfl rfl ((q_oP.kp hF (fun e => e)).get 0 rfl) (w_nil ⟨rfl, rfl, rfl⟩)) ?_
  refine t_q rfl rfl rfl (fun u hF => s_lenL Tryz.underlying38 rfl rfl rfl (w_nil ⟨rfl, rfl, rfl⟩)) ?_
  refine t_q rfl rfl rfl (fun u hF => s_min (c := (((22 + (wdir 0 l).length + 1) + (wdat (l.take k)).length : Nat) : Int)) rfl rfl rfl rfl rfl (by omega) (w_nil ⟨rfl, rfl, rfl⟩)) ?_
  refine t_q rfl rfl rfl (fun u hF => s_bd2 (cells := #[.slice (some a) (wex id.toNat l).length cap, .int .i64 (((22 + (wdir 0 l).length + 1) + (wdat (l.take k)).length : Nat) : Int)]) bd107 rfl rfl rfl rfl rfl rfl (w_nil ⟨rfl, rfl, rfl⟩)) ?_
  refine t_l rfl (s_box (v := .agg #[.slice (some a) (wex id.toNat l).length cap, .int .i64 (((22 + (wdir 0 l).length + 1) + (wdat (l.take k)).length : Nat) : Int)]) (cs := [.slice (some a) (wex id.toNat l).length cap, .int .i64 (((22 + (wdir 0 l).length + 1) + (wdat (l.take k)).length : Nat) : Int)]) rfl rfl rfl rfl ?_)
  intro b80 w16 eb80 o80 k80 z80
  have hz0 := kz0.size
  have gb80 : B1 ≤ b80 := by omega
  replace o2 := o2.kp k80 (fun e => e)
  replace o3 := o3.kp k80 (fun e => e)
  replace o4 := o4.kp k80 (fun e => e)
  replace oP := oP.kp k80 (fun e => e)
  replace K := K.transN k80
  replace kR := kR.transN k80
  replace kz0 := kz0.transN k80
  refine w_nil ⟨rfl, _, rfl, kR, ?_⟩
  refine t_q rfl rfl rfl (fun u hF => s_as (v := .pointer (some _)) rfl rfl rfl (w_nil ⟨rfl, rfl, rfl⟩)) ?_
  refine t_n (then_n ?_)
  have hr80 : r2 ≠ some b80 := fun e => by have := hlr b80 e; omega
  have hB8 := hBw
  have kd : New w16 w16.drew := (Kp.refl _ _).drew
  have hdw : w16.drew.heap.size = w16.heap.size := rfl
  replace o2 := o2.kp kd (fun e => e)
  replace o3 := o3.kp kd (fun e => e)
  replace o4 := o4.kp kd (fun e => e)
  replace oP := oP.kp kd (fun e => e)
  replace o80 := o80.kp kd (fun e => e)
  replace K := K.transN kd
  replace kz0 := kz0.transN kd
  have q_o2 := o2
  refine c_drawL (fun u => Kp (fun k => k = b80 ∨ some k = r2) (w16.drew) u) [false, false, false, false, false, true, true, true, true, false] [[], [0], [], [], [], [3, 4], [2, 5], [5, 6], [1, 5, 6, 7], [], [0, 1, 2, 3, 4, 5, 6, 7, 8, 9]] (fun i => i) (rank_back (by kernel_rfl)) (lo := [_, _, _, _, _, _, _, _, _, _]) rfl rfl (by kernel_rfl) (by kernel_rfl) (Kp.refl _ _) ?_
  have kR : Kp (fun k => k = b80 ∨ some k = r2) (w16.drew) (w16.drew) := Kp.refl _ _
  refine t_q rfl rfl rfl (fun u hF => s_fa fi24_1 rfl rfl rfl (w_nil ⟨rfl, rfl, rfl⟩)) ?_
  refine t_q rfl rfl rfl (fun u hF => s_ld1 (v := .slice Ar k cr) on22 rfl rfl rfl ((q_o2.kp hF (fun e => by rcases e with e | e; (exact absurd e (by omega)); (have := hgr b2 e.symm; omega))).get 1 rfl) (w_nil ⟨rfl, rfl, rfl⟩)) ?_
  refine t_q rfl rfl rfl (fun u hF => s_mv (v := .string _) rfl rfl rfl (w_nil ⟨rfl, rfl, rfl⟩)) ?_
  refine t_q rfl rfl rfl (fun u hF => s_mv (v := .pointer (some _)) rfl rfl rfl (w_nil ⟨rfl, rfl, rfl⟩)) ?_
  refine t_q rfl rfl rfl (fun u hF => mvI rfl rfl rfl (w_nil ⟨rfl, rfl, rfl⟩)) ?_
  refine t_l2 rfl (s_call2 go68 rfl (c68 b80 (some a) (wex id.toNat l).length cap ((22 + (wdir 0 l).length + 1) + (wdat (l.take k)).length) (fdat l[k]).length _ o80 (by omega) hcap (by omega)) rfl rfl rfl rfl ?_)
  clear o80; rintro _ w17 ⟨rfl, o80, k86, z86⟩
  replace o2 := o2.kp k86 (show ¬ (_ = _) by omega)
  replace o3 := o3.kp k86 (show ¬ (_ = _) by omega)
  replace o4 := o4.kp k86 (show ¬ (_ = _) by omega)
  replace oP := oP.kp k86 (show ¬ (_ = _) by omega)
  replace kz0 := kz0.trans' k86 (fun i hi (e : i = b80) => by show i = bP; omega)
  replace K := K.trans' k86 (fun i hi (e : i = b80) => by have := K.size; omega)
  replace kR := kR.trans' k86 (fun i hi (e : i = b80) => .inl e)
  rw [part_at (A := some a) (p := a) rfl (show cap ≠ (22 + (wdir 0 l).length + 1) + (wdat (l.take k)).length by omega)]
  refine ⟨_, rfl, ?_⟩
  refine w_nil ⟨rfl, _, rfl, kR, ?_⟩
  refine t_l2 rfl ?_
  have hRd := RBytes.part (lo := (22 + (wdir 0 l).length + 1) + (wdat (l.take k)).length) (hi := (22 + (wdir 0 l).length + 1) + (wdat (l.take k)).length + (fdat l[k]).length) hRB (by omega) (by omega)
  rw [Nat.add_sub_cancel_left, wex_d hv5 hlt, part_at (A := some a) (p := a) rfl (show cap ≠ (22 + (wdir 0 l).length + 1) + (wdat (l.take k)).length by omega)] at hRd
  obtain ⟨A9, c9, hv9, _, hBd⟩ := hRd
  cases hv9
  refine s_call2 go69 rfl (c69 l[k] (a.add (((22 + (wdir 0 l).length + 1) + (wdat (l.take k)).length) * 1)) (cap - ((22 + (wdir 0 l).length + 1) + (wdat (l.take k)).length)) _ (hT.kp K (fun _ _ _ e => e)) (hBd.kp K (fun _ _ _ e => e)) (by omega) (by omega) hvk) rfl rfl rfl rfl ?_
  rintro _ w18 ⟨vs, rfl, hvs, k87⟩
  have hsz87 := k87.size
  replace o2 := o2.kp k87 (fun e => e)
  replace o3 := o3.kp k87 (fun e => e)
  replace o4 := o4.kp k87 (fun e => e)
  replace oP := oP.kp k87 (fun e => e)
  replace K := K.transN k87
  replace kR := kR.transN k87
  replace kz0 := kz0.transN k87
  refine ⟨_, rfl, ?_⟩
  refine w_nil ⟨rfl, _, rfl, kR, ?_⟩
  refine t_l2 rfl (s_bs1E (cs := l[k].cells vs) el22 rfl (by decide) rfl rfl rfl rfl ?_)
  intro b88 w19 eb88 o88 k88 z88
  have hsz88 := k88.size
  replace o2 := o2.kp k88 (fun e => e)
  replace o3 := o3.kp k88 (fun e => e)
  replace o4 := o4.kp k88 (fun e => e)
  replace oP := oP.kp k88 (fun e => e)
  replace K := K.transN k88
  replace kR := kR.transN k88
  replace kz0 := kz0.transN k88
  replace hvs := hvs.kp k88 (fun _ _ _ e => e)
  refine w_nil ⟨rfl, _, rfl, kR, ?_⟩
  refine t_l2 rfl ?_
  replace hr := hr.kp kz0 (fun i _ hi (e : i = bP) => by omega)
  refine s_appF1 (e := l[k]) (vs := vs) el22 rfl rfl rfl rfl rfl rfl hr o88.cells (hvs.weak (fun i hi => ⟨by omega, fun e => by have := hlr i e.symm; omega⟩)) (by omega) (by simp; omega) ?_
  intro vz wA rz hz kA hrz
  have hkA := kA.size
  rw [← List.take_succ_eq_append_getElem hlt] at hz
  replace o2 := o2.kp kA (fun e => by have := hgr b2 e.symm; omega)
  replace o3 := o3.kp kA (fun e => by have := hgr b3 e.symm; omega)
  replace o4 := o4.kp kA (fun e => by have := hgr b4 e.symm; omega)
  replace oP := oP.kp kA (fun e => by have := hgr bP e.symm; omega)
  replace K := New.row K (fun b hb => by have := hgr b hb; omega) kA
  replace kR := kR.trans' kA (fun i hi e => .inr e)
  refine w_nil ⟨rfl, _, rfl, kR, ?_⟩
  refine t_q rfl rfl rfl (fun u hF => s_fa fi24_1 rfl rfl rfl (w_nil ⟨rfl, rfl, rfl⟩)) ?_
  refine t_e ?_
  have h1z : vz.cells = #[vz] ∧ vz.oneCell' = true := by obtain ⟨ps9, _, hrow9, _⟩ := hz; obtain ⟨A9, c9, h9, _⟩ := hrow9.shape; rw [h9]; exact ⟨rfl, rfl⟩
  refine s_st 1 sz22 (v := vz) (new := [vz]) rfl rfl rfl rfl rfl h1z.1 (by simp [h1z.2]) o2 rfl rfl rfl ?_
  clear o2; intro w20 o2 ks zs
  have hr := hz.kp ks (fun i _ hi (e : i = b2) => by omega)
  replace o3 := o3.kp ks (show ¬ (_ = _) by omega)
  replace o4 := o4.kp ks (show ¬ (_ = _) by omega)
  replace oP := oP.kp ks (show ¬ (_ = _) by omega)
  replace K := K.trans' ks (fun i hi (e : i = b2) => by omega)
  refine w_nil ⟨rfl, _, rfl, ?_⟩
  refine inb_n (then_n ?_)
  exact ⟨l.length - (k + 1), _, by omega, rfl, _, k + 1, vz, rz, rfl, by omega, (upd_keep' (upd_keep' (upd_keep' (upd_keep' (upd_keep' (upd_keep' rfl rfl) rfl) rfl) rfl) rfl) rfl), hr, o2, o3, o4, (by rw [show 22 + 14 * (k + 1) = 22 + 14 * k + 3 + 5 + 6 by omega]; exact oP), (by omega), K⟩
 ·intro hs49
  (try simp only [Q1, Q2, Q3, Q4, Q5] at hs49)
  have hk9 : k = l.length := by have := hdl; omega
  subst hk9
  rw [List.take_length] at hr
  refine st_skip rfl (st_skip rfl (st_skip rfl (st_skip rfl (pFB rfl rfl rfl rfl rfl (w_nil (then_n (c_F rfl rfl (wp_exit (then_x ?_)))))))))
  refine then_x (inb_x (then_n (wp_seq ?_)))
  have kd : New w0 w0.drew := (Kp.refl _ _).drew
  have hdw : w0.drew.heap.size = w0.heap.size := rfl
  replace o2 := o2.kp kd (fun e => e)
  replace o3 := o3.kp kd (fun e => e)
  replace o4 := o4.kp kd (fun e => e)
  replace oP := oP.kp kd (fun e => e)
  replace K := K.transN kd
  replace hr := hr.kp kd (fun _ _ _ e => e)
  refine c_drawG (fun u => Own u b2 24 [.int .i64 id, .slice Ar l.length cr] ∧ Own u b3 3 [.int .i64 ((wex id.toNat l).length : Nat)]) [false, false, true, true, true] [[], [], [0], [1, 2], [2, 3]] (fun i => i) (rank_back (by kernel_rfl)) rfl (by kernel_rfl) (⟨o2, o3⟩) ?_
  refine t_q rfl rfl rfl (fun u hF => s_ldA ag24 rfl rfl rfl hF.1.cells rfl (w_nil ⟨rfl, rfl, rfl⟩)) ?_
  refine t_q rfl rfl rfl (fun u hF => s_ld1 (v := .int .i64 ((wex id.toNat l).length : Nat)) on3 rfl rfl rfl (hF.2.get 0 rfl) (w_nil ⟨rfl, rfl, rfl⟩)) ?_
  refine t_l rfl (s_st 0 sz24 (v := .agg #[.int .i64 id, .slice Ar l.length cr]) (new := [.int .i64 id, .slice Ar l.length cr]) (cs' := [.int .i64 id, .slice Ar l.length cr]) rfl rfl rfl rfl rfl rfl rfl o2 rfl rfl rfl ?_)
  clear o2; intro w13 o2 ks zs
  replace o3 := o3.kp ks (show ¬ (_ = _) by omega)
  replace o4 := o4.kp ks (show ¬ (_ = _) by omega)
  replace oP := oP.kp ks (show ¬ (_ = _) by omega)
  replace K := K.trans' ks (fun i hi (e : i = b2) => by omega)
  replace hr := hr.kp ks (fun i _ hi (e : i = b2) => by omega)
  refine w_nil ⟨rfl, _, rfl, ⟨o2, o3⟩, ?_⟩
  refine t_l rfl (s_st 0 sz3 (v := .int .i64 ((wex id.toNat l).length : Nat)) (new := [.int .i64 ((wex id.toNat l).length : Nat)]) (cs' := [.int .i64 ((wex id.toNat l).length : Nat)]) rfl rfl rfl rfl rfl rfl rfl o3 rfl rfl rfl ?_)
  clear o3; intro w14 o3 ks zs
  replace o2 := o2.kp ks (show ¬ (_ = _) by omega)
  replace o4 := o4.kp ks (show ¬ (_ = _) by omega)
  replace oP := oP.kp ks (show ¬ (_ = _) by omega)
  replace K := K.trans' ks (fun i hi (e : i = b3) => by omega)
  replace hr := hr.kp ks (fun i _ hi (e : i = b3) => by omega)
  refine w_nil ⟨rfl, _, rfl, ⟨o2, o3⟩, ?_⟩
  refine t_l rfl (s_st 0 sz4 (v := .bool true) (new := [.bool true]) (cs' := [.bool true]) rfl rfl rfl rfl rfl rfl rfl o4 rfl rfl rfl ?_)
  clear o4; intro w15 o4 ks zs
  replace o2 := o2.kp ks (show ¬ (_ = _) by omega)
  replace o3 := o3.kp ks (show ¬ (_ = _) by omega)
  replace oP := oP.kp ks (show ¬ (_ = _) by omega)
  replace K := K.trans' ks (fun i hi (e : i = b4) => by omega)
  replace hr := hr.kp ks (fun i _ hi (e : i = b4) => by omega)
  refine w_nil ⟨rfl, _, rfl, ⟨o2, o3⟩, ?_⟩
  refine t_n (then_n (wp_ret ?_))
  refine retD (t := 2) (u := 3) (s := 4) rfl rfl rfl rfl rfl rfl rfl o2.cells rfl (o3.get 0 rfl) (o4.get 0 rfl) ⟨Ar, cr, r2, rfl, hr.weakB ?_, K⟩
  omega
end
section
theorem frow_flds {B : Nat} {w : World} {A : Option Addr} {l : List Fld} {c : Nat} {r : Option Nat} (h : FRow B w (.slice A l.length c) l r) (hl : l.length ≤ 1000000) : FldsAt (fun i => B ≤ i) w A l := by
 obtain ⟨A2, c2, e, h2⟩ := h.rflds hl
 cases e; exact h2
theorem frow_cap {B : Nat} {w : World} {A : Option Addr} {n c : Nat} {l : List Fld} {r : Option Nat} (h : FRow B w (.slice A n c) l r) : n = l.length ∧ l.length ≤ c := by
 obtain ⟨ps, h1, h2, h3, h4⟩ := h
 obtain ⟨A2, c2, e, h5, _⟩ := h2.shape
 cases e; exact ⟨rfl, h5⟩
theorem c13 (id : Int) (l : List Fld) (a : Addr) (cap : Nat) (w : World) (hT : Tb w) (hv : VRec VText id l) (hB : BytesAt (fun i => i = a.block) w (some a) (wex id.toNat l)) (hcap : (wex id.toNat l).length ≤ cap) (hcm : cap ≤ 9223372036854775807) (hab : a.block < w.heap.size) : Calls Tryz.prog 13 #[.slice (some a) (wex id.toNat l).length cap] w fun e w' => ∃ A2 c2 r v9 r9, e = .returned (.tuple #[.agg #[.int .i64 id, .slice A2 l.length c2], v9, .int .i64 0]) ∧ BRow w' v9 [] r9 ∧ FRow w.heap.size w' (.slice A2 l.length c2) l r ∧ New w w' := by
 obtain ⟨W, hW⟩ : ∃ W, W = w := ⟨_, rfl⟩
 subst hW
 have K : New W W := Kp.refl _ _
 have hv0 := hv
 obtain ⟨hv1, hv2, hv3, hv4, hv5⟩ := hv0
 have hdl := wdir_len hv5 0
 have hal := wdat_le hv5
 have hwl := wex_len (id := id.toNat) (l := l)
 have hRB : RBytes (fun i => i = a.block) W (.slice (some a) (wex id.toNat l).length cap) (wex id.toNat l) := ⟨_, _, rfl, hcap, hB⟩
 refine enter (n := 43) Tryz.func13 rfl rfl (by simp) ?_
 refine wp_seq (c_reg (s_alloc z24 rfl rfl ?_))
 intro b2 w1 eb2 o2 kb2 zb2
 have gb2_K : W.heap.size ≤ b2 := by have := K.size; omega
 replace K := K.transN kb2
 refine s_as (v := .slice _ _ _) rfl rfl rfl (asI rfl rfl rfl (w_nil (then_n (wp_seq (wp_seq (c_reg (s_mv (v := .slice (some a) (wex id.toNat l).length cap) rfl rfl rfl (s_lenL Tryz.underlying38 rfl rfl rfl (s_eq rfl rfl rfl rfl rfl (decide_eq_false (by omega)) ?_)))))))))
 refine w_nil (then_n (c_F rfl rfl (wp_skip (then_n (wp_seq (c_reg (s_mv (v := .slice (some a) (wex id.toNat l).length cap) rfl rfl rfl ?_)))))))
 refine s_call1 go32 rfl (c32 id l a cap _ (hT.kp K (fun _ _ _ e => e)) hv (hB.kp K (fun _ _ _ e => e)) hcap hcm (by have := K.size; omega)) rfl rfl ?_
 rintro _ w2 ⟨A2, c2, r2, rfl, hr, k15⟩
 have hB1 := o2.lt
 replace o2 := o2.kp k15 (fun e => e)
 replace K := K.transN k15
 have hrg := hr.rge
 have hfc := (frow_cap hr).2
 refine ⟨_, rfl, ?_⟩
 refine s_mv (v := .tuple _) rfl rfl rfl (s_ext (v := .agg #[.int .i64 id, .slice A2 l.length c2]) rfl rfl rfl rfl (s_ext (v := .int .i64 ((wex id.toNat l).length : Nat)) rfl rfl rfl rfl (s_ext (v := .bool true) rfl rfl rfl rfl (s_st 0 sz24 (v := .agg #[.int .i64 id, .slice A2 l.length c2]) (new := [.int .i64 id, .slice A2 l.length c2]) (cs' := [.int .i64 id, .slice A2 l.length c2]) rfl rfl rfl rfl rfl rfl rfl o2 rfl rfl rfl ?_))))
 clear o2; intro w3 o2 ks zs
 replace K := K.trans' ks (fun i hi (e : i = b2) => by omega)
 replace hr := hr.kp ks (fun i _ hi (e : i = b2) => by omega)
 refine asI rfl rfl rfl (asB rfl rfl rfl (w_nil (then_n (wp_seq (wp_seq (c_reg (mvB rfl rfl rfl (s_not rfl rfl rfl (w_nil ?_)))))))))
 refine then_n (c_F rfl rfl (wp_skip (then_n (wp_seq (wp_seq (c_reg (s_ldA ag24 rfl rfl rfl o2.cells rfl (s_call1 go12 rfl (c12 (G := fun i => _ ≤ i) id A2 c2 l _ (hT.kp K (fun _ _ _ e => e)) (frow_flds hr (by omega)) hv) rfl rfl ?_))))))))
 rintro _ w4 ⟨v24, r24, rfl, h24, g24, k24⟩
 replace o2 := o2.kp k24 (fun e => e)
 replace K := K.transN k24
 replace hr := hr.kp k24 (fun _ _ _ e => e)
 refine ⟨_, rfl, ?_⟩
 refine s_mv (v := .tuple _) rfl rfl rfl (s_ext (v := v24) rfl rfl rfl rfl (s_ext (v := .int .i64 0) rfl rfl rfl rfl (s_as (v := v24) rfl rfl rfl (asI rfl rfl rfl (w_nil (then_n (wp_seq (c_reg (mvI rfl rfl rfl ?_)))))))))
 refine s_ne rfl rfl rfl rfl rfl (ne_F (by omega)) (mvB rfl rfl rfl (s_mv (v := v24) rfl rfl rfl (s_mv (v := .slice (some a) (wex id.toNat l).length cap) rfl rfl rfl (mvI rfl rfl rfl (s_slH (hi := (wex id.toNat l).length) el38 rfl rfl rfl rfl rfl rfl hcap ?_)))))
 rw [part0']
 refine s_call2 go33 rfl (c33 _ _ (wex id.toNat l) (wex id.toNat l) _ (h24.rbytes (by omega)) (hRB.kp K (fun _ _ _ e => e))) rfl rfl rfl rfl ?_
 rintro _ w5 ⟨rfl, k34⟩
 rw [decide_eq_true rfl]
 replace o2 := o2.kp k34 (fun e => e)
 replace K := K.transN k34
 replace hr := hr.kp k34 (fun _ _ _ e => e)
 refine ⟨_, rfl, ?_⟩
 refine s_not rfl rfl rfl (pFB rfl rfl rfl rfl rfl (w_nil (then_n (c_F rfl rfl (wp_skip (then_n (wp_seq ?_)))))))
 have hR0 := RBytes.part (lo := (wex id.toNat l).length) (hi := (wex id.toNat l).length) hRB (Nat.le_refl _) (Nat.le_refl _)
 rw [Nat.sub_self, List.take_zero] at hR0
 have hb2l := o2.lt
 have kd : New w5 w5.drew := (Kp.refl _ _).drew
 have hdw : w5.drew.heap.size = w5.heap.size := rfl
 replace o2 := o2.kp kd (fun e => e)
 replace K := K.transN kd
 replace hr := hr.kp kd (fun _ _ _ e => e)
 refine c_drawG (fun u => Own u b2 24 [.int .i64 id, .slice A2 l.length c2]) [false, false, false, false, true, true, false, false] [[], [], [], [1, 2], [3], [0, 4], [4], []] (fun i => i) (rank_back (by kernel_rfl)) rfl (by kernel_rfl) (o2) ?_
 refine t_q rfl rfl rfl (fun u hF => s_ldA ag24 rfl rfl rfl hF.cells rfl (w_nil ⟨rfl, rfl, rfl⟩)) ?_
 refine t_q rfl rfl rfl (fun u hF => s_mv (v := .slice (some a) (wex id.toNat l).length cap) rfl rfl rfl (w_nil ⟨rfl, rfl, rfl⟩)) ?_
 refine t_q rfl rfl rfl (fun u hF => mvI rfl rfl rfl (w_nil ⟨rfl, rfl, rfl⟩)) ?_
 refine t_q rfl rfl rfl (fun u hF => s_slL (lo := (wex id.toNat l).length) (m := 0) el38 rfl rfl rfl rfl rfl rfl (by omega) (by omega) (w_nil ⟨rfl, rfl, rfl⟩)) ?_
 refine t_l rfl ?_
 refine s_call1 go34 rfl (c34 (part (some a) (wex id.toNat l).length cap 1) (cap - (wex id.toNat l).length) [] _ (hR0.kp K (fun _ _ _ e => e)) (by simp)) rfl rfl ?_
 rintro _ w6 ⟨v42, r42, rfl, h42, g42, k42⟩
 replace o2 := o2.kp k42 (fun e => e)
 replace K := K.transN k42
 replace hr := hr.kp k42 (fun _ _ _ e => e)
 refine ⟨_, rfl, ?_⟩
 refine w_nil ⟨rfl, _, rfl, o2, ?_⟩
 refine t_l rfl (s_st 0 sz24 (v := .agg #[.int .i64 id, .slice A2 l.length c2]) (new := [.int .i64 id, .slice A2 l.length c2]) (cs' := [.int .i64 id, .slice A2 l.length c2]) rfl rfl rfl rfl rfl rfl rfl o2 rfl rfl rfl ?_)
 have hk2 := k42.size
 clear o2; intro w7 o2 ks zs
 replace h42 := h42.kp ks (fun b hb (e : b = b2) => by have := g42 b hb; omega)
 replace K := K.trans' ks (fun i hi (e : i = b2) => by omega)
 replace hr := hr.kp ks (fun i _ hi (e : i = b2) => by omega)
 refine w_nil ⟨rfl, _, rfl, o2, ?_⟩
 refine t_q rfl rfl rfl (fun u hF => s_as (v := v42) rfl rfl rfl (w_nil ⟨rfl, rfl, rfl⟩)) ?_
 refine t_q rfl rfl rfl (fun u hF => asI rfl rfl rfl (w_nil ⟨rfl, rfl, rfl⟩)) ?_
 refine t_n (then_n (wp_ret ?_))
 refine retC3 (t := 2) (u := 3) (s := 4) (T := 24) (v := v42) (v' := .int .i64 0) ag24 rfl rfl rfl rfl rfl rfl rfl o2.cells rfl ⟨A2, c2, r2, v42, r42, rfl, h42, hr.weakB (by omega), K⟩
end
section
def hig : Nat → Nat → List UInt8
  | 0, _ => []
  | k + 1, u => if u = 0 then [] else hig k (u / 128) ++ [UInt8.ofNat (128 + u % 128)]
def encu (u : Nat) : List UInt8 := hig 9 (u / 128) ++ [UInt8.ofNat (u % 128)]
def enc (n : Nat) : List UInt8 := encu (2 * n)
def ect (s : ByteArray) : List UInt8 := enc s.size ++ s.data.toList
def vl (l : List UInt8) : Nat := l.foldl (fun u c => u * 128 + c.toNat % 128) 0
theorem vl_snoc (l : List UInt8) (c : UInt8) : vl (l ++ [c]) = vl l * 128 + c.toNat % 128 := by simp [vl]
theorem hig_len (k u : Nat) : (hig k u).length ≤ k := by
  induction k generalizing u with
  | zero => simp [hig]
  | succ k ih =>
    simp only [hig]; split
    · simp
    · have := ih (u / 128); simp; omega
theorem encu_len (u : Nat) : 1 ≤ (encu u).length ∧ (encu u).length ≤ 10 := by
  have := hig_len 9 (u / 128)
  simp only [encu, List.length_append, List.length_singleton]; omega
theorem hig_ge (k u : Nat) : ∀ c ∈ hig k u, 128 ≤ c.toNat := by
  induction k generalizing u with
  | zero => intro c hc; simp [hig] at hc
  | succ k ih =>
    intro c hc
    simp only [hig] at hc
    split at hc
    · simp at hc
    · rcases List.mem_append.1 hc with h | h
      · exact ih _ c h
      · simp only [List.mem_singleton] at h; subst h; simp; omega
theorem hig_first (k u : Nat) : ∀ c, (hig k u)[0]? = some c → u < 128 ^ k → c.toNat ≠ 128 := by
  induction k generalizing u with
  | zero => intro c hc; simp [hig] at hc
  | succ k ih =>
    intro c hc hu
    simp only [hig] at hc
    split at hc
    · simp at hc
    · rename_i h0
      rw [Nat.pow_succ] at hu
      by_cases h : u / 128 = 0
      · have e : hig k (u / 128) = [] := by rw [h]; cases k <;> simp [hig]
        rw [e] at hc
        simp at hc; subst hc; simp; omega
      · have hne : hig k (u / 128) ≠ [] := by
          cases k with
          | zero => omega
          | succ k => simp [hig, h]
        rw [List.getElem?_append_left (List.length_pos_iff.2 hne)] at hc
        exact ih _ c hc (by omega)
theorem vl_hig (k u : Nat) (h : u < 128 ^ k) : vl (hig k u) = u := by
  induction k generalizing u with
  | zero => simp at h; subst h; rfl
  | succ k ih =>
    simp only [hig]; split
    · rename_i h0; subst h0; rfl
    · rw [Nat.pow_succ] at h
      rw [vl_snoc, ih _ (by omega)]; simp; omega
theorem hig_one (j u : Nat) (h : u ≠ 0) : hig (j + 1) u = hig j (u / 128) ++ [UInt8.ofNat (128 + u % 128)] := by simp [hig, h]
theorem hig_zero (j : Nat) : hig j 0 = [] := by cases j <;> simp [hig]
theorem vl_encu (u : Nat) (h : u < 128 ^ 10) : vl (encu u) = u := by
  unfold encu
  rw [vl_snoc, vl_hig 9 (u / 128) (by omega)]; simp; omega
theorem vl_take (l : List UInt8) (k : Nat) : vl (l.take k) ≤ vl l := by
  have key : ∀ (r : List UInt8) (a : Nat), a ≤ r.foldl (fun u c => u * 128 + c.toNat % 128) a := by
    intro r
    induction r with
    | nil => intro a; exact Nat.le_refl _
    | cons c r ih =>
      intro a
      rw [List.foldl_cons]
      refine Nat.le_trans ?_ (ih _)
      omega
  have e : vl l = (l.drop k).foldl (fun u c => u * 128 + c.toNat % 128) (vl (l.take k)) := by
    unfold vl; rw [← List.foldl_append, List.take_append_drop]
  rw [e]; exact key _ _
theorem u64_m128 {u : Nat} (h : u < 18446744073709551616) : bits .and .u64 (u : Int) 127 = ((u % 128 : Nat) : Int) := by
  rw [show (127 : Int) = ((127 : Nat) : Int) from rfl, u64_and_nat u 127 h (by decide), show u &&& 127 = u % 128 from Nat.and_two_pow_sub_one_eq_mod u 7]
theorem u64_m2 {u : Nat} (h : u < 18446744073709551616) : bits .and .u64 (u : Int) 1 = ((u % 2 : Nat) : Int) := by
  rw [show (1 : Int) = ((1 : Nat) : Int) from rfl, u64_and_nat u 1 h (by decide), show u &&& 1 = u % 2 from Nat.and_two_pow_sub_one_eq_mod u 1]
theorem u8_m128 {u : Nat} (h : u < 256) : bits .and .u8 (u : Int) 127 = ((u % 128 : Nat) : Int) := by
  rw [show (127 : Int) = ((127 : Nat) : Int) from rfl, u8_and_nat u 127 h (by decide), show u &&& 127 = u % 128 from Nat.and_two_pow_sub_one_eq_mod u 7]
theorem u8_o128 {u : Nat} (h : u < 128) : bits .or .u8 (u : Int) 128 = ((128 + u : Nat) : Int) := by
  rw [show (128 : Int) = ((128 : Nat) : Int) from rfl, u8_or_nat u 128 (by omega) (by decide), Nat.or_comm, show (128 : Nat) = 1 <<< 7 from rfl, ← Nat.shiftLeft_add_eq_or_of_lt h]
theorem u64_o7 {x c : Nat} (h : x < 144115188075855872) (hc : c < 128) : bits .or .u64 ((x * 128 : Nat) : Int) (c : Int) = ((x * 128 + c : Nat) : Int) := by
  rw [u64_or_nat (x * 128) c (by omega) (by omega), show x * 128 = x <<< 7 by rw [Nat.shiftLeft_eq], ← Nat.shiftLeft_add_eq_or_of_lt hc]
end
section
theorem wu {x : Int} {y : Nat} (h : x = y ∧ (y : Int) < 18446744073709551616) : IntKind.u64.wrap x = ((y : Nat) : Int) := by rw [h.1, IntKind.wrap_u64]; omega
theorem wi {x : Int} {y : Nat} (h : x = y ∧ (y : Int) < 9223372036854775808) : IntKind.i64.wrap x = ((y : Nat) : Int) := by rw [h.1, IntKind.wrap_i64]; omega
theorem wb {x : Int} {y : Nat} (h : x = y ∧ (y : Int) < 256) : IntKind.u8.wrap x = ((y : Nat) : Int) := by rw [h.1, IntKind.wrap_u8]; omega
theorem elem_ofA {P : Program} {t e : TypeId} {l : Nat} (h : P.underlying t = some (.array l e)) : P.elem t = e := by
  unfold Program.elem; simp [h]
theorem len_ofA {P : Program} {t e : TypeId} {l : Nat} (h : P.underlying t = some (.array l e)) : P.arrayLen t = l := by
  unfold Program.arrayLen; simp [h]
theorem bc_nat {m : Nat} {t : List UInt8} (h : m < 256) : bc (UInt8.ofNat m :: t) = .int .u8 (m : Int) :: bc t := by
  rw [show bc (UInt8.ofNat m :: t) = .int .u8 (UInt8.ofNat m).toNat :: bc t from rfl, show (UInt8.ofNat m).toNat = m by simp; omega]
section steps
variable {md : Md} {P : Program} {ops : Array Oper} {Q : Exit → Act → World → Prop} {n : Nat} {ds : List Deferred} {f : Nat → Value} {w w' : World} {rest : List Oper}
  {d : Nat} {ty : TypeId} {pos : String} {af : Array Edge} {g : Option (Nat × Bool)} {v : Value} {x y z : Operand} {T U T0 : TypeId}
theorem s_slA {q : Addr} {l lo m size : Nat} {i : Int} {e : TypeId} (hu : P.underlying T = some (.array l e)) (hsz : sizeIs P e size) (hg : Gd n ops f g = some true) (hb : inb n x = true) (hb1 : inb n y = true)
    (hx : ev f x = .pointer (some q)) (hy : ev f y = .int .i64 i) (hi' : i = (lo : Int)) (h1 : lo ≤ l) (hm : l - lo = m)
    (k : WL md P ops Q rest n ds (upd f d (.slice (part (some q) lo l size) m m)) w) : WL md P ops Q (⟨some d, .slice T x (some y) none none, ty, pos, af, g⟩ :: rest) n ds f w := by
  obtain ⟨ie, hie, hs⟩ := hsz
  have he := elem_ofA hu
  have hl := len_ofA hu
  subst hi'; subst hm
  refine st_run hg (v := .slice (part (some q) lo l size) (l - lo) (l - lo)) (w' := w) ?_ k
  simp only [execOp, Fr_eval hb, Option.map_some, Option.map_none, Fr_eval hb1, hx, hy]
  refine run_val ?_
  rw [run_sliceAt_array_l w T q (by rw [he, hl]; exact hu) .i64 lo (by omega) (by rw [hl]; omega)]
  simp [sizeOf, typeInfo, he, hl, hie, hs, slicedAt, part, Result.andThen]
  split <;> simp
end steps
theorem rb_rear {w : World} {b j l : Nat} {T : TypeId} {cs : List Value} {t : List UInt8} (h : Own w b T (cs ++ bc t)) (hj : cs.length = j) (hl : j + t.length = l) (ht : t.length ≤ 1000000) :
    RBytes (fun i => i = b) w (.slice (part (some ⟨b, 0, none⟩) j l 1) t.length t.length) t := by
  refine ⟨_, _, rfl, Nat.le_refl _, by unfold big; omega, fun i u hu => ?_⟩
  have hi : i < t.length := (List.getElem?_eq_some_iff.1 hu).1
  have hc := h.cells (j + i) (.int .u8 u.toNat) (by rw [List.getElem?_append_right (by omega), show j + i - cs.length = i by omega]; exact bc_get hu)
  unfold part
  rw [if_neg (by omega)]
  refine ⟨_, rfl, ?_, ?_⟩
  · rw [Nat.mul_one, add_block]
  · rw [Nat.mul_one, add_add]; exact hc
end
section
theorem c101 (n : Nat) (w : World) (h : n ≤ 4611686018427387904) : Calls Tryz.prog 101 #[.int .i64 (n : Nat)] w fun e w' => e = .returned (.int .u64 ((2 * n : Nat) : Int)) ∧ w' = w := by
 refine enter (n := 12) Tryz.func101 rfl rfl (by simp) ?_
 refine wp_seq (c_reg (s_as (v := .int .u64 _) rfl rfl rfl (w_nil (then_n (wp_seq (c_reg (mvI rfl rfl rfl (s_conv (by decide) Tryz.underlying145 rfl rfl rfl (wu (y := n) (by omega)) ?_))))))))
 refine s_shl (c := ((2 * n : Nat) : Int)) rfl rfl rfl rfl rfl (by decide) (by decide) (by rw [show (2 : Int) ^ (1 : Int).toNat = 2 from rfl]; exact wu (by omega)) ?_
 refine s_as (v := .int .u64 _) rfl rfl rfl (w_nil (then_n (wp_seq (wp_seq (c_reg (mvI rfl rfl rfl (s_lss rfl rfl rfl rfl rfl (decide_eq_false (by omega)) (w_nil (then_n ?_)))))))))
 refine c_F rfl rfl (wp_skip (then_n (wp_seq (c_reg (s_mv (v := .int .u64 _) rfl rfl rfl (s_as (v := .int .u64 _) rfl rfl rfl (w_nil (then_n (wp_ret ?_)))))))))
 refine ret1 (t := 2) (v := .int .u64 ((2 * n : Nat) : Int)) rfl rfl rfl ⟨rfl, rfl⟩
theorem c102 (n : Nat) (w : World) (h : n ≤ 4611686018427387904) : Calls Tryz.prog 102 #[.int .u64 ((2 * n : Nat) : Int)] w fun e w' => e = .returned (.int .i64 (n : Nat)) ∧ w' = w := by
 refine enter (n := 13) Tryz.func102 rfl rfl (by simp) ?_
 refine wp_seq (c_reg (asI rfl rfl rfl (w_nil (then_n (wp_seq (c_reg (s_mv (v := .int .u64 _) rfl rfl rfl ?_)))))))
 refine s_shr (c := (n : Int)) rfl rfl rfl rfl rfl (by decide) (by decide) (by rw [show (2 : Int) ^ (1 : Int).toNat = 2 from rfl]; omega) ?_
 refine s_conv (by decide) Tryz.underlying3 rfl rfl rfl (wi (y := n) (by omega)) (asI rfl rfl rfl (w_nil (then_n (wp_seq (wp_seq (c_reg (s_mv (v := .int .u64 _) rfl rfl rfl ?_)))))))
 refine s_and (c := 0) rfl rfl rfl rfl rfl (by rw [u64_m2 (by omega)]; omega) ?_
 refine s_eq rfl rfl rfl rfl rfl (decide_eq_false (by omega)) (w_nil (then_n (c_F rfl rfl (wp_skip (then_n (wp_seq (c_reg (mvI rfl rfl rfl (asI rfl rfl rfl ?_)))))))))
 refine w_nil (then_n (wp_ret ?_))
 refine ret1 (t := 2) (v := .int .i64 (n : Nat)) rfl rfl rfl ⟨rfl, rfl⟩
theorem c80 {r : Option Nat} (v0 : Value) (s : List UInt8) (n : Nat) (w : World) (hr : BRow w v0 s r) (hn : n ≤ 4611686018427387904) (hs : s.length + 10 ≤ 1000000) : Calls Tryz.prog 80 #[v0, .int .i64 (n : Nat)] w fun e w' => ∃ v' r', e = .returned v' ∧ BRow w' v' (s ++ enc n) r' ∧ Kp (fun k => some k = r) w w' ∧ (r' = r ∨ ∀ b, r' = some b → w.heap.size ≤ b) := by
 obtain ⟨W, hW⟩ : ∃ W, W = w := ⟨_, rfl⟩
 subst hW
 have K : New W W := Kp.refl _ _
 have ltR := hr.lt
 refine enter (n := 33) Tryz.func80 rfl rfl (by simp) ?_
 refine wp_seq (c_reg (s_as (v := .slice _ _ _) rfl rfl rfl (w_nil (then_n (wp_seq (c_reg (s_alloc (cs := [.int .u8 0, .int .u8 0, .int .u8 0, .int .u8 0, .int .u8 0, .int .u8 0, .int .u8 0, .int .u8 0, .int .u8 0, .int .u8 0]) z144 rfl rfl ?_)))))))
 intro b5 w1 eb5 o5 kb5 zb5
 have gb5_K : W.heap.size ≤ b5 := by have := K.size; omega
 replace K := K.transN kb5
 replace hr := hr.kp kb5 (fun _ _ e => e)
 refine w_nil (then_n (wp_seq (c_reg (mvI rfl rfl rfl (s_call1 go101 rfl (c101 n _ (by omega)) rfl rfl ?_)))))
 rintro _ wq ⟨rfl, hwq⟩
 rw [hwq]; clear hwq wq
 refine ⟨_, rfl, ?_⟩
 refine s_as (v := .int .u64 _) rfl rfl rfl (w_nil (then_n (wp_seq (c_reg (asI rfl rfl rfl (w_nil (then_n (wp_seq (c_reg ?_)))))))))
 refine mvI rfl rfl rfl (s_mv (v := .int .u64 _) rfl rfl rfl (s_and (c := ((2 * n % 128 : Nat) : Int)) rfl rfl rfl rfl rfl (u64_m128 (by omega)) (s_conv (by decide) Tryz.underlying5 rfl rfl rfl (wb (y := 2 * n % 128) (by omega)) (s_iaA (j := 9) Tryz.underlying144 sz5 rfl rfl rfl rfl rfl (by omega) (by decide) (s_set (off := 9 * 1) (v := .int .u8 ((2 * n % 128 : Nat) : Int)) sz5 rfl rfl rfl rfl rfl rfl rfl o5 (by decide) ?_)))))
 clear o5; intro w2 o5 kz zz
 replace K := K.trans' kz (fun i hi (e : i = b5) => by omega)
 replace hr := hr.kp kz (fun b hb (e : b = b5) => by have := ltR b hb; omega)
 refine w_nil (then_n (wp_seq (wp_seq (c_reg (s_mv (v := .int .u64 _) rfl rfl rfl ?_)))))
 refine s_shr (c := ((2 * n / 128 : Nat) : Int)) rfl rfl rfl rfl rfl (by decide) (by decide) (by rw [show (2 : Int) ^ (7 : Int).toNat = 128 from rfl]; omega) ?_
 refine s_as (v := .int .u64 _) rfl rfl rfl (w_nil (then_n (wp_block ?_)))
 refine c_loop (fun j f w => ∃ g u t, f = (upd (upd (upd (upd g 0 (v0)) 5 (.pointer (some ⟨b5, 0, none⟩))) 6 (.int .u64 (u : Nat))) 7 (.int .i64 (j : Nat))) ∧ encu (2 * n) = hig j u ++ t ∧ j + t.length = 10 ∧ 1 ≤ t.length ∧ u < 128 ^ j ∧ Own w b5 144 (List.replicate j (.int .u8 0) ++ bc t) ∧ BRow w v0 s r ∧ New W w) (9) ⟨_, 2 * n / 128, [UInt8.ofNat (2 * n % 128)], (upd_keep' (upd_keep' (upd_keep' (upd_keep' rfl rfl) rfl) rfl) rfl), rfl, rfl, (by simp), by omega, (by rw [bc_nat (by omega)]; exact o5), hr, K⟩ ?_
 clear K hr o5
 rintro j _ w0 ⟨g, u, t, rfl, henc, hjt, ht1, hu, o5, hr, K⟩
 refine wp_seq (wp_seq (c_reg (s_mv (v := .int .u64 _) rfl rfl rfl (s_gtr rfl rfl rfl rfl rfl rfl (w_nil (then_n ?_))))))
 refine c_if rfl rfl ?_ ?_
 ·intro ht18
  (try simp only [Q1, Q2, Q3, Q4, Q5] at ht18)
  have hj0 : j ≠ 0 := by rintro rfl; simp at hu; omega
  obtain ⟨j2, rfl⟩ : ∃ j2, j = j2 + 1 := ⟨j - 1, by omega⟩
  refine wp_skip (then_n (wp_seq (wp_block (wp_seq (c_reg (mvI rfl rfl rfl (s_sub rfl rfl rfl rfl rfl (w64 (by omega)) (asI rfl rfl rfl (w_nil ?_)))))))))
  refine then_n (c_reg (mvI rfl rfl rfl (s_mv (v := .int .u64 _) rfl rfl rfl ?_)))
  refine s_and (c := ((u % 128 : Nat) : Int)) rfl rfl rfl rfl rfl (u64_m128 (by rw [Nat.pow_succ] at hu; have h8 : 128 ^ j2 ≤ 128 ^ 8 := Nat.pow_le_pow_right (by omega) (by omega); omega)) ?_
  refine s_conv (by decide) Tryz.underlying5 rfl rfl rfl (wb (y := u % 128) (by omega)) (s_or (c := ((128 + u % 128 : Nat) : Int)) rfl rfl rfl rfl rfl (u8_o128 (by omega)) (s_iaA (j := j2) Tryz.underlying144 sz5 rfl rfl rfl rfl rfl (by omega) (by omega) ?_))
  refine s_set (off := j2 * 1) (v := .int .u8 ((128 + u % 128 : Nat) : Int)) sz5 rfl rfl rfl rfl rfl rfl rfl o5 (by simp [bc_len]; omega) ?_
  clear o5; intro w3 o5 kz zz
  replace K := K.trans' kz (fun i hi (e : i = b5) => by omega)
  replace hr := hr.kp kz (fun b hb (e : b = b5) => by have := ltR b hb; omega)
  rw [Nat.mul_one, rep_set] at o5
  refine w_nil (inb_n (then_n (c_reg (s_mv (v := .int .u64 _) rfl rfl rfl ?_))))
  refine s_shr (c := ((u / 128 : Nat) : Int)) rfl rfl rfl rfl rfl (by decide) (by decide) (by rw [show (2 : Int) ^ (7 : Int).toNat = 128 from rfl]; omega) ?_
  refine s_as (v := .int .u64 _) rfl rfl rfl (w_nil (then_n ?_))
  exact ⟨j2, _, by omega, rfl, _, u / 128, UInt8.ofNat (128 + u % 128) :: t, (upd_keep' (upd_keep' (upd_keep' (upd_keep' rfl rfl) rfl) rfl) (iv (by omega))), (by rw [henc, hig_one _ _ (by omega)]; simp), (by simp only [List.length_cons]; omega), (by simp), (by rw [Nat.pow_succ] at hu; omega), (by rw [bc_nat (by omega)]; exact o5), hr, K⟩
 ·intro ht18
  (try simp only [Q1, Q2, Q3, Q4, Q5] at ht18)
  refine wp_exit (then_x (then_x (inb_x (then_n (wp_seq (c_reg (s_mv (v := v0) rfl rfl rfl (mvI rfl rfl rfl (s_slA (lo := j) (m := 10 - j) Tryz.underlying144 sz5 rfl rfl rfl rfl rfl rfl (by omega) (by omega) ?_)))))))))
  obtain rfl : u = 0 := by omega
  rw [hig_zero, List.nil_append] at henc
  have hB := rb_rear (j := j) (l := 10) o5 (by simp) (by omega) (by omega)
  rw [show t.length = 10 - j by omega] at hB
  refine s_appB (s := s) (t := t) el38 rfl rfl rfl rfl rfl hr hB (by omega) ?_
  intro v32 w9 r9 hr9 k9 or9
  refine s_as (v := v32) rfl rfl rfl (w_nil (then_n (wp_ret ?_)))
  refine ret1 (t := 4) (v := v32) rfl rfl rfl ⟨v32, r9, rfl, ?_, K.mono (fun _ _ h => h.elim) |>.trans k9, ?_⟩
  ·unfold enc; rw [henc]; exact hr9
  ·rcases or9 with h | h; exact .inl h; exact .inr fun b hb => by rw [h] at hb; cases hb; exact K.size
theorem c81 {r : Option Nat} (v0 : Value) (s : List UInt8) (t : ByteArray) (w : World) (hr : BRow w v0 s r) (hs : s.length + 10 + t.size ≤ 1000000) : Calls Tryz.prog 81 #[v0, .string t] w fun e w' => ∃ v' r', e = .returned v' ∧ BRow w' v' (s ++ ect t) r' ∧ Kp (fun k => some k = r) w w' ∧ (r' = r ∨ ∀ b, r' = some b → w.heap.size ≤ b) := by
 obtain ⟨W, hW⟩ : ∃ W, W = w := ⟨_, rfl⟩
 subst hW
 have K : New W W := Kp.refl _ _
 refine enter (n := 11) Tryz.func81 rfl rfl (by simp) ?_
 refine wp_seq (c_reg (s_as (v := .slice _ _ _) rfl rfl rfl (w_nil (then_n (wp_seq (c_reg (s_mv (v := v0) rfl rfl rfl (s_mv (v := .string _) rfl rfl rfl (s_lenS Tryz.underlying9 rfl rfl rfl ?_)))))))))
 refine s_call2 go80 rfl (c80 v0 s t.size _ hr (by omega) (by omega)) rfl rfl rfl rfl ?_
 rintro _ w8 ⟨v8, r8, rfl, hr8, k8, or8⟩
 refine ⟨_, rfl, ?_⟩
 refine s_mv (v := .string _) rfl rfl rfl ?_
 refine s_appBS (s := s ++ enc t.size) (t := t) el38 z5 Tryz.underlying9 rfl rfl rfl rfl rfl hr8 (by have := (encu_len (2 * t.size)).2; simp only [List.length_append, enc]; omega) ?_
 intro v10 w9 r9 hr9 k9 or9
 refine s_as (v := v10) rfl rfl rfl (w_nil (then_n (wp_ret ?_)))
 refine ret1 (t := 4) (v := v10) rfl rfl rfl ⟨v10, r9, rfl, (by unfold ect; rw [← List.append_assoc]; exact hr9), k8.trans' k9 (fun i hi e => by rcases or8 with h | h; exact h ▸ e; exact absurd (h i e.symm) (by omega)), ?_⟩
 rcases or9 with h | h
 ·rw [h]; exact or8
 ·exact .inr fun b hb => by rw [h] at hb; cases hb; exact k8.size
end
section
def senc (s : Sub) : List UInt8 := enc s.code.toNat ++ ect s.value
def fhd (f : Fld) : List UInt8 := ect f.tag ++ enc f.i0.toNat ++ enc f.i1.toNat ++ enc f.subs.length
def fenc (f : Fld) : List UInt8 := fhd f ++ f.subs.flatMap senc
def renc (id : Nat) (l : List Fld) : List UInt8 := enc id ++ enc l.length ++ l.flatMap fenc
theorem enc_len (n : Nat) : (enc n).length ≤ 10 := (encu_len _).2
theorem ect_len (t : ByteArray) : (ect t).length ≤ 10 + t.size := by
  have := enc_len t.size
  simp only [ect, List.length_append, tl_len]; omega
theorem senc_len {s : Sub} (h : VSub VText s) : (senc s).length ≤ 420 := by
  have h1 := enc_len s.code.toNat
  have h2 := ect_len s.value
  have h3 := h.2.2.1
  simp only [senc, List.length_append]; omega
theorem fm_bd {α β : Type} {L : List α} {f : α → List β} {c : Nat} (h : ∀ x ∈ L, (f x).length ≤ c) : (L.flatMap f).length ≤ c * L.length := by
  induction L with
  | nil => simp
  | cons x L ih =>
    have h1 := h x (by simp)
    have h2 := ih fun y hy => h y (by simp [hy])
    simp only [List.flatMap_cons, List.length_append, List.length_cons, Nat.mul_succ]; omega
theorem fhd_len {f : Fld} (h : VFld VText f) : (fhd f).length ≤ 43 := by
  have h1 := enc_len f.i0.toNat
  have h2 := enc_len f.i1.toNat
  have h3 := enc_len f.subs.length
  have h4 := ect_len f.tag
  have h5 := (tag_len h.1).2
  simp only [fhd, List.length_append]; omega
theorem fenc_len {f : Fld} (h : VFld VText f) : (fenc f).length ≤ 8443 := by
  have h1 := fhd_len h
  have h2 := fm_bd (f := senc) fun s hs => senc_len (h.2.2.2.2.2 s hs)
  have h3 := h.2.2.2.2.1
  have : 420 * f.subs.length ≤ 420 * 20 := Nat.mul_le_mul_left _ h3
  simp only [fenc, List.length_append]; omega
theorem rok {r r' : Option Nat} {S : Nat → Prop} {z : Nat} (h : ∀ b, r = some b → S b) (o : r' = r ∨ ∀ b, r' = some b → z ≤ b) (hz : ∀ b, z ≤ b → S b) : ∀ b, r' = some b → S b := by
  intro b hb
  rcases o with e | e
  · exact h b (e ▸ hb)
  · exact hz b (e b hb)
end
section
theorem c41 {G : Nat → Prop} (id : Nat) (l : List Fld) (A : Option Addr) (cap : Nat) (w : World) (hA : FldsAt G w A l) (hv : VRec VText id l) : Calls Tryz.prog 41 #[.agg #[.int .i64 (id : Nat), .slice A l.length cap]] w fun e w' => ∃ v r, e = .returned v ∧ BRow w' v (renc id l) r ∧ (∀ b, r = some b → w.heap.size ≤ b) ∧ New w w' := by
 obtain ⟨W, hW⟩ : ∃ W, W = w := ⟨_, rfl⟩
 subst hW
 have K : New W W := Kp.refl _ _
 have hl60 := hv.2.2.2.1
 have hid := hv.2.1
 refine enter (n := 59) Tryz.func41 rfl rfl (by simp) ?_
 refine wp_seq (c_reg (s_box (cs := [.int .i64 (id : Nat), .slice A l.length cap]) rfl rfl rfl rfl ?_))
 intro b1 w1 eb1 o1 kb1 zb1
 have gb1 : W.heap.size ≤ b1 := by omega
 replace K := K.transN kb1
 have q0 := BRow.nil w1
 refine s_as (v := .slice _ _ _) rfl rfl rfl (w_nil (then_n (wp_seq ?_)))
 have hb1 := o1.lt
 have ok : ∀ b, (none : Option Nat) = some b → W.heap.size ≤ b ∧ b ≠ b1 := fun b h => by cases h
 have kd : New w1 w1.drew := (Kp.refl _ _).drew
 have hdw : w1.drew.heap.size = w1.heap.size := rfl
 replace o1 := o1.kp kd (fun e => e)
 replace K := K.transN kd
 replace q0 := q0.kp kd (fun _ _ e => e)
 have q_o1 := o1
 refine c_drawG (fun u => Kp (fun k => W.heap.size ≤ k ∧ k ≠ b1) (w1.drew) u) [false, false, true, false, false, false, true, false] [[], [0], [1], [], [3], [4], [2, 5], [6]] (fun i => i) (rank_back (by kernel_rfl)) rfl (by kernel_rfl) (Kp.refl _ _) ?_
 have kR : Kp (fun k => W.heap.size ≤ k ∧ k ≠ b1) (w1.drew) (w1.drew) := Kp.refl _ _
 refine t_q rfl rfl rfl (fun u hF => s_fa fi24_0 rfl rfl rfl (w_nil ⟨rfl, rfl, rfl⟩)) ?_
 refine t_q rfl rfl rfl (fun u hF => s_ld1 (v := .int .i64 _) on3 rfl rfl rfl ((q_o1.kp hF (fun e => e.2 rfl)).get 0 rfl) (w_nil ⟨rfl, rfl, rfl⟩)) ?_
 refine t_l rfl ?_
 have el10 := enc_len (id)
 refine s_call2 go80 rfl (c80 (.slice none 0 0) ([]) (id) _ q0 (by omega) (by simp only [List.length_append, List.length_nil]; omega)) rfl rfl rfl rfl ?_
 rintro _ w2 ⟨v10, r10, rfl, h10, k10, n10⟩
 have z10 := k10.size
 replace o1 := o1.kp k10 (fun e => by have := ok _ e.symm; omega)
 replace K := New.row K (fun b hb => by have := ok b hb; omega) k10
 replace kR := kR.trans' k10 (fun i hi e => ok i e.symm)
 replace ok := rok ok n10 (fun b hb => by omega)
 refine ⟨_, rfl, ?_⟩
 refine w_nil ⟨rfl, _, rfl, kR, ?_⟩
 refine t_q rfl rfl rfl (fun u hF => s_fa fi24_1 rfl rfl rfl (w_nil ⟨rfl, rfl, rfl⟩)) ?_
 refine t_q rfl rfl rfl (fun u hF => s_ld1 (v := .slice _ _ _) on22 rfl rfl rfl ((q_o1.kp hF (fun e => e.2 rfl)).get 1 rfl) (w_nil ⟨rfl, rfl, rfl⟩)) ?_
 refine t_q rfl rfl rfl (fun u hF => s_lenL Tryz.underlying22 rfl rfl rfl (w_nil ⟨rfl, rfl, rfl⟩)) ?_
 refine t_l rfl ?_
 have el14 := enc_len (l.length)
 refine s_call2 go80 rfl (c80 v10 ([] ++ enc (id)) (l.length) _ h10 (by omega) (by simp only [List.length_append, List.length_nil]; omega)) rfl rfl rfl rfl ?_
 rintro _ w3 ⟨v14, r14, rfl, h14, k14, n14⟩
 have z14 := k14.size
 replace o1 := o1.kp k14 (fun e => by have := ok _ e.symm; omega)
 replace K := New.row K (fun b hb => by have := ok b hb; omega) k14
 replace kR := kR.trans' k14 (fun i hi e => ok i e.symm)
 replace ok := rok ok n14 (fun b hb => by omega)
 refine ⟨_, rfl, ?_⟩
 refine w_nil ⟨rfl, _, rfl, kR, ?_⟩
 refine t_q rfl rfl rfl (fun u hF => s_as (v := v14) rfl rfl rfl (w_nil ⟨rfl, rfl, rfl⟩)) ?_
 refine t_n (then_n (wp_seq (wp_seq (c_reg (s_fa fi24_1 rfl rfl rfl (s_ld1 (v := .slice A l.length cap) on22 rfl rfl rfl (o1.get 1 rfl) (s_lenL Tryz.underlying22 rfl rfl rfl (mvI rfl rfl rfl (w_nil ?_)))))))))
 refine then_n (wp_block ?_)
 refine c_loop (fun m f w => ∃ g k vx rx, m = l.length - k ∧ k ≤ l.length ∧ f = (upd (upd (upd (upd g 3 (vx)) 16 (.slice A l.length cap)) 17 (.int .i64 (l.length : Nat))) 18 (.int .i64 (k : Nat))) ∧ BRow w vx (enc id ++ enc l.length ++ (l.take k).flatMap fenc) rx ∧ (∀ b, rx = some b → W.heap.size ≤ b) ∧ New W w) (l.length) ⟨_, 0, v14, r14, by omega, by omega, (upd_keep' (upd_keep' (upd_keep' (upd_keep' rfl rfl) rfl) rfl) rfl), (by simpa using h14), (fun b hb => (ok b hb).1), K⟩ ?_
 clear K o1 ok h14
 rintro m _ w0 ⟨g, k, vx, rx, rfl, hk, rfl, hx, ok, K⟩
 refine wp_seq (c_reg (s_lss rfl rfl rfl rfl rfl rfl (w_nil (then_n (wp_seq ?_)))))
 refine c_if rfl rfl ?_ ?_
 ·intro ht19
  (try simp only [Q1, Q2, Q3, Q4, Q5] at ht19)
  have hlt : k < l.length := by omega
  obtain ⟨p, vs, hpA, _, hp, hs0⟩ := hA.2 k _ (List.getElem?_eq_getElem hlt)
  subst hpA
  obtain ⟨fd, hfd⟩ : ∃ fd, fd = l[k] := ⟨_, rfl⟩
  have hvk := hv.2.2.2.2 _ (List.getElem_mem hlt)
  rw [← hfd] at hp hs0 hvk
  obtain ⟨As, cs, rfl, hs⟩ := hs0
  have hi0 := ind_le hvk.2.1
  have hi1 := ind_le hvk.2.2.1
  have htl := (tag_len hvk.1).2
  have ltx := hx.lt
  have hs20 := hvk.2.2.2.2.1
  have hlk := fm_bd (L := l.take k) (f := fenc) fun x hx => fenc_len (hv.2.2.2.2 _ (List.mem_of_mem_take hx))
  rw [List.length_take] at hlk
  have hl60 := hv.2.2.2.1
  have en1 := enc_len id
  have en2 := enc_len l.length
  refine wp_skip (then_n (wp_seq (wp_block (wp_seq (c_reg (s_iaE el22 rfl rfl rfl rfl rfl rfl (by omega) (s_ldA ag53 rfl rfl rfl (hp.kp K (fun e => e)) rfl (s_alloc z53 rfl rfl ?_))))))))
  intro b5 w4 eb5 o5 kb5 zb5
  have gb5_K : W.heap.size ≤ b5 := by have := K.size; omega
  replace K := K.transN kb5
  replace hx := hx.kp kb5 (fun _ _ e => e)
  refine s_st 0 sz53 (v := .agg _) rfl rfl rfl rfl rfl rfl rfl o5 rfl rfl rfl ?_
  clear o5; intro w5 o5 ksw5 zsw5
  replace K := K.trans' ksw5 (fun i hi (e : i = b5) => by omega)
  replace hx := hx.kp ksw5 (fun b hb (e : b = b5) => by have := ltx b hb; omega)
  refine w_nil (then_n (wp_seq ?_))
  replace ok : ∀ b, rx = some b → W.heap.size ≤ b ∧ b ≠ b5 := fun b hb => ⟨ok b hb, by have := ltx b hb; omega⟩
  have hb5 := o5.lt
  have kd : New w5 w5.drew := (Kp.refl _ _).drew
  have hdw : w5.drew.heap.size = w5.heap.size := rfl
  replace o5 := o5.kp kd (fun e => e)
  replace K := K.transN kd
  replace hx := hx.kp kd (fun _ _ e => e)
  have q_o5 := o5
  refine c_drawG (fun u => Kp (fun k => W.heap.size ≤ k ∧ k ≠ b5) (w5.drew) u) [false, false, false, true, false, false, false, false, true, false, false, false, false, true, false] [[], [], [1], [0, 2], [], [4], [5], [6], [3, 7], [], [9], [10], [11], [3, 8, 12], [0, 13]] (fun i => i) (rank_back (by kernel_rfl)) rfl (by kernel_rfl) (Kp.refl _ _) ?_
  have kR : Kp (fun k => W.heap.size ≤ k ∧ k ≠ b5) (w5.drew) (w5.drew) := Kp.refl _ _
  refine t_q rfl rfl rfl (fun u hF => s_mv (v := vx) rfl rfl rfl (w_nil ⟨rfl, rfl, rfl⟩)) ?_
  refine t_q rfl rfl rfl (fun u hF => s_fa fi53_0 rfl rfl rfl (w_nil ⟨rfl, rfl, rfl⟩)) ?_
  refine t_q rfl rfl rfl (fun u hF => s_ld1 (v := .string _) on9 rfl rfl rfl ((q_o5.kp hF (fun e => e.2 rfl)).get 0 rfl) (w_nil ⟨rfl, rfl, rfl⟩)) ?_
  refine t_l rfl ?_
  have el25 := ect_len (fd.tag)
  refine s_call2 go81 rfl (c81 vx (enc id ++ enc l.length ++ (l.take k).flatMap fenc) (fd.tag) _ hx (by simp only [List.length_append, List.length_nil]; omega)) rfl rfl rfl rfl ?_
  rintro _ w6 ⟨v25, r25, rfl, h25, k25, n25⟩
  have z25 := k25.size
  replace o5 := o5.kp k25 (fun e => by have := ok _ e.symm; omega)
  replace K := New.row K (fun b hb => by have := ok b hb; omega) k25
  replace kR := kR.trans' k25 (fun i hi e => ok i e.symm)
  replace ok := rok ok n25 (fun b hb => by omega)
  refine ⟨_, rfl, ?_⟩
  refine w_nil ⟨rfl, _, rfl, kR, ?_⟩
  refine t_q rfl rfl rfl (fun u hF => s_fa fi53_1 rfl rfl rfl (w_nil ⟨rfl, rfl, rfl⟩)) ?_
  refine t_q rfl rfl rfl (fun u hF => s_iaA (j := 0) Tryz.underlying48 sz5 rfl rfl rfl rfl rfl rfl (by decide) (w_nil ⟨rfl, rfl, rfl⟩)) ?_
  refine t_q rfl rfl rfl (fun u hF => s_ld1 (v := .int .u8 _) on5 rfl rfl rfl (by rw [add_add]; exact (q_o5.kp hF (fun e => e.2 rfl)).get 1 rfl) (w_nil ⟨rfl, rfl, rfl⟩)) ?_
  refine t_q rfl rfl rfl (fun u hF => s_conv (by decide) Tryz.underlying3 rfl rfl rfl (wi (y := fd.i0.toNat) (by omega)) (w_nil ⟨rfl, rfl, rfl⟩)) ?_
  refine t_l rfl ?_
  have el30 := enc_len (fd.i0.toNat)
  refine s_call2 go80 rfl (c80 v25 (enc id ++ enc l.length ++ (l.take k).flatMap fenc ++ ect (fd.tag)) (fd.i0.toNat) _ h25 (by omega) (by simp only [List.length_append, List.length_nil]; omega)) rfl rfl rfl rfl ?_
  rintro _ w7 ⟨v30, r30, rfl, h30, k30, n30⟩
  have z30 := k30.size
  replace o5 := o5.kp k30 (fun e => by have := ok _ e.symm; omega)
  replace K := New.row K (fun b hb => by have := ok b hb; omega) k30
  replace kR := kR.trans' k30 (fun i hi e => ok i e.symm)
  replace ok := rok ok n30 (fun b hb => by omega)
  refine ⟨_, rfl, ?_⟩
  refine w_nil ⟨rfl, _, rfl, kR, ?_⟩
  refine t_q rfl rfl rfl (fun u hF => s_fa fi53_1 rfl rfl rfl (w_nil ⟨rfl, rfl, rfl⟩)) ?_
  refine t_q rfl rfl rfl (fun u hF => s_iaA (j := 1) Tryz.underlying48 sz5 rfl rfl rfl rfl rfl rfl (by decide) (w_nil ⟨rfl, rfl, rfl⟩)) ?_
  refine t_q rfl rfl rfl (fun u hF => s_ld1 (v := .int .u8 _) on5 rfl rfl rfl (by rw [add_add]; exact (q_o5.kp hF (fun e => e.2 rfl)).get 2 rfl) (w_nil ⟨rfl, rfl, rfl⟩)) ?_
  refine t_q rfl rfl rfl (fun u hF => s_conv (by decide) Tryz.underlying3 rfl rfl rfl (wi (y := fd.i1.toNat) (by omega)) (w_nil ⟨rfl, rfl, rfl⟩)) ?_
  refine t_l rfl ?_
  have el35 := enc_len (fd.i1.toNat)
  refine s_call2 go80 rfl (c80 v30 (enc id ++ enc l.length ++ (l.take k).flatMap fenc ++ ect (fd.tag) ++ enc (fd.i0.toNat)) (fd.i1.toNat) _ h30 (by omega) (by simp only [List.length_append, List.length_nil]; omega)) rfl rfl rfl rfl ?_
  rintro _ w8 ⟨v35, r35, rfl, h35, k35, n35⟩
  have z35 := k35.size
  replace o5 := o5.kp k35 (fun e => by have := ok _ e.symm; omega)
  replace K := New.row K (fun b hb => by have := ok b hb; omega) k35
  replace kR := kR.trans' k35 (fun i hi e => ok i e.symm)
  replace ok := rok ok n35 (fun b hb => by omega)
  refine ⟨_, rfl, ?_⟩
  refine w_nil ⟨rfl, _, rfl, kR, ?_⟩
  refine t_q rfl rfl rfl (fun u hF => s_as (v := v35) rfl rfl rfl (w_nil ⟨rfl, rfl, rfl⟩)) ?_
  refine t_n (then_n (wp_seq (c_reg (s_mv (v := v35) rfl rfl rfl (s_fa fi53_2 rfl rfl rfl (s_ld1 (v := .slice As fd.subs.length cs) on51 rfl rfl rfl (o5.get 3 rfl) (s_lenL Tryz.underlying51 rfl rfl rfl ?_)))))))
  have el40 := enc_len (fd.subs.length)
  refine s_call2 go80 rfl (c80 v35 (enc id ++ enc l.length ++ (l.take k).flatMap fenc ++ ect (fd.tag) ++ enc (fd.i0.toNat) ++ enc (fd.i1.toNat)) (fd.subs.length) _ h35 (by omega) (by simp only [List.length_append, List.length_nil]; omega)) rfl rfl rfl rfl ?_
  rintro _ w9 ⟨v40, r40, rfl, h40, k40, n40⟩
  have z40 := k40.size
  replace o5 := o5.kp k40 (fun e => by have := ok _ e.symm; omega)
  replace K := New.row K (fun b hb => by have := ok b hb; omega) k40
  replace ok := rok ok n40 (fun b hb => by omega)
  refine ⟨_, rfl, ?_⟩
  refine s_as (v := v40) rfl rfl rfl (w_nil (then_n (wp_seq (c_reg (s_fa fi53_2 rfl rfl rfl (s_ld1 (v := .slice As fd.subs.length cs) on51 rfl rfl rfl (o5.get 3 rfl) (s_lenL Tryz.underlying51 rfl rfl rfl (mvI rfl rfl rfl (w_nil ?_)))))))))
  refine then_n (wp_block ?_)
  refine c_loop (fun m f w => ∃ g j vx rx, m = fd.subs.length - j ∧ j ≤ fd.subs.length ∧ f = (upd (upd (upd (upd (upd (upd (upd g 3 (vx)) 16 (.slice (some p) l.length cap)) 17 (.int .i64 (l.length : Nat))) 18 (.int .i64 (k : Nat))) 42 (.slice As fd.subs.length cs)) 43 (.int .i64 (fd.subs.length : Nat))) 44 (.int .i64 (j : Nat))) ∧ BRow w vx (enc id ++ enc l.length ++ (l.take k).flatMap fenc ++ fhd fd ++ (fd.subs.take j).flatMap senc) rx ∧ (∀ b, rx = some b → W.heap.size ≤ b) ∧ New W w) (fd.subs.length) ⟨_, 0, v40, r40, by omega, by omega, (upd_keep' (upd_keep' (upd_keep' (upd_keep' (upd_keep' (upd_keep' (upd_keep' rfl rfl) rfl) rfl) rfl) rfl) rfl) rfl), (by simpa [fhd] using h40), (fun b hb => (ok b hb).1), K⟩ ?_
  clear K o5 ok h40
  rintro m _ w5 ⟨g, j, vx, rx, rfl, hj, rfl, hx, ok, K⟩
  refine wp_seq (c_reg (s_lss rfl rfl rfl rfl rfl rfl (w_nil (then_n (wp_seq ?_)))))
  refine c_if rfl rfl ?_ ?_
  ·intro ht45
   (try simp only [Q1, Q2, Q3, Q4, Q5] at ht45)
   have hjt : j < fd.subs.length := by omega
   obtain ⟨q, hqA, _, hq⟩ := hs.2 j _ (List.getElem?_eq_getElem hjt)
   subst hqA
   obtain ⟨sb, hsb⟩ : ∃ sb, sb = fd.subs[j] := ⟨_, rfl⟩
   rw [← hsb] at hq
   obtain ⟨vs1, vs2⟩ := hvk.2.2.2.2.2 _ (List.getElem_mem hjt)
   rw [← hsb] at vs1 vs2
   have hcd := cd_le vs1
   have hvt := vs2.2.1
   have ltx := hx.lt
   have hlj := fm_bd (L := fd.subs.take j) (f := senc) fun x hx => senc_len (hvk.2.2.2.2.2 _ (List.mem_of_mem_take hx))
   rw [List.length_take] at hlj
   have hfh := fhd_len hvk
   refine wp_skip (then_n (wp_seq (wp_block (wp_seq (c_reg (s_iaE el51 rfl rfl rfl rfl rfl rfl (by omega) (s_ldA ag50 rfl rfl rfl (hq.kp K (fun e => e)) rfl (s_alloc z50 rfl rfl ?_))))))))
   intro b7 w10 eb7 o7 kb7 zb7
   have gb7_K : W.heap.size ≤ b7 := by have := K.size; omega
   replace K := K.transN kb7
   replace hx := hx.kp kb7 (fun _ _ e => e)
   refine s_st 0 sz50 (v := .agg _) rfl rfl rfl rfl rfl rfl rfl o7 rfl rfl rfl ?_
   clear o7; intro w11 o7 ksw11 zsw11
   replace K := K.trans' ksw11 (fun i hi (e : i = b7) => by omega)
   replace hx := hx.kp ksw11 (fun b hb (e : b = b7) => by have := ltx b hb; omega)
   refine w_nil (then_n ?_)
   replace ok : ∀ b, rx = some b → W.heap.size ≤ b ∧ b ≠ b7 := fun b hb => ⟨ok b hb, by have := ltx b hb; omega⟩
   have hb7 := o7.lt
   have kd : New w11 w11.drew := (Kp.refl _ _).drew
   have hdw : w11.drew.heap.size = w11.heap.size := rfl
   replace o7 := o7.kp kd (fun e => e)
   replace K := K.transN kd
   replace hx := hx.kp kd (fun _ _ e => e)
   have q_o7 := o7
   refine c_drawG (fun u => Kp (fun k => W.heap.size ≤ k ∧ k ≠ b7) (w11.drew) u) [false, false, false, false, true, false, false, true, false] [[], [], [1], [2], [0, 3], [], [5], [4, 6], [0, 7]] (fun i => i) (rank_back (by kernel_rfl)) rfl (by kernel_rfl) (Kp.refl _ _) ?_
   have kR : Kp (fun k => W.heap.size ≤ k ∧ k ≠ b7) (w11.drew) (w11.drew) := Kp.refl _ _
   refine t_q rfl rfl rfl (fun u hF => s_mv (v := vx) rfl rfl rfl (w_nil ⟨rfl, rfl, rfl⟩)) ?_
   refine t_q rfl rfl rfl (fun u hF => s_fa fi50_0 rfl rfl rfl (w_nil ⟨rfl, rfl, rfl⟩)) ?_
   refine t_q rfl rfl rfl (fun u hF => s_ld1 (v := .int .u8 _) on5 rfl rfl rfl ((q_o7.kp hF (fun e => e.2 rfl)).get 0 rfl) (w_nil ⟨rfl, rfl, rfl⟩)) ?_
   refine t_q rfl rfl rfl (fun u hF => s_conv (by decide) Tryz.underlying3 rfl rfl rfl (wi (y := sb.code.toNat) (by omega)) (w_nil ⟨rfl, rfl, rfl⟩)) ?_
   refine t_l rfl ?_
   have el52 := enc_len (sb.code.toNat)
   refine s_call2 go80 rfl (c80 vx (enc id ++ enc l.length ++ (l.take k).flatMap fenc ++ fhd fd ++ (fd.subs.take j).flatMap senc) (sb.code.toNat) _ hx (by omega) (by simp only [List.length_append, List.length_nil]; omega)) rfl rfl rfl rfl ?_
   rintro _ w12 ⟨v52, r52, rfl, h52, k52, n52⟩
   have z52 := k52.size
   replace o7 := o7.kp k52 (fun e => by have := ok _ e.symm; omega)
   replace K := New.row K (fun b hb => by have := ok b hb; omega) k52
   replace kR := kR.trans' k52 (fun i hi e => ok i e.symm)
   replace ok := rok ok n52 (fun b hb => by omega)
   refine ⟨_, rfl, ?_⟩
   refine w_nil ⟨rfl, _, rfl, kR, ?_⟩
   refine t_q rfl rfl rfl (fun u hF => s_fa fi50_1 rfl rfl rfl (w_nil ⟨rfl, rfl, rfl⟩)) ?_
   refine t_q rfl rfl rfl (fun u hF => s_ld1 (v := .string _) on9 rfl rfl rfl ((q_o7.kp hF (fun e => e.2 rfl)).get 1 rfl) (w_nil ⟨rfl, rfl, rfl⟩)) ?_
   refine t_l rfl ?_
   have el55 := ect_len (sb.value)
   refine s_call2 go81 rfl (c81 v52 (enc id ++ enc l.length ++ (l.take k).flatMap fenc ++ fhd fd ++ (fd.subs.take j).flatMap senc ++ enc (sb.code.toNat)) (sb.value) _ h52 (by simp only [List.length_append, List.length_nil]; omega)) rfl rfl rfl rfl ?_
   rintro _ w13 ⟨v55, r55, rfl, h55, k55, n55⟩
   have z55 := k55.size
   replace o7 := o7.kp k55 (fun e => by have := ok _ e.symm; omega)
   replace K := New.row K (fun b hb => by have := ok b hb; omega) k55
   replace kR := kR.trans' k55 (fun i hi e => ok i e.symm)
   replace ok := rok ok n55 (fun b hb => by omega)
   refine ⟨_, rfl, ?_⟩
   refine w_nil ⟨rfl, _, rfl, kR, ?_⟩
   refine t_q rfl rfl rfl (fun u hF => s_as (v := v55) rfl rfl rfl (w_nil ⟨rfl, rfl, rfl⟩)) ?_
   refine t_n (inb_n (then_n (c_reg (s_add rfl rfl rfl rfl rfl (w64 (by omega)) (mvI rfl rfl rfl (w_nil (then_n ?_)))))))
   exact ⟨fd.subs.length - (j + 1), _, by omega, rfl, _, j + 1, v55, r55, rfl, by omega, (upd_keep' (upd_keep' (upd_keep' (upd_keep' (upd_keep' (upd_keep' (upd_keep' rfl rfl) rfl) rfl) rfl) rfl) rfl) rfl), (by rw [fm_succ _ _ hjt, ← hsb]; simpa [senc] using h55), (fun b hb => (ok b hb).1), K⟩
  ·intro ht45
   (try simp only [Q1, Q2, Q3, Q4, Q5] at ht45)
   refine wp_exit (then_x (then_x (inb_x (inb_n (then_n (c_reg (s_add rfl rfl rfl rfl rfl (w64 (by omega)) (mvI rfl rfl rfl (w_nil ?_)))))))))
   refine then_n ?_
   have hje : j = fd.subs.length := by omega
   rw [hje, List.take_length] at hx
   exact ⟨l.length - (k + 1), _, by omega, rfl, _, k + 1, vx, rx, rfl, by omega, (upd_keep' (upd_keep' (upd_keep' (upd_keep' rfl rfl) rfl) rfl) rfl), (by rw [fm_succ _ _ hlt, ← hfd]; simpa [fenc] using hx), ok, K⟩
 ·intro ht19
  (try simp only [Q1, Q2, Q3, Q4, Q5] at ht19)
  refine wp_exit (then_x (then_x (inb_x (then_n (wp_seq (c_reg (s_mv (v := vx) rfl rfl rfl (s_as (v := vx) rfl rfl rfl (w_nil ?_)))))))))
  refine then_n (wp_ret ?_)
  obtain rfl : k = l.length := by omega
  rw [List.take_length] at hx
  refine ret1 (t := 2) (v := vx) rfl rfl rfl ⟨vx, rx, rfl, hx, ok, K⟩
end
section
theorem encu_pre {u j : Nat} (hj : j < (encu u).length) : (encu u).take j = (hig 9 (u / 128)).take j := by
  unfold encu at hj ⊢
  simp only [List.length_append, List.length_singleton] at hj
  rw [List.take_append_of_le_length (by omega)]
theorem encu_vl {u j : Nat} (hu : u < 18446744073709551616) (hj : j < (encu u).length) : vl ((encu u).take j) < 144115188075855872 := by
  rw [encu_pre hj]
  have h1 := vl_take (hig 9 (u / 128)) j
  rw [vl_hig 9 (u / 128) (by omega)] at h1
  omega
theorem encu_first {u : Nat} (hu : u < 18446744073709551616) : ∀ c, (encu u)[0]? = some c → c.toNat ≠ 128 := by
  intro c hc
  unfold encu at hc
  by_cases h : hig 9 (u / 128) = []
  · rw [h] at hc; simp at hc; subst hc; simp; omega
  · rw [List.getElem?_append_left (List.length_pos_iff.2 h)] at hc
    exact hig_first 9 _ c hc (by omega)
theorem encu_end {u j : Nat} {c : UInt8} (hc : (encu u)[j]? = some c) : c.toNat < 128 ↔ j + 1 = (encu u).length := by
  have hj := (List.getElem?_eq_some_iff.1 hc).1
  unfold encu at hc hj ⊢
  simp only [List.length_append, List.length_singleton] at hj ⊢
  by_cases h : j < (hig 9 (u / 128)).length
  · rw [List.getElem?_append_left h] at hc
    have := hig_ge 9 _ c (List.mem_of_getElem? hc)
    omega
  · rw [List.getElem?_append_right (by omega), show j - (hig 9 (u / 128)).length = 0 by omega] at hc
    simp at hc; subst hc; simp; omega
theorem vl_next {u j : Nat} {c : UInt8} (hc : (encu u)[j]? = some c) : vl ((encu u).take (j + 1)) = vl ((encu u).take j) * 128 + c.toNat % 128 := by
  have hj := (List.getElem?_eq_some_iff.1 hc).1
  rw [List.take_succ_eq_append_getElem hj, vl_snoc, (List.getElem?_eq_some_iff.1 hc).2]
theorem drop_get {α : Type} {B p r : List α} {a j : Nat} (h : B.drop a = p ++ r) (hj : j < p.length) : B[a + j]? = p[j]? := by
  rw [← List.getElem?_drop, h, List.getElem?_append_left hj]
theorem drop_len {α : Type} {B p r : List α} {a : Nat} (h : B.drop a = p ++ r) (hp : 0 < p.length) : a + p.length + r.length = B.length := by
  have : (B.drop a).length = (p ++ r).length := by rw [h]
  simp only [List.length_drop, List.length_append] at this; omega
theorem drop_next {α : Type} {B p r : List α} {a : Nat} (h : B.drop a = p ++ r) : B.drop (a + p.length) = r := by
  rw [← List.drop_drop, h, List.drop_left]
section steps
variable {md : Md} {P : Program} {ops : Array Oper} {Q : Exit → Act → World → Prop} {n : Nat} {ds : List Deferred} {f : Nat → Value} {w w' : World} {rest : List Oper}
  {d : Nat} {ty : TypeId} {pos : String} {af : Array Edge} {g : Option (Nat × Bool)} {v : Value} {x y z : Operand} {tx ty' : TypeId}
theorem pte_of {t e : TypeId} (h : P.underlying t = some (.pointer e)) : P.underlying t = some (.pointer (P.pointee t)) := by
  unfold Program.pointee; simp [h]
theorem s_pnil {p : Option Addr} {e : TypeId} (hT : P.underlying tx = some (.pointer e)) (hg : Gd n ops f g = some true) (hb : inb n x = true) (hb' : inb n y = true) (hx : ev f x = .pointer p) (hy : ev f y = .pointer none)
    {t' : Bool} (ht : p.isNone = t') (k : WL md P ops Q rest n ds (upd f d (.bool t')) w) : WL md P ops Q (⟨some d, .binOp .eql tx x y ty', ty, pos, af, g⟩ :: rest) n ds f w :=
  st_run hg (by subst ht; simp only [execOp, Fr_eval hb, Fr_eval hb', hx, hy]; exact run_val (run_eql_pointer_nil w tx p (pte_of hT))) k
end steps
end
section
theorem c42 {G : Nat → Prop} (A : Option Addr) (cap : Nat) (s : List UInt8) (w : World) (hv : RBytes G w (.slice A s.length cap) s) (hs : s.length ≤ 1000000) : Calls Tryz.prog 42 #[.slice A s.length cap] w fun e w' => ∃ b A4 c4, e = .returned (.pointer (some ⟨b, 0, none⟩)) ∧ Own w' b 128 [.slice A4 s.length c4, .int .i64 ((0 : Nat) : Int), .bool false] ∧ RBytes (fun i => w.heap.size ≤ i ∧ i < b) w' (.slice A4 s.length c4) s ∧ w.heap.size ≤ b ∧ New w w' := by
 obtain ⟨W, hW⟩ : ∃ W, W = w := ⟨_, rfl⟩
 subst hW
 have K : New W W := Kp.refl _ _
 refine enter (n := 7) Tryz.func42 rfl rfl (by simp) ?_
 refine wp_seq (c_reg (s_as (v := .pointer _) rfl rfl rfl (w_nil (then_n (wp_seq (c_reg (s_mv (v := .slice A s.length cap) rfl rfl rfl (s_call1 go34 rfl (c34 A cap s _ hv hs) rfl rfl ?_))))))))
 rintro _ w4 ⟨v4, r4, rfl, h4, g4, k4⟩
 replace K := K.transN k4
 obtain ⟨A4, c4, rfl⟩ := h4.shape
 refine ⟨_, rfl, ?_⟩
 refine s_bd1 (cells := #[_, _, _]) bd128 rfl rfl rfl rfl ?_
 have hold := h4.lt
 refine s_box (cs := [.slice A4 s.length c4, .int .i64 0, .bool false]) rfl rfl rfl rfl ?_
 intro b6 w6 eb6 o6 k6 z6
 have gb6 : W.heap.size ≤ b6 := by have := K.size; omega
 replace K := K.transN k6
 replace h4 := h4.kp k6 (fun _ _ e => e)
 refine s_as (v := .pointer _) rfl rfl rfl (w_nil (then_n (wp_ret ?_)))
 refine ret1 (t := 2) (v := .pointer (some ⟨b6, 0, none⟩)) rfl rfl rfl ⟨b6, A4, c4, rfl, o6, ?_, gb6, K⟩
 refine (h4.rbytes hs).weak fun i (hi : some i = r4) => ⟨g4 i hi.symm, ?_⟩
 have hh := hold i hi.symm; omega
theorem c82 {G : Nat → Prop} (bP : Nat) (A : Option Addr) (cap : Nat) (B rest : List UInt8) (at0 n : Nat) (w : World) (oP : Own w bP 128 [.slice A B.length cap, .int .i64 ((at0 : Nat) : Int), .bool false]) (hB : BytesAt G w A B) (hd : B.drop at0 = enc n ++ rest) (hn : n ≤ 4611686018427387904) (hcap : B.length ≤ 1000000) : Calls Tryz.prog 82 #[.pointer (some ⟨bP, 0, none⟩)] w fun e w' => e = .returned (.tuple #[.int .i64 (n : Nat), .int .i64 (((enc n).length : Nat) : Int)]) ∧ New w w' := by
 obtain ⟨W, hW⟩ : ∃ W, W = w := ⟨_, rfl⟩
 subst hW
 have K : New W W := Kp.refl _ _
 have hl1 := (encu_len (2 * n)).1
 have hl2 := (encu_len (2 * n)).2
 have hlB := drop_len hd (by simp only [enc]; omega)
 simp only [enc] at hlB
 refine enter (n := 59) Tryz.func82 rfl rfl (by simp) ?_
 refine wp_seq (c_reg (asI rfl rfl rfl (asI rfl rfl rfl (w_nil (then_n (wp_seq (c_reg (s_as (v := .int .u64 _) rfl rfl rfl (w_nil ?_)))))))))
 refine then_n (wp_seq (wp_seq (c_reg (s_mv (v := .pointer (some _)) rfl rfl rfl (s_nc rfl rfl rfl (s_fa fi128_1 rfl rfl rfl (s_ld1 (v := .int .i64 _) on3 rfl rfl rfl (oP.get 1 rfl) (asI rfl rfl rfl (w_nil ?_)))))))))
 refine then_n (wp_block ?_)
 refine c_loop (fun m f w => ∃ g j u, m = (encu (2 * n)).length - j ∧ j < (encu (2 * n)).length ∧ u = vl ((encu (2 * n)).take j) ∧ f = (upd (upd (upd g 0 (.pointer (some ⟨bP, 0, none⟩))) 4 (.int .u64 (u : Nat))) 5 (.int .i64 ((at0 + j : Nat) : Int))) ∧ New W w) ((encu (2 * n)).length) ⟨_, 0, 0, by omega, by omega, rfl, (upd_keep' (upd_keep' (upd_keep' rfl rfl) rfl) rfl), K⟩ ?_
 clear K
 rintro m _ w0 ⟨g, j, u, rfl, hj, hu, rfl, K⟩
 have oK := oP.kp K (fun e => e)
 have hul := encu_vl (by omega) hj
 rw [← hu] at hul
 obtain ⟨c, hc⟩ : ∃ c, (encu (2 * n))[j]? = some c := ⟨_, List.getElem?_eq_getElem hj⟩
 have hcB := (drop_get hd (by simpa [enc] using hj)).trans hc
 obtain ⟨q, hq, _, hcell⟩ := hB.2 _ _ hcB
 subst hq
 have hc1 : j = 0 → c.toNat ≠ 128 := by rintro rfl; exact encu_first (by omega) c hc
 have hce := encu_end hc
 have hcn := vl_next hc
 rw [← hu] at hcn
 have hc256 := c.toNat_lt
 refine wp_seq (wp_seq (c_reg (mvI rfl rfl rfl (s_mv (v := .pointer (some _)) rfl rfl rfl (s_nc rfl rfl rfl (s_fa fi128_0 rfl rfl rfl (s_ld1 (v := .slice (some q) B.length cap) on38 rfl rfl rfl (oK.get 0 rfl) (s_lenL Tryz.underlying38 rfl rfl rfl (s_lss rfl rfl rfl rfl rfl (decide_eq_true (by omega)) ?_)))))))))
 refine w_nil (then_n (c_T rfl rfl (wp_skip (then_n (wp_seq (wp_block (wp_seq (c_reg (s_mv (v := .pointer (some _)) rfl rfl rfl ?_)))))))))
 refine s_nc rfl rfl rfl (s_fa fi128_0 rfl rfl rfl (s_ld1 (v := .slice (some q) B.length cap) on38 rfl rfl rfl (oK.get 0 rfl) (mvI rfl rfl rfl (s_iaE (j := at0 + j) el38 rfl rfl rfl rfl rfl rfl (by omega) ?_))))
 refine s_ld1 (v := .int .u8 _) on5 rfl rfl rfl (by have h9 := K.cell hcell (fun e => e); simpa using h9) ?_
 refine s_as (v := .int .u8 _) rfl rfl rfl (w_nil (then_n (wp_seq (wp_seq (c_reg (mvI rfl rfl rfl (s_mv (v := .pointer (some _)) rfl rfl rfl (s_nc rfl rfl rfl (s_fa fi128_1 rfl rfl rfl ?_)))))))))
 refine s_ld1 (v := .int .i64 _) on3 rfl rfl rfl (oK.get 1 rfl) (s_eq rfl rfl rfl rfl rfl rfl (mvB rfl rfl rfl ?_))
 refine w_split (t := 33) rfl ?_ ?_
 ·intro hs33
  (try simp only [Q1, Q2, Q3, Q4, Q5] at hs33)
  refine s_mv (v := .int .u8 _) rfl rfl rfl (s_eq rfl rfl rfl rfl rfl (decide_eq_false (by omega)) (pTB rfl rfl rfl rfl rfl (mvB rfl rfl rfl (s_mv (v := .int .u64 _) rfl rfl rfl ?_))))
  refine s_shr (c := ((0 : Nat) : Int)) rfl rfl rfl rfl rfl (by decide) (by decide) (by rw [show (2 : Int) ^ (57 : Int).toNat = 144115188075855872 from rfl]; omega) ?_
  refine s_ne rfl rfl rfl rfl rfl (ne_F (by omega)) (pFB rfl rfl rfl rfl rfl (w_nil (then_n (c_F rfl rfl (wp_skip (then_n (wp_seq (c_reg (s_mv (v := .int .u64 _) rfl rfl rfl ?_)))))))))
  refine s_shl (c := ((u * 128 : Nat) : Int)) rfl rfl rfl rfl rfl (by decide) (by decide) (by rw [show (2 : Int) ^ (7 : Int).toNat = 128 from rfl]; exact wu (by omega)) ?_
  refine s_mv (v := .int .u8 _) rfl rfl rfl (s_and (c := ((c.toNat % 128 : Nat) : Int)) rfl rfl rfl rfl rfl (u8_m128 hc256) (s_conv (by decide) Tryz.underlying145 rfl rfl rfl (wu (y := c.toNat % 128) (by omega)) (s_or (c := ((u * 128 + c.toNat % 128 : Nat) : Int)) rfl rfl rfl rfl rfl (u64_o7 (by omega) (by omega)) (s_as (v := .int .u64 _) rfl rfl rfl (w_nil (then_n (wp_seq (c_reg (s_mv (v := .int .u8 _) rfl rfl rfl ?_)))))))))
  refine s_lss rfl rfl rfl rfl rfl rfl (w_nil (then_n ?_))
  refine c_if rfl rfl ?_ ?_
  ·intro ht49
   (try simp only [Q1, Q2, Q3, Q4, Q5] at ht49)
   have hje : j + 1 = (encu (2 * n)).length := by omega
   rw [hje, List.take_length, vl_encu _ (by omega)] at hcn
   rw [← hcn]
   refine wp_seq ?_
   have kd : New w0 w0.drew := (Kp.refl _ _).drew
   have hdw : w0.drew.heap.size = w0.heap.size := rfl
   replace oK := oK.kp kd (fun e => e)
   replace K := K.transN kd
   have q_oK := oK
   refine c_drawG (fun u => Kp (fun _ => False) (w0.drew) u) [false, true, false, false, false, false, false, false, false, false, false] [[], [0], [], [], [3], [4], [5], [2, 6], [7], [1], [8]] (fun i => if i = 9 then 2 else if 2 ≤ i ∧ i ≤ 8 then i + 1 else i) (rank_gc (rk := fun i => if i = 9 then 2 else if 2 ≤ i ∧ i ≤ 8 then i + 1 else i) (by kernel_rfl)) rfl (by kernel_rfl) (Kp.refl _ _) ?_
   have kR : Kp (fun _ => False) (w0.drew) (w0.drew) := Kp.refl _ _
   refine t_q rfl rfl rfl (fun u hF => s_mv (v := .int .u64 _) rfl rfl rfl (w_nil ⟨rfl, rfl, rfl⟩)) ?_
   refine t_l rfl (s_call1 go102 rfl (c102 n _ (by omega)) rfl rfl ?_)
   rintro _ wq ⟨rfl, hwq⟩
   rw [hwq]; clear hwq wq
   refine ⟨_, rfl, ?_⟩
   refine w_nil ⟨rfl, _, rfl, kR, ?_⟩
   refine t_q rfl rfl rfl (fun u hF => mvI rfl rfl rfl (w_nil ⟨rfl, rfl, rfl⟩)) ?_
   refine t_q rfl rfl rfl (fun u hF => s_mv (v := .pointer (some _)) rfl rfl rfl (w_nil ⟨rfl, rfl, rfl⟩)) ?_
   refine t_nc rfl rfl rfl ?_
   refine t_q rfl rfl rfl (fun u hF => s_fa fi128_1 rfl rfl rfl (w_nil ⟨rfl, rfl, rfl⟩)) ?_
   refine t_q rfl rfl rfl (fun u hF => s_ld1 (v := .int .i64 _) on3 rfl rfl rfl ((q_oK.kp hF (fun e => e)).get 1 rfl) (w_nil ⟨rfl, rfl, rfl⟩)) ?_
   refine t_q rfl rfl rfl (fun u hF => s_sub (c := ((j : Nat) : Int)) rfl rfl rfl rfl rfl (w64c (by omega)) (w_nil ⟨rfl, rfl, rfl⟩)) ?_
   refine t_q rfl rfl rfl (fun u hF => s_add (c := (((encu (2 * n)).length : Nat) : Int)) rfl rfl rfl rfl rfl (w64c (by omega)) (w_nil ⟨rfl, rfl, rfl⟩)) ?_
   refine t_q rfl rfl rfl (fun u hF => asI rfl rfl rfl (w_nil ⟨rfl, rfl, rfl⟩)) ?_
   refine t_q rfl rfl rfl (fun u hF => asI rfl rfl rfl (w_nil ⟨rfl, rfl, rfl⟩)) ?_
   refine t_n (then_n (wp_ret (inb_r (then_r (then_r (inb_r (then_r ?_)))))))
   refine ret2 (t := 2) (u := 3) (v := .int .i64 (n : Nat)) (v' := .int .i64 (((encu (2 * n)).length : Nat) : Int)) rfl rfl rfl rfl rfl ⟨rfl, K⟩
  ·intro ht49
   (try simp only [Q1, Q2, Q3, Q4, Q5] at ht49)
   refine wp_skip (inb_n (then_n (c_reg (mvI rfl rfl rfl (s_add rfl rfl rfl rfl rfl (w64 (by omega)) (asI rfl rfl rfl (w_nil (then_n ?_))))))))
   exact ⟨(encu (2 * n)).length - (j + 1), _, by omega, rfl, _, j + 1, u * 128 + c.toNat % 128, rfl, by omega, hcn.symm, (upd_keep' (upd_keep' (upd_keep' rfl rfl) rfl) rfl), K⟩
 ·intro hs33
  (try simp only [Q1, Q2, Q3, Q4, Q5] at hs33)
  refine st_skip rfl (st_skip rfl (pFB rfl rfl rfl rfl rfl (mvB rfl rfl rfl (s_mv (v := .int .u64 _) rfl rfl rfl ?_))))
  refine s_shr (c := ((0 : Nat) : Int)) rfl rfl rfl rfl rfl (by decide) (by decide) (by rw [show (2 : Int) ^ (57 : Int).toNat = 144115188075855872 from rfl]; omega) ?_
  refine s_ne rfl rfl rfl rfl rfl (ne_F (by omega)) (pFB rfl rfl rfl rfl rfl (w_nil (then_n (c_F rfl rfl (wp_skip (then_n (wp_seq (c_reg (s_mv (v := .int .u64 _) rfl rfl rfl ?_)))))))))
  refine s_shl (c := ((u * 128 : Nat) : Int)) rfl rfl rfl rfl rfl (by decide) (by decide) (by rw [show (2 : Int) ^ (7 : Int).toNat = 128 from rfl]; exact wu (by omega)) ?_
  refine s_mv (v := .int .u8 _) rfl rfl rfl (s_and (c := ((c.toNat % 128 : Nat) : Int)) rfl rfl rfl rfl rfl (u8_m128 hc256) (s_conv (by decide) Tryz.underlying145 rfl rfl rfl (wu (y := c.toNat % 128) (by omega)) (s_or (c := ((u * 128 + c.toNat % 128 : Nat) : Int)) rfl rfl rfl rfl rfl (u64_o7 (by omega) (by omega)) (s_as (v := .int .u64 _) rfl rfl rfl (w_nil (then_n (wp_seq (c_reg (s_mv (v := .int .u8 _) rfl rfl rfl ?_)))))))))
  refine s_lss rfl rfl rfl rfl rfl rfl (w_nil (then_n ?_))
  refine c_if rfl rfl ?_ ?_
  ·intro ht49
   (try simp only [Q1, Q2, Q3, Q4, Q5] at ht49)
   have hje : j + 1 = (encu (2 * n)).length := by omega
   rw [hje, List.take_length, vl_encu _ (by omega)] at hcn
   rw [← hcn]
   refine wp_seq ?_
   have kd : New w0 w0.drew := (Kp.refl _ _).drew
   have hdw : w0.drew.heap.size = w0.heap.size := rfl
   replace oK := oK.kp kd (fun e => e)
   replace K := K.transN kd
   have q_oK := oK
   refine c_drawG (fun u => Kp (fun _ => False) (w0.drew) u) [false, true, false, false, false, false, false, false, false, false, false] [[], [0], [], [], [3], [4], [5], [2, 6], [7], [1], [8]] (fun i => if i = 9 then 2 else if 2 ≤ i ∧ i ≤ 8 then i + 1 else i) (rank_gc (rk := fun i => if i = 9 then 2 else if 2 ≤ i ∧ i ≤ 8 then i + 1 else i) (by kernel_rfl)) rfl (by kernel_rfl) (Kp.refl _ _) ?_
   have kR : Kp (fun _ => False) (w0.drew) (w0.drew) := Kp.refl _ _
   refine t_q rfl rfl rfl (fun u hF => s_mv (v := .int .u64 _) rfl rfl rfl (w_nil ⟨rfl, rfl, rfl⟩)) ?_
   refine t_l rfl (s_call1 go102 rfl (c102 n _ (by omega)) rfl rfl ?_)
   rintro _ wq ⟨rfl, hwq⟩
   rw [hwq]; clear hwq wq
   refine ⟨_, rfl, ?_⟩
   refine w_nil ⟨rfl, _, rfl, kR, ?_⟩
   refine t_q rfl rfl rfl (fun u hF => mvI rfl rfl rfl (w_nil ⟨rfl, rfl, rfl⟩)) ?_
   refine t_q rfl rfl rfl (fun u hF => s_mv (v := .pointer (some _)) rfl rfl rfl (w_nil ⟨rfl, rfl, rfl⟩)) ?_
   refine t_nc rfl rfl rfl ?_
   refine t_q rfl rfl rfl (fun u hF => s_fa fi128_1 rfl rfl rfl (w_nil ⟨rfl, rfl, rfl⟩)) ?_
   refine t_q rfl rfl rfl (fun u hF => s_ld1 (v := .int .i64 _) on3 rfl rfl rfl ((q_oK.kp hF (fun e => e)).get 1 rfl) (w_nil ⟨rfl, rfl, rfl⟩)) ?_
   refine t_q rfl rfl rfl (fun u hF => s_sub (c := ((j : Nat) : Int)) rfl rfl rfl rfl rfl (w64c (by omega)) (w_nil ⟨rfl, rfl, rfl⟩)) ?_
   refine t_q rfl rfl rfl (fun u hF => s_add (c := (((encu (2 * n)).length : Nat) : Int)) rfl rfl rfl rfl rfl (w64c (by omega)) (w_nil ⟨rfl, rfl, rfl⟩)) ?_
   refine t_q rfl rfl rfl (fun u hF => asI rfl rfl rfl (w_nil ⟨rfl, rfl, rfl⟩)) ?_
   refine t_q rfl rfl rfl (fun u hF => asI rfl rfl rfl (w_nil ⟨rfl, rfl, rfl⟩)) ?_
   refine t_n (then_n (wp_ret (inb_r (then_r (then_r (inb_r (then_r ?_)))))))
   refine ret2 (t := 2) (u := 3) (v := .int .i64 (n : Nat)) (v' := .int .i64 (((encu (2 * n)).length : Nat) : Int)) rfl rfl rfl rfl rfl ⟨rfl, K⟩
  ·intro ht49
   (try simp only [Q1, Q2, Q3, Q4, Q5] at ht49)
   refine wp_skip (inb_n (then_n (c_reg (mvI rfl rfl rfl (s_add rfl rfl rfl rfl rfl (w64 (by omega)) (asI rfl rfl rfl (w_nil (then_n ?_))))))))
   exact ⟨(encu (2 * n)).length - (j + 1), _, by omega, rfl, _, j + 1, u * 128 + c.toNat % 128, rfl, by omega, hcn.symm, (upd_keep' (upd_keep' (upd_keep' rfl rfl) rfl) rfl), K⟩
theorem c43 {G : Nat → Prop} (bP : Nat) (A : Option Addr) (cap : Nat) (B rest : List UInt8) (at0 n lo hi : Nat) (w : World) (oP : Own w bP 128 [.slice A B.length cap, .int .i64 ((at0 : Nat) : Int), .bool false]) (hB : BytesAt G w A B) (hd : B.drop at0 = enc n ++ rest) (hn : n ≤ 4611686018427387904) (hcap : B.length ≤ 1000000) (hlo : lo ≤ n) (hhi : n ≤ hi) : Calls Tryz.prog 43 #[.pointer (some ⟨bP, 0, none⟩), .int .i64 (lo : Nat), .int .i64 (hi : Nat)] w fun e w' => e = .returned (.int .i64 (n : Nat)) ∧ Own w' bP 128 [.slice A B.length cap, .int .i64 ((at0 + (enc n).length : Nat) : Int), .bool false] ∧ Kp (fun k => k = bP) w w' := by
 obtain ⟨W, hW⟩ : ∃ W, W = w := ⟨_, rfl⟩
 subst hW
 have KP : Kp (fun k => k = bP) W W := Kp.refl _ _
 have hl1 := (encu_len (2 * n)).1
 have hl2 := (encu_len (2 * n)).2
 have hlB := drop_len hd (by simp only [enc]; omega)
 have hle : (enc n).length = (encu (2 * n)).length := rfl
 refine enter (n := 46) Tryz.func43 rfl rfl (by simp) ?_
 refine wp_seq (c_reg (asI rfl rfl rfl (w_nil (then_n (wp_seq (wp_seq (c_reg (s_mv (v := .pointer (some _)) rfl rfl rfl (s_pnil Tryz.underlying84 rfl rfl rfl rfl rfl rfl ?_)))))))))
 refine mvB rfl rfl rfl (s_mv (v := .pointer (some _)) rfl rfl rfl (s_nc rfl rfl rfl (s_fa fi128_2 rfl rfl rfl (s_ld1 (v := .bool _) on4 rfl rfl rfl (oP.get 2 rfl) (pFB rfl rfl rfl rfl rfl (w_nil (then_n (c_F rfl rfl (wp_skip ?_)))))))))
 refine then_n (wp_seq (c_reg (s_mv (v := .pointer (some _)) rfl rfl rfl (s_call1 go82 rfl (c82 bP A cap B rest at0 n _ oP hB hd hn hcap) rfl rfl ?_))))
 rintro _ w1 ⟨rfl, k1⟩
 replace oP := oP.kp k1 (fun e => e)
 replace KP := KP.transN k1
 refine ⟨_, rfl, ?_⟩
 refine s_mv (v := .tuple _) rfl rfl rfl (s_ext (v := .int .i64 _) rfl rfl rfl rfl (s_ext (v := .int .i64 _) rfl rfl rfl rfl (asI rfl rfl rfl (asI rfl rfl rfl (w_nil (then_n (wp_seq (wp_seq (c_reg ?_)))))))))
 refine mvI rfl rfl rfl (s_eq rfl rfl rfl rfl rfl (decide_eq_false (by omega)) (mvB rfl rfl rfl (mvI rfl rfl rfl (mvI rfl rfl rfl (s_lss rfl rfl rfl rfl rfl (decide_eq_false (by omega)) (pFB rfl rfl rfl rfl rfl (mvB rfl rfl rfl (mvI rfl rfl rfl (mvI rfl rfl rfl ?_)))))))))
 refine s_gtr rfl rfl rfl rfl rfl (decide_eq_false (by omega)) (pFB rfl rfl rfl rfl rfl (w_nil (then_n (c_F rfl rfl (wp_skip (then_n (wp_seq (c_reg (s_mv (v := .pointer (some _)) rfl rfl rfl ?_)))))))))
 refine s_nc rfl rfl rfl (s_fa fi128_1 rfl rfl rfl (s_ld1 (v := .int .i64 _) on3 rfl rfl rfl (oP.get 1 rfl) (mvI rfl rfl rfl (s_add (c := ((at0 + (enc n).length : Nat) : Int)) rfl rfl rfl rfl rfl (w64c (by omega)) (s_nc rfl rfl rfl (s_fa fi128_1 rfl rfl rfl (s_st 1 sz3 (v := .int .i64 _) rfl rfl rfl rfl rfl rfl rfl oP rfl rfl rfl ?_)))))))
 clear oP; intro w1 oP ksw1 zsw1
 replace KP := KP.trans ksw1
 refine w_nil (then_n (wp_seq (c_reg (mvI rfl rfl rfl (asI rfl rfl rfl (w_nil (then_n (wp_ret ?_))))))))
 exact ret1 (t := 6) (v := .int .i64 (n : Nat)) rfl rfl rfl ⟨rfl, oP, KP⟩
theorem c44 {G : Nat → Prop} (bP : Nat) (A : Option Addr) (cap : Nat) (B rest : List UInt8) (at0 mx : Nat) (s : ByteArray) (w : World) (oP : Own w bP 128 [.slice A B.length cap, .int .i64 ((at0 : Nat) : Int), .bool false]) (hB : BytesAt G w A B) (hG : ¬ G bP) (hBc : B.length ≤ cap) (hd : B.drop at0 = ect s ++ rest) (hcap : B.length ≤ 1000000) (hmx : s.size ≤ mx) : Calls Tryz.prog 44 #[.pointer (some ⟨bP, 0, none⟩), .int .i64 (mx : Nat)] w fun e w' => e = .returned (.string s) ∧ Own w' bP 128 [.slice A B.length cap, .int .i64 ((at0 + (ect s).length : Nat) : Int), .bool false] ∧ Kp (fun k => k = bP) w w' := by
 obtain ⟨W, hW⟩ : ∃ W, W = w := ⟨_, rfl⟩
 subst hW
 have KP : Kp (fun k => k = bP) W W := Kp.refl _ _
 have hl1 := (encu_len (2 * s.size)).1
 have hl2 := (encu_len (2 * s.size)).2
 have hle : (enc s.size).length = (encu (2 * s.size)).length := rfl
 have hd0 : B.drop at0 = enc s.size ++ (s.data.toList ++ rest) := by rw [hd]; simp [ect]
 have hlB := drop_len hd0 (by omega)
 rw [List.length_append, tl_len] at hlB
 have hd1 := drop_next hd0
 have hmid : (B.drop (at0 + (enc s.size).length)).take (at0 + (enc s.size).length + s.size - (at0 + (enc s.size).length)) = s.data.toList := by rw [hd1, Nat.add_sub_cancel_left, ← tl_len, List.take_left]
 have hlt : (ect s).length = (enc s.size).length + s.size := by simp only [ect, List.length_append, tl_len]
 refine enter (n := 65) Tryz.func44 rfl rfl (by simp) ?_
 refine wp_seq (c_reg (s_as (v := .string _) rfl rfl rfl (w_nil (then_n (wp_seq (wp_seq (c_reg (s_mv (v := .pointer (some _)) rfl rfl rfl (s_pnil Tryz.underlying84 rfl rfl rfl rfl rfl rfl ?_)))))))))
 refine w_nil (then_n (c_F rfl rfl (wp_skip (then_n (wp_seq (c_reg (s_mv (v := .pointer (some _)) rfl rfl rfl (s_nc rfl rfl rfl (s_fa fi128_1 rfl rfl rfl ?_)))))))))
 refine s_ld1 (v := .int .i64 _) on3 rfl rfl rfl (oP.get 1 rfl) (asI rfl rfl rfl (w_nil (then_n (wp_seq (c_reg (s_mv (v := .pointer (some _)) rfl rfl rfl (mvI rfl rfl rfl (s_call3 go43 rfl (c43 bP A cap B (s.data.toList ++ rest) at0 s.size 0 mx _ oP hB hd0 (by omega) hcap (by omega) hmx) rfl rfl rfl rfl rfl rfl ?_))))))))
 clear oP; rintro _ w1 ⟨rfl, oP, k1⟩
 replace KP := KP.trans k1
 refine ⟨_, rfl, ?_⟩
 refine asI rfl rfl rfl (w_nil (then_n (wp_seq (wp_seq ?_))))
 have kd : New w1 w1.drew := (Kp.refl _ _).drew
 have hdw : w1.drew.heap.size = w1.heap.size := rfl
 replace oP := oP.kp kd (fun e => e)
 replace KP := KP.transN kd
 have q_oP := oP
 refine c_drawG (fun u => Kp (fun _ => False) (w1.drew) u) [false, false, false, false, false, false, false, false, false, false, false, false, false, false, false, false, false, false] [[], [0], [1], [2], [3], [4], [4], [4, 6], [4, 7], [4, 8], [4, 9], [4], [4, 11], [4, 12], [4, 13], [4, 10, 14], [4, 5, 15], [4, 16]] (fun i => i) (rank_back (by kernel_rfl)) rfl (by kernel_rfl) (Kp.refl _ _) ?_
 have kR : Kp (fun _ => False) (w1.drew) (w1.drew) := Kp.refl _ _
 refine t_q rfl rfl rfl (fun u hF => s_mv (v := .pointer (some _)) rfl rfl rfl (w_nil ⟨rfl, rfl, rfl⟩)) ?_
 refine t_nc rfl rfl rfl ?_
 refine t_q rfl rfl rfl (fun u hF => s_fa fi128_2 rfl rfl rfl (w_nil ⟨rfl, rfl, rfl⟩)) ?_
 refine t_q rfl rfl rfl (fun u hF => s_ld1 (v := .bool _) on4 rfl rfl rfl ((q_oP.kp hF (fun e => e)).get 2 rfl) (w_nil ⟨rfl, rfl, rfl⟩)) ?_
 refine t_q rfl rfl rfl (fun u hF => mvB rfl rfl rfl (w_nil ⟨rfl, rfl, rfl⟩)) ?_
 refine t_q rfl rfl rfl (fun u hF => mvI rfl rfl rfl (w_nil ⟨rfl, rfl, rfl⟩)) ?_
 refine t_q rfl rfl rfl (fun u hF => s_mv (v := .pointer (some _)) rfl rfl rfl (w_nil ⟨rfl, rfl, rfl⟩)) ?_
 refine t_nc rfl rfl rfl ?_
 refine t_q rfl rfl rfl (fun u hF => s_fa fi128_0 rfl rfl rfl (w_nil ⟨rfl, rfl, rfl⟩)) ?_
 refine t_q rfl rfl rfl (fun u hF => s_ld1 (v := .slice A B.length cap) on38 rfl rfl rfl ((q_oP.kp hF (fun e => e)).get 0 rfl) (w_nil ⟨rfl, rfl, rfl⟩)) ?_
 refine t_q rfl rfl rfl (fun u hF => s_lenL Tryz.underlying38 rfl rfl rfl (w_nil ⟨rfl, rfl, rfl⟩)) ?_
 refine t_q rfl rfl rfl (fun u hF => s_mv (v := .pointer (some _)) rfl rfl rfl (w_nil ⟨rfl, rfl, rfl⟩)) ?_
 refine t_nc rfl rfl rfl ?_
 refine t_q rfl rfl rfl (fun u hF => s_fa fi128_1 rfl rfl rfl (w_nil ⟨rfl, rfl, rfl⟩)) ?_
 refine t_q rfl rfl rfl (fun u hF => s_ld1 (v := .int .i64 _) on3 rfl rfl rfl ((q_oP.kp hF (fun e => e)).get 1 rfl) (w_nil ⟨rfl, rfl, rfl⟩)) ?_
 refine t_q rfl rfl rfl (fun u hF => s_sub (c := ((B.length - (at0 + (enc s.size).length) : Nat) : Int)) rfl rfl rfl rfl rfl (w64c (by omega)) (w_nil ⟨rfl, rfl, rfl⟩)) ?_
 refine t_q rfl rfl rfl (fun u hF => s_gtr rfl rfl rfl rfl rfl (decide_eq_false (by omega)) (w_nil ⟨rfl, rfl, rfl⟩)) ?_
 refine t_q rfl rfl rfl (fun u hF => pFB rfl rfl rfl rfl rfl (w_nil ⟨rfl, rfl, rfl⟩)) ?_
 refine t_n (then_n (c_F rfl rfl (wp_skip (then_n (wp_seq (c_reg (s_mv (v := .pointer (some _)) rfl rfl rfl (s_nc rfl rfl rfl (s_fa fi128_1 rfl rfl rfl ?_)))))))))
 refine s_ld1 (v := .int .i64 _) on3 rfl rfl rfl (oP.get 1 rfl) (mvI rfl rfl rfl (s_add (c := ((at0 + (enc s.size).length + s.size : Nat) : Int)) rfl rfl rfl rfl rfl (w64c (by omega)) (s_nc rfl rfl rfl (s_fa fi128_1 rfl rfl rfl (s_st 1 sz3 (v := .int .i64 _) rfl rfl rfl rfl rfl rfl rfl oP rfl rfl rfl ?_)))))
 clear oP; intro w1 oP ksw1 zsw1
 replace KP := KP.trans ksw1
 refine w_nil (then_n (wp_seq ?_))
 have kd : New w1 w1.drew := (Kp.refl _ _).drew
 have hdw : w1.drew.heap.size = w1.heap.size := rfl
 replace oP := oP.kp kd (fun e => e)
 replace KP := KP.transN kd
 replace hB := hB.kp KP (fun i _ hg e => hG (e ▸ hg))
 have hS := RBytes.part ⟨A, cap, rfl, hBc, hB⟩ (lo := at0 + (enc s.size).length) (hi := at0 + (enc s.size).length + s.size) (by omega) (by omega)
 rw [hmid, show at0 + (enc s.size).length + s.size - (at0 + (enc s.size).length) = s.size by omega] at hS
 have q_oP := oP
 refine c_drawG (fun u => Kp (fun _ => False) (w1.drew) u) [false, false, false, false, false, false, false, false, false, false, false, false, false, false, false, false, false] [[], [0], [1], [2], [], [4], [5], [6], [], [7, 8], [], [10], [11], [12], [3, 9, 13], [14], [15]] (fun i => i) (rank_back (by kernel_rfl)) rfl (by kernel_rfl) (Kp.refl _ _) ?_
 have kR : Kp (fun _ => False) (w1.drew) (w1.drew) := Kp.refl _ _
 refine t_q rfl rfl rfl (fun u hF => s_mv (v := .pointer (some _)) rfl rfl rfl (w_nil ⟨rfl, rfl, rfl⟩)) ?_
 refine t_nc rfl rfl rfl ?_
 refine t_q rfl rfl rfl (fun u hF => s_fa fi128_0 rfl rfl rfl (w_nil ⟨rfl, rfl, rfl⟩)) ?_
 refine t_q rfl rfl rfl (fun u hF => s_ld1 (v := .slice A B.length cap) on38 rfl rfl rfl ((q_oP.kp hF (fun e => e)).get 0 rfl) (w_nil ⟨rfl, rfl, rfl⟩)) ?_
 refine t_q rfl rfl rfl (fun u hF => s_mv (v := .pointer (some _)) rfl rfl rfl (w_nil ⟨rfl, rfl, rfl⟩)) ?_
 refine t_nc rfl rfl rfl ?_
 refine t_q rfl rfl rfl (fun u hF => s_fa fi128_1 rfl rfl rfl (w_nil ⟨rfl, rfl, rfl⟩)) ?_
 refine t_q rfl rfl rfl (fun u hF => s_ld1 (v := .int .i64 _) on3 rfl rfl rfl ((q_oP.kp hF (fun e => e)).get 1 rfl) (w_nil ⟨rfl, rfl, rfl⟩)) ?_
 refine t_q rfl rfl rfl (fun u hF => mvI rfl rfl rfl (w_nil ⟨rfl, rfl, rfl⟩)) ?_
 refine t_q rfl rfl rfl (fun u hF => s_sub (c := ((at0 + (enc s.size).length : Nat) : Int)) rfl rfl rfl rfl rfl (w64c (by omega)) (w_nil ⟨rfl, rfl, rfl⟩)) ?_
 refine t_q rfl rfl rfl (fun u hF => s_mv (v := .pointer (some _)) rfl rfl rfl (w_nil ⟨rfl, rfl, rfl⟩)) ?_
 refine t_nc rfl rfl rfl ?_
 refine t_q rfl rfl rfl (fun u hF => s_fa fi128_1 rfl rfl rfl (w_nil ⟨rfl, rfl, rfl⟩)) ?_
 refine t_q rfl rfl rfl (fun u hF => s_ld1 (v := .int .i64 _) on3 rfl rfl rfl ((q_oP.kp hF (fun e => e)).get 1 rfl) (w_nil ⟨rfl, rfl, rfl⟩)) ?_
 refine t_q rfl rfl rfl (fun u hF => s_slLH (lo := at0 + (enc s.size).length) (hi := at0 + (enc s.size).length + s.size) (m := s.size) el38 rfl rfl rfl rfl rfl rfl rfl (by omega) (by omega) (by omega) (by omega) (by omega) (w_nil ⟨rfl, rfl, rfl⟩)) ?_
 refine t_q rfl rfl rfl (fun u hF => s_cvBS (s := s.data.toList) Tryz.underlying38 Tryz.underlying5 Tryz.underlying9 rfl rfl rfl (hS.kp hF (fun _ _ _ e => e)) (w_nil ⟨rfl, rfl, rfl⟩)) ?_
 refine t_q rfl rfl rfl (fun u hF => s_as (v := .string _) rfl rfl rfl (w_nil ⟨rfl, rfl, rfl⟩)) ?_
 refine t_n (then_n (wp_ret ?_))
 refine ret1 (t := 4) (v := .string s) rfl rfl rfl ⟨rfl, ?_, KP⟩
 rw [hlt, ← Nat.add_assoc]; exact oP
theorem c45 (bP : Nat) (A : Option Addr) (cap : Nat) (B : List UInt8) (w : World) (oP : Own w bP 128 [.slice A B.length cap, .int .i64 ((B.length : Nat) : Int), .bool false]) : Calls Tryz.prog 45 #[.pointer (some ⟨bP, 0, none⟩)] w fun e w' => e = .returned (.int .i64 0) ∧ Kp (fun k => k = bP) w w' := by
 obtain ⟨W, hW⟩ : ∃ W, W = w := ⟨_, rfl⟩
 subst hW
 have KP : Kp (fun k => k = bP) W W := Kp.refl _ _
 refine enter (n := 23) Tryz.func45 rfl rfl (by simp) ?_
 refine wp_seq (c_reg (asI rfl rfl rfl (w_nil (then_n (wp_seq (wp_block (wp_seq (c_reg (s_mv (v := .pointer (some _)) rfl rfl rfl ?_)))))))))
 refine s_pnil Tryz.underlying84 rfl rfl rfl rfl rfl rfl (asB rfl rfl rfl (w_nil (then_n (c_F rfl rfl (wp_seq ?_)))))
 have kd : New W W.drew := (Kp.refl _ _).drew
 have hdw : W.drew.heap.size = W.heap.size := rfl
 replace oP := oP.kp kd (fun e => e)
 replace KP := KP.transN kd
 have q_oP := oP
 refine c_drawG (fun u => Kp (fun _ => False) (W.drew) u) [false, false, false, false, false, false, false, false, false, false, false, false, false, false, false, false, false] [[], [0], [1], [2], [3], [4], [4, 5], [4, 6], [4, 7], [4], [4, 9], [4, 10], [4, 11], [4, 12], [4, 8, 13], [4, 14], [15]] (fun i => i) (rank_back (by kernel_rfl)) rfl (by kernel_rfl) (Kp.refl _ _) ?_
 have kR : Kp (fun _ => False) (W.drew) (W.drew) := Kp.refl _ _
 refine t_q rfl rfl rfl (fun u hF => s_mv (v := .pointer (some _)) rfl rfl rfl (w_nil ⟨rfl, rfl, rfl⟩)) ?_
 refine t_nc rfl rfl rfl ?_
 refine t_q rfl rfl rfl (fun u hF => s_fa fi128_2 rfl rfl rfl (w_nil ⟨rfl, rfl, rfl⟩)) ?_
 refine t_q rfl rfl rfl (fun u hF => s_ld1 (v := .bool _) on4 rfl rfl rfl ((q_oP.kp hF (fun e => e)).get 2 rfl) (w_nil ⟨rfl, rfl, rfl⟩)) ?_
 refine t_q rfl rfl rfl (fun u hF => mvB rfl rfl rfl (w_nil ⟨rfl, rfl, rfl⟩)) ?_
 refine t_q rfl rfl rfl (fun u hF => s_mv (v := .pointer (some _)) rfl rfl rfl (w_nil ⟨rfl, rfl, rfl⟩)) ?_
 refine t_nc rfl rfl rfl ?_
 refine t_q rfl rfl rfl (fun u hF => s_fa fi128_1 rfl rfl rfl (w_nil ⟨rfl, rfl, rfl⟩)) ?_
 refine t_q rfl rfl rfl (fun u hF => s_ld1 (v := .int .i64 _) on3 rfl rfl rfl ((q_oP.kp hF (fun e => e)).get 1 rfl) (w_nil ⟨rfl, rfl, rfl⟩)) ?_
 refine t_q rfl rfl rfl (fun u hF => s_mv (v := .pointer (some _)) rfl rfl rfl (w_nil ⟨rfl, rfl, rfl⟩)) ?_
 refine t_nc rfl rfl rfl ?_
 refine t_q rfl rfl rfl (fun u hF => s_fa fi128_0 rfl rfl rfl (w_nil ⟨rfl, rfl, rfl⟩)) ?_
 refine t_q rfl rfl rfl (fun u hF => s_ld1 (v := .slice A B.length cap) on38 rfl rfl rfl ((q_oP.kp hF (fun e => e)).get 0 rfl) (w_nil ⟨rfl, rfl, rfl⟩)) ?_
 refine t_q rfl rfl rfl (fun u hF => s_lenL Tryz.underlying38 rfl rfl rfl (w_nil ⟨rfl, rfl, rfl⟩)) ?_
 refine t_q rfl rfl rfl (fun u hF => s_lss rfl rfl rfl rfl rfl (decide_eq_false (by omega)) (w_nil ⟨rfl, rfl, rfl⟩)) ?_
 refine t_q rfl rfl rfl (fun u hF => pFB rfl rfl rfl rfl rfl (w_nil ⟨rfl, rfl, rfl⟩)) ?_
 refine t_q rfl rfl rfl (fun u hF => asB rfl rfl rfl (w_nil ⟨rfl, rfl, rfl⟩)) ?_
 refine t_n (then_n (c_F rfl rfl (wp_skip (inb_n (then_n (wp_seq (c_reg (asI rfl rfl rfl (w_nil ?_)))))))))
 refine then_n (wp_ret ?_)
 exact ret1 (t := 2) (v := .int .i64 0) rfl rfl rfl ⟨rfl, KP⟩
end
section
theorem c16 {G : Nat → Prop} (id : Nat) (l : List Fld) (A : Option Addr) (cap : Nat) (w : World) (hT : Tb w) (hA : FldsAt G w A l) (hv : VRec VText id l) : Calls Tryz.prog 16 #[.agg #[.int .i64 (id : Nat), .slice A l.length cap]] w fun e w' => ∃ v r, e = .returned (.tuple #[v, .int .i64 0]) ∧ BRow w' v (renc id l) r ∧ (∀ b, r = some b → w.heap.size ≤ b) ∧ New w w' := by
 obtain ⟨W, hW⟩ : ∃ W, W = w := ⟨_, rfl⟩
 subst hW
 have K : New W W := Kp.refl _ _
 refine enter (n := 9) Tryz.func16 rfl rfl (by simp) ?_
 refine wp_seq (c_reg (s_box (cs := [.int .i64 (id : Nat), .slice A l.length cap]) rfl rfl rfl rfl ?_))
 intro b1 w1 eb1 o1 kb1 zb1
 have gb1 : W.heap.size ≤ b1 := by omega
 replace K := K.transN kb1
 refine s_as (v := .slice _ _ _) rfl rfl rfl (asI rfl rfl rfl (w_nil (then_n (wp_seq (wp_seq (c_reg (s_ldA ag24 rfl rfl rfl o1.cells rfl (s_call1 go20 rfl (c20 VText c63c G (id : Nat) A cap l _ (hT.kp K (fun _ _ _ e => e)) (hA.kp K (fun _ _ _ e => e)) hv) rfl rfl ?_))))))))
 rintro _ w5 ⟨rfl, k5⟩
 replace o1 := o1.kp k5 (fun e => e)
 replace K := K.transN k5
 refine ⟨_, rfl, ?_⟩
 refine s_not rfl rfl rfl (w_nil (then_n (c_F rfl rfl (wp_skip (then_n (wp_seq (c_reg (s_ldA ag24 rfl rfl rfl o1.cells rfl (s_call1 go41 rfl (c41 (G := G) id l A cap _ (hA.kp K (fun _ _ _ e => e)) hv) rfl rfl ?_)))))))))
 rintro _ w8 ⟨v8, r8, rfl, h8, g8, k8⟩
 have hk0 := K.size
 replace o1 := o1.kp k8 (fun e => e)
 replace K := K.transN k8
 refine ⟨_, rfl, ?_⟩
 refine s_as (v := v8) rfl rfl rfl (asI rfl rfl rfl (w_nil (then_n (wp_ret ?_))))
 refine ret2 (t := 2) (u := 3) (v := v8) (v' := .int .i64 0) rfl rfl rfl rfl rfl ⟨v8, r8, rfl, h8, (fun b hb => Nat.le_trans hk0 (g8 b hb)), K⟩
theorem wbi {n : Nat} {i : Int} (h : (n : Int) = i ∧ i < 256) : IntKind.u8.wrap (n : Int) = i := by rw [IntKind.wrap_u8]; omega
theorem c17 {G : Nat → Prop} (id : Nat) (l : List Fld) (A : Option Addr) (cap : Nat) (w : World) (hT : Tb w) (hR : RBytes G w (.slice A (renc id l).length cap) (renc id l)) (hv : VRec VText id l) (hlen : (renc id l).length ≤ 1000000) : Calls Tryz.prog 17 #[.slice A (renc id l).length cap] w fun e w' => ∃ A2 c2 r, e = .returned (.tuple #[.agg #[.int .i64 (id : Nat), .slice A2 l.length c2], .int .i64 0]) ∧ FRow w.heap.size w' (.slice A2 l.length c2) l r ∧ New w w' := by
 obtain ⟨W, hW⟩ : ∃ W, W = w := ⟨_, rfl⟩
 subst hW
 have K : New W W := Kp.refl _ _
 have hid := hv.2.1
 have hid0 := hv.1
 have hl60 := hv.2.2.2.1
 have hl1 := hv.2.2.1
 refine enter (n := 68) Tryz.func17 rfl rfl (by simp) ?_
 refine wp_seq (c_reg (s_alloc z24 rfl rfl ?_))
 intro b2 w1 eb2 o2 kb2 zb2
 have gb2_K : W.heap.size ≤ b2 := by have := K.size; omega
 replace K := K.transN kb2
 refine asI rfl rfl rfl (w_nil (then_n (wp_seq (c_reg (s_mv (v := .slice A (renc id l).length cap) rfl rfl rfl (s_call1 go42 rfl (c42 A cap (renc id l) _ (hR.kp K (fun _ _ _ e => e)) hlen) rfl rfl ?_))))))
 have hb2l := o2.lt
 rintro _ w2 ⟨bR, A4, c4, rfl, oR, hB0, gR, k11⟩
 replace o2 := o2.kp k11 (fun e => e)
 replace K := K.transN k11
 obtain ⟨B, hBd⟩ : ∃ B, B = renc id l := ⟨_, rfl⟩
 rw [← hBd] at oR hB0
 have hB : BytesAt (fun i => b2 < i ∧ i < bR) w2 A4 B ∧ B.length ≤ c4 := by obtain ⟨_, _, e, h1, h2⟩ := hB0; cases e; exact ⟨⟨h2.1, fun i u hu => by obtain ⟨p, hp, hg, hc⟩ := h2.2 i u hu; exact ⟨p, hp, ⟨by omega, hg.2⟩, hc⟩⟩, h1⟩
 clear hB0
 obtain ⟨hB, hBc⟩ := hB
 have hB1 : B.length ≤ 1000000 := by rw [hBd]; exact hlen
 obtain ⟨at0, hat0⟩ : ∃ q, q = 0 := ⟨_, rfl⟩
 rw [← hat0] at oR
 have hd : B.drop at0 = enc id ++ (enc l.length ++ l.flatMap fenc) := by rw [hat0, List.drop_zero, hBd]; simp [renc]
 have hle : at0 ≤ B.length := by omega
 clear hat0
 have hbRl := oR.lt
 refine ⟨_, rfl, ?_⟩
 refine s_as (v := .pointer _) rfl rfl rfl (w_nil (then_n (wp_seq (c_reg (s_mv (v := .pointer (some _)) rfl rfl rfl ?_)))))
 have l113 := (encu_len (2 * (id))).1
 have hat13 := drop_len hd (by simp only [enc]; omega)
 refine s_call3 go43 rfl (c43 (G := (fun i => b2 < i ∧ i < bR)) bR A4 c4 B _ at0 (id) 1 1000000000 _ oR hB hd (by omega) hB1 (by omega) (by omega)) rfl rfl rfl rfl rfl rfl ?_
 clear oR; rintro _ w3 ⟨rfl, oR, k13⟩
 replace o2 := o2.kp k13 (show ¬ (_ = _) by omega)
 replace hB := hB.kp k13 (fun i hi hg (e : i = bR) => by (try dsimp only at hg); omega)
 replace K := K.trans' k13 (fun i hi (e : i = bR) => by omega)
 replace hd := drop_next hd
 replace hle : at0 + (enc (id)).length ≤ B.length := by omega
 generalize at0 + (enc (id)).length = atq at oR hd hle
 clear hat13 l113; clear at0
 obtain ⟨at0, rfl⟩ : ∃ q, q = atq := ⟨_, rfl⟩
 refine ⟨_, rfl, ?_⟩
 refine s_bd1 (cells := #[_, _]) bd24 rfl rfl rfl rfl (s_alloc z24 rfl rfl ?_)
 intro b5 w4 eb5 o5 kb5 zb5
 have gb5_K : W.heap.size ≤ b5 := by have := K.size; omega
 have lto2b5 := o2.lt
 have ltoRb5 := oR.lt
 replace o2 := o2.kp kb5 (fun e => e)
 replace oR := oR.kp kb5 (fun e => e)
 replace hB := hB.kp kb5 (fun _ _ _ e => e)
 replace K := K.transN kb5
 refine s_st 0 sz24 (v := .agg _) rfl rfl rfl rfl rfl rfl rfl o5 rfl rfl rfl ?_
 clear o5; intro w5 o5 ksw5 zsw5
 replace o2 := o2.kp ksw5 (show ¬ (_ = _) by omega)
 replace oR := oR.kp ksw5 (show ¬ (_ = _) by omega)
 replace hB := hB.kp ksw5 (fun i hi hg (e : i = b5) => by (try dsimp only at hg); omega)
 replace K := K.trans' ksw5 (fun i hi (e : i = b5) => by omega)
 refine w_nil (then_n (wp_seq (wp_seq (c_reg (s_mv (v := .pointer (some _)) rfl rfl rfl ?_)))))
 have l116 := (encu_len (2 * (l.length))).1
 have hat16 := drop_len hd (by simp only [enc]; omega)
 refine s_call3 go43 rfl (c43 (G := (fun i => b2 < i ∧ i < bR)) bR A4 c4 B _ at0 (l.length) 1 60 _ oR hB hd (by omega) hB1 (by omega) (by omega)) rfl rfl rfl rfl rfl rfl ?_
 clear oR; rintro _ w6 ⟨rfl, oR, k16⟩
 replace o2 := o2.kp k16 (show ¬ (_ = _) by omega)
 replace o5 := o5.kp k16 (show ¬ (_ = _) by omega)
 replace hB := hB.kp k16 (fun i hi hg (e : i = bR) => by (try dsimp only at hg); omega)
 replace K := K.trans' k16 (fun i hi (e : i = bR) => by omega)
 replace hd := drop_next hd
 replace hle : at0 + (enc (l.length)).length ≤ B.length := by omega
 generalize at0 + (enc (l.length)).length = atq at oR hd hle
 clear hat16 l116; clear at0
 obtain ⟨at0, rfl⟩ : ∃ q, q = atq := ⟨_, rfl⟩
 refine ⟨_, rfl, ?_⟩
 refine asI rfl rfl rfl (w_nil (then_n (wp_block ?_)))
 refine c_loop (fun m f w => ∃ g k vo rf at0, m = l.length - k ∧ k ≤ l.length ∧ f = (upd (upd (upd (upd g 2 (.pointer (some ⟨b2, 0, none⟩))) 4 (.pointer (some ⟨bR, 0, none⟩))) 5 (.pointer (some ⟨b5, 0, none⟩))) 6 (.int .i64 ((l.length - k : Nat) : Int))) ∧ Own w bR 128 [.slice A4 B.length c4, .int .i64 ((at0 : Nat) : Int), .bool false] ∧ B.drop at0 = (l.drop k).flatMap fenc ∧ at0 ≤ B.length ∧ Own w b2 24 [.int .i64 0, .slice none 0 0] ∧ Own w b5 24 [.int .i64 (id : Nat), vo] ∧ FRow (b5 + 1) w vo (l.take k) rf ∧ BytesAt (fun i => b2 < i ∧ i < bR) w A4 B ∧ New W w) (l.length) ⟨_, 0, _, none, at0, by omega, by omega, (upd_keep' (upd_keep' (upd_keep' (upd_keep' rfl rfl) rfl) rfl) rfl), oR, hd, hle, o2, o5, FRow.nil _ _, hB, K⟩ ?_
 clear K oR o2 o5 hB hd hle; clear at0
 rintro m _ w0 ⟨g, k, vo, rf, at0, rfl, hk, rfl, oR, hd, hle, o2, o5, hr, hB, K⟩
 have hb5l := o5.lt
 refine wp_seq (wp_seq (c_reg (mvI rfl rfl rfl (s_gtr rfl rfl rfl rfl rfl rfl (w_nil (then_n ?_))))))
 refine c_if rfl rfl ?_ ?_
 ·intro ht18
  (try simp only [Q1, Q2, Q3, Q4, Q5] at ht18)
  have hlt : k < l.length := by omega
  obtain ⟨x, hx⟩ : ∃ x, x = l[k] := ⟨_, rfl⟩
  have hvx := hv.2.2.2.2 _ (List.getElem_mem hlt)
  rw [← hx] at hvx
  have hi0 := ind_le hvx.2.1
  have hi1 := ind_le hvx.2.2.1
  have htl := (tag_len hvx.1).2
  have hs1 := hvx.2.2.2.1
  have hs20 := hvx.2.2.2.2.1
  rw [List.drop_eq_getElem_cons hlt, List.flatMap_cons, ← hx] at hd
  simp only [fenc, fhd, List.append_assoc] at hd
  refine wp_skip (then_n (wp_seq (wp_block (wp_seq (c_reg (s_mv (v := .pointer (some _)) rfl rfl rfl ?_))))))
  have l122 := (encu_len (2 * (x.tag).size)).1
  have hat22 := drop_len hd (by simp only [ect, enc, List.length_append]; omega)
  refine s_call2 go44 rfl (c44 (G := (fun i => b2 < i ∧ i < bR)) bR A4 c4 B _ at0 3 (x.tag) _ oR hB (fun h => by omega) hBc hd hB1 (by omega)) rfl rfl rfl rfl ?_
  clear oR; rintro _ w7 ⟨rfl, oR, k22⟩
  replace o2 := o2.kp k22 (show ¬ (_ = _) by omega)
  replace o5 := o5.kp k22 (show ¬ (_ = _) by omega)
  replace hB := hB.kp k22 (fun i hi hg (e : i = bR) => by (try dsimp only at hg); omega)
  replace K := K.trans' k22 (fun i hi (e : i = bR) => by omega)
  replace hr := hr.kp k22 (fun i _ hi (e : i = bR) => by omega)
  replace hd := drop_next hd
  replace hle : at0 + (ect (x.tag)).length ≤ B.length := by omega
  generalize at0 + (ect (x.tag)).length = atq at oR hd hle
  clear hat22 l122; clear at0
  obtain ⟨at0, rfl⟩ : ∃ q, q = atq := ⟨_, rfl⟩
  refine ⟨_, rfl, ?_⟩
  refine s_bd1 (cells := #[_, _, _, _]) bd53 rfl rfl rfl rfl ?_
  have hrG := FRowG.weak (frow_iff.1 hr) (G' := fun i => b5 + 1 ≤ i ∧ i < w7.heap.size) (fun i hi hg => ⟨hg, hi⟩)
  clear hr
  have hb5m := o5.lt
  have hbRm := oR.lt
  have hb2m := o2.lt
  refine s_alloc z53 rfl rfl ?_
  intro b7 w8 eb7 o7 kb7 zb7
  rw [← eb7] at hrG
  replace oR := oR.kp kb7 (fun e => e)
  replace o2 := o2.kp kb7 (fun e => e)
  replace o5 := o5.kp kb7 (fun e => e)
  replace hB := hB.kp kb7 (fun _ _ _ e => e)
  replace K := K.transN kb7
  replace hrG := hrG.kp kb7 (fun _ _ _ e => e)
  refine s_st 0 sz53 (v := .agg _) rfl rfl rfl rfl rfl rfl rfl o7 rfl rfl rfl ?_
  clear o7; intro w9 o7 ksw9 zsw9
  replace oR := oR.kp ksw9 (show ¬ (_ = _) by omega)
  replace o2 := o2.kp ksw9 (show ¬ (_ = _) by omega)
  replace o5 := o5.kp ksw9 (show ¬ (_ = _) by omega)
  replace hB := hB.kp ksw9 (fun i hi hg (e : i = b7) => by (try dsimp only at hg); omega)
  replace K := K.trans' ksw9 (fun i hi (e : i = b7) => by omega)
  replace hrG := hrG.kp ksw9 (fun i _ hi (e : i = b7) => by omega)
  refine w_nil (then_n (wp_seq (c_reg (s_mv (v := .pointer (some _)) rfl rfl rfl ?_))))
  have l125 := (encu_len (2 * (x.i0.toNat))).1
  have hat25 := drop_len hd (by simp only [enc]; omega)
  refine s_call3 go43 rfl (c43 (G := (fun i => b2 < i ∧ i < bR)) bR A4 c4 B _ at0 (x.i0.toNat) 0 255 _ oR hB hd (by omega) hB1 (by omega) (by omega)) rfl rfl rfl rfl rfl rfl ?_
  clear oR; rintro _ w10 ⟨rfl, oR, k25⟩
  replace o2 := o2.kp k25 (show ¬ (_ = _) by omega)
  replace o5 := o5.kp k25 (show ¬ (_ = _) by omega)
  replace o7 := o7.kp k25 (show ¬ (_ = _) by omega)
  replace hB := hB.kp k25 (fun i hi hg (e : i = bR) => by (try dsimp only at hg); omega)
  replace K := K.trans' k25 (fun i hi (e : i = bR) => by omega)
  replace hrG := hrG.kp k25 (fun i _ hi (e : i = bR) => by omega)
  replace hd := drop_next hd
  replace hle : at0 + (enc (x.i0.toNat)).length ≤ B.length := by omega
  generalize at0 + (enc (x.i0.toNat)).length = atq at oR hd hle
  clear hat25 l125; clear at0
  obtain ⟨at0, rfl⟩ : ∃ q, q = atq := ⟨_, rfl⟩
  refine ⟨_, rfl, ?_⟩
  refine s_conv (by decide) Tryz.underlying5 rfl rfl rfl (wbi (i := x.i0) (by omega)) (s_mv (v := .pointer (some _)) rfl rfl rfl ?_)
  have l128 := (encu_len (2 * (x.i1.toNat))).1
  have hat28 := drop_len hd (by simp only [enc]; omega)
  refine s_call3 go43 rfl (c43 (G := (fun i => b2 < i ∧ i < bR)) bR A4 c4 B _ at0 (x.i1.toNat) 0 255 _ oR hB hd (by omega) hB1 (by omega) (by omega)) rfl rfl rfl rfl rfl rfl ?_
  clear oR; rintro _ w11 ⟨rfl, oR, k28⟩
  replace o2 := o2.kp k28 (show ¬ (_ = _) by omega)
  replace o5 := o5.kp k28 (show ¬ (_ = _) by omega)
  replace o7 := o7.kp k28 (show ¬ (_ = _) by omega)
  replace hB := hB.kp k28 (fun i hi hg (e : i = bR) => by (try dsimp only at hg); omega)
  replace K := K.trans' k28 (fun i hi (e : i = bR) => by omega)
  replace hrG := hrG.kp k28 (fun i _ hi (e : i = bR) => by omega)
  replace hd := drop_next hd
  replace hle : at0 + (enc (x.i1.toNat)).length ≤ B.length := by omega
  generalize at0 + (enc (x.i1.toNat)).length = atq at oR hd hle
  clear hat28 l128; clear at0
  obtain ⟨at0, rfl⟩ : ∃ q, q = atq := ⟨_, rfl⟩
  refine ⟨_, rfl, ?_⟩
  refine s_conv (by decide) Tryz.underlying5 rfl rfl rfl (wbi (i := x.i1) (by omega)) (s_fa fi53_1 rfl rfl rfl (s_iaA (j := 0) Tryz.underlying48 sz5 rfl rfl rfl rfl rfl rfl (by decide) (s_st (b := b7) 1 sz5 (v := .int .u8 _) rfl rfl rfl rfl rfl rfl rfl o7 rfl rfl rfl ?_)))
  clear o7; intro w12 o7 ks zs
  replace oR := oR.kp ks (show ¬ (_ = _) by omega)
  replace o2 := o2.kp ks (show ¬ (_ = _) by omega)
  replace o5 := o5.kp ks (show ¬ (_ = _) by omega)
  replace hB := hB.kp ks (fun i hi hg (e : i = b7) => by (try dsimp only at hg); omega)
  replace K := K.trans' ks (fun i hi (e : i = b7) => by omega)
  replace hrG := hrG.kp ks (fun i _ hi (e : i = b7) => by omega)
  refine s_fa fi53_1 rfl rfl rfl (s_iaA (j := 1) Tryz.underlying48 sz5 rfl rfl rfl rfl rfl rfl (by decide) (s_st (b := b7) 2 sz5 (v := .int .u8 _) rfl rfl rfl rfl rfl rfl rfl o7 rfl rfl rfl ?_))
  clear o7; intro w13 o7 ks zs
  replace oR := oR.kp ks (show ¬ (_ = _) by omega)
  replace o2 := o2.kp ks (show ¬ (_ = _) by omega)
  replace o5 := o5.kp ks (show ¬ (_ = _) by omega)
  replace hB := hB.kp ks (fun i hi hg (e : i = b7) => by (try dsimp only at hg); omega)
  replace K := K.trans' ks (fun i hi (e : i = b7) => by omega)
  replace hrG := hrG.kp ks (fun i _ hi (e : i = b7) => by omega)
  refine w_nil (then_n (wp_seq (wp_seq (c_reg (s_mv (v := .pointer (some _)) rfl rfl rfl ?_)))))
  have l135 := (encu_len (2 * (x.subs.length))).1
  have hat35 := drop_len hd (by simp only [enc]; omega)
  refine s_call3 go43 rfl (c43 (G := (fun i => b2 < i ∧ i < bR)) bR A4 c4 B _ at0 (x.subs.length) 1 20 _ oR hB hd (by omega) hB1 (by omega) (by omega)) rfl rfl rfl rfl rfl rfl ?_
  clear oR; rintro _ w14 ⟨rfl, oR, k35⟩
  replace o2 := o2.kp k35 (show ¬ (_ = _) by omega)
  replace o5 := o5.kp k35 (show ¬ (_ = _) by omega)
  replace o7 := o7.kp k35 (show ¬ (_ = _) by omega)
  replace hB := hB.kp k35 (fun i hi hg (e : i = bR) => by (try dsimp only at hg); omega)
  replace K := K.trans' k35 (fun i hi (e : i = bR) => by omega)
  replace hrG := hrG.kp k35 (fun i _ hi (e : i = bR) => by omega)
  replace hd := drop_next hd
  replace hle : at0 + (enc (x.subs.length)).length ≤ B.length := by omega
  generalize at0 + (enc (x.subs.length)).length = atq at oR hd hle
  clear hat35 l135; clear at0
  obtain ⟨at0, rfl⟩ : ∃ q, q = atq := ⟨_, rfl⟩
  refine ⟨_, rfl, ?_⟩
  refine asI rfl rfl rfl (w_nil (then_n (wp_block ?_)))
  refine c_loop (fun m f w => ∃ g j vs rs at0, m = x.subs.length - j ∧ j ≤ x.subs.length ∧ f = (upd (upd (upd (upd (upd (upd g 2 (.pointer (some ⟨b2, 0, none⟩))) 4 (.pointer (some ⟨bR, 0, none⟩))) 5 (.pointer (some ⟨b5, 0, none⟩))) 6 (.int .i64 ((l.length - k : Nat) : Int))) 7 (.pointer (some ⟨b7, 0, none⟩))) 8 (.int .i64 ((x.subs.length - j : Nat) : Int))) ∧ Own w bR 128 [.slice A4 B.length c4, .int .i64 ((at0 : Nat) : Int), .bool false] ∧ B.drop at0 = (x.subs.drop j).flatMap senc ++ (l.drop (k + 1)).flatMap fenc ∧ at0 ≤ B.length ∧ Own w b2 24 [.int .i64 0, .slice none 0 0] ∧ Own w b5 24 [.int .i64 (id : Nat), vo] ∧ Own w b7 53 [.string x.tag, .int .u8 x.i0, .int .u8 x.i1, vs] ∧ FRowG (fun i => b5 + 1 ≤ i ∧ i < b7) w vo (l.take k) rf ∧ Row w vs 50 2 j ((x.subs.take j).flatMap Sub.cells) rs ∧ (∀ b, rs = some b → b7 < b) ∧ BytesAt (fun i => b2 < i ∧ i < bR) w A4 B ∧ New W w) (x.subs.length) ⟨_, 0, _, none, at0, by omega, by omega, (upd_keep' (upd_keep' (upd_keep' (upd_keep' (upd_keep' (upd_keep' rfl rfl) rfl) rfl) rfl) rfl) rfl), oR, hd, hle, o2, o5, o7, hrG, Row.nil _ 50 2, (fun b h => by cases h), hB, K⟩ ?_
  clear K oR o2 o5 o7 hrG hB hd hle; clear at0
  rintro m _ w7 ⟨g, j, vs, rs, at0, rfl, hj, rfl, oR, hd, hle, o2, o5, o7, hrG, hrow, hgs, hB, K⟩
  have hb7l := o7.lt
  refine wp_seq (wp_seq (c_reg (mvI rfl rfl rfl (s_gtr rfl rfl rfl rfl rfl rfl (w_nil (then_n ?_))))))
  refine c_if rfl rfl ?_ ?_
  ·intro ht37
   (try simp only [Q1, Q2, Q3, Q4, Q5] at ht37)
   have hjt : j < x.subs.length := by omega
   obtain ⟨sb, hsb⟩ : ∃ sb, sb = x.subs[j] := ⟨_, rfl⟩
   have hvs := hvx.2.2.2.2.2 _ (List.getElem_mem hjt)
   rw [← hsb] at hvs
   have hcd := cd_le hvs.1
   have hvt := hvs.2.2.1
   rw [List.drop_eq_getElem_cons hjt, List.flatMap_cons, ← hsb] at hd
   simp only [senc, List.append_assoc] at hd
   refine wp_skip (then_n (wp_seq (wp_block (wp_seq (c_reg (s_mv (v := .pointer (some _)) rfl rfl rfl ?_))))))
   have l141 := (encu_len (2 * (sb.code.toNat))).1
   have hat41 := drop_len hd (by simp only [enc]; omega)
   refine s_call3 go43 rfl (c43 (G := (fun i => b2 < i ∧ i < bR)) bR A4 c4 B _ at0 (sb.code.toNat) 0 255 _ oR hB hd (by omega) hB1 (by omega) (by omega)) rfl rfl rfl rfl rfl rfl ?_
   clear oR; rintro _ w15 ⟨rfl, oR, k41⟩
   replace o2 := o2.kp k41 (show ¬ (_ = _) by omega)
   replace o5 := o5.kp k41 (show ¬ (_ = _) by omega)
   replace o7 := o7.kp k41 (show ¬ (_ = _) by omega)
   replace hB := hB.kp k41 (fun i hi hg (e : i = bR) => by (try dsimp only at hg); omega)
   replace K := K.trans' k41 (fun i hi (e : i = bR) => by omega)
   replace hrG := hrG.kp k41 (fun i _ hi (e : i = bR) => by omega)
   replace hrow := hrow.kp k41 (fun b hb (e : b = bR) => by have := hgs b hb; omega)
   replace hd := drop_next hd
   replace hle : at0 + (enc (sb.code.toNat)).length ≤ B.length := by omega
   generalize at0 + (enc (sb.code.toNat)).length = atq at oR hd hle
   clear hat41 l141; clear at0
   obtain ⟨at0, rfl⟩ : ∃ q, q = atq := ⟨_, rfl⟩
   refine ⟨_, rfl, ?_⟩
   refine s_conv (by decide) Tryz.underlying5 rfl rfl rfl (wbi (i := sb.code) (by omega)) (s_as (v := .int .u8 _) rfl rfl rfl (w_nil (then_n ?_)))
   have kd : New w15 w15.drew := (Kp.refl _ _).drew
   have hdw : w15.drew.heap.size = w15.heap.size := rfl
   replace oR := oR.kp kd (fun e => e)
   replace o2 := o2.kp kd (fun e => e)
   replace o5 := o5.kp kd (fun e => e)
   replace o7 := o7.kp kd (fun e => e)
   replace hB := hB.kp kd (fun _ _ _ e => e)
   replace K := K.transN kd
   replace hrG := hrG.kp kd (fun _ _ _ e => e)
   replace hrow := hrow.kp kd (fun _ _ e => e)
   have q_o7 := o7
   refine c_drawL (fun u => Kp (fun k => k = bR ∨ some k = rs) (w15.drew) u) [false, false, false, false, true, false, true, true, false] [[], [0], [], [], [3], [2, 4], [4, 5], [1, 4, 6], [], [0, 1, 2, 3, 4, 5, 6, 7, 8]] (fun i => i) (rank_back (by kernel_rfl)) (lo := [_, _, _, _, _, _, _, _, _]) rfl rfl (by kernel_rfl) (by kernel_rfl) (Kp.refl _ _) ?_
   have kR : Kp (fun k => k = bR ∨ some k = rs) (w15.drew) (w15.drew) := Kp.refl _ _
   refine t_q rfl rfl rfl (fun u hF => s_fa fi53_2 rfl rfl rfl (w_nil ⟨rfl, rfl, rfl⟩)) ?_
   refine t_q rfl rfl rfl (fun u hF => s_ld1 (v := vs) on51 rfl rfl rfl ((q_o7.kp hF (fun e => by rcases e with e | e; omega; have := hgs b7 e.symm; omega)).get 3 rfl) (w_nil ⟨rfl, rfl, rfl⟩)) ?_
   refine t_q rfl rfl rfl (fun u hF => s_mv (v := .int .u8 _) rfl rfl rfl (w_nil ⟨rfl, rfl, rfl⟩)) ?_
   refine t_q rfl rfl rfl (fun u hF => s_mv (v := .pointer (some _)) rfl rfl rfl (w_nil ⟨rfl, rfl, rfl⟩)) ?_
   refine t_l2 rfl ?_
   have l147 := (encu_len (2 * (sb.value).size)).1
   have hat47 := drop_len hd (by simp only [ect, enc, List.length_append]; omega)
   refine s_call2 go44 rfl (c44 (G := (fun i => b2 < i ∧ i < bR)) bR A4 c4 B _ at0 400 (sb.value) _ oR hB (fun h => by omega) hBc hd hB1 (by omega)) rfl rfl rfl rfl ?_
   clear oR; rintro _ w16 ⟨rfl, oR, k47⟩
   replace o2 := o2.kp k47 (show ¬ (_ = _) by omega)
   replace o5 := o5.kp k47 (show ¬ (_ = _) by omega)
   replace o7 := o7.kp k47 (show ¬ (_ = _) by omega)
   replace hB := hB.kp k47 (fun i hi hg (e : i = bR) => by (try dsimp only at hg); omega)
   replace K := K.trans' k47 (fun i hi (e : i = bR) => by omega)
   replace hrG := hrG.kp k47 (fun i _ hi (e : i = bR) => by omega)
   replace hrow := hrow.kp k47 (fun b hb (e : b = bR) => by have := hgs b hb; omega)
   replace kR := kR.trans' k47 (fun i hi e => .inl e)
   replace hd := drop_next hd
   replace hle : at0 + (ect (sb.value)).length ≤ B.length := by omega
   generalize at0 + (ect (sb.value)).length = atq at oR hd hle
   clear hat47 l147; clear at0
   obtain ⟨at0, rfl⟩ : ∃ q, q = atq := ⟨_, rfl⟩
   refine ⟨_, rfl, ?_⟩
   refine w_nil ⟨rfl, _, rfl, kR, ?_⟩
   refine t_q rfl rfl rfl (fun u hF => s_bd2 (cells := #[.int .u8 sb.code, .string sb.value]) bd50 rfl rfl rfl rfl rfl rfl (w_nil ⟨rfl, rfl, rfl⟩)) ?_
   refine t_l2 rfl (s_bs1E (cs := sb.cells) el51 rfl (by decide) rfl rfl rfl rfl ?_)
   intro b49 w17 eb49 o49 k49 z49
   replace oR := oR.kp k49 (fun e => e)
   replace o2 := o2.kp k49 (fun e => e)
   replace o5 := o5.kp k49 (fun e => e)
   replace o7 := o7.kp k49 (fun e => e)
   replace hB := hB.kp k49 (fun _ _ _ e => e)
   replace K := K.transN k49
   replace kR := kR.transN k49
   replace hrG := hrG.kp k49 (fun _ _ _ e => e)
   replace hrow := hrow.kp k49 (fun _ _ e => e)
   have hk49 := k49.size
   refine w_nil ⟨rfl, _, rfl, kR, ?_⟩
   refine t_l2 rfl ?_
   have hb49 := o49.lt
   have hb7n := o7.lt
   refine s_appR (news := sb.cells) el51 rfl rfl rfl rfl rfl rfl hrow o49.cells rfl rfl (by omega) ?_
   intro v50 wA r50 rowz kA hrz
   have hgz : ∀ b, r50 = some b → b7 < b := by intro b hb; rcases hrz with h | h; (exact hgs b (h ▸ hb)); (rw [h] at hb; cases hb; omega)
   have hkA := kA.size
   have e9 : (x.subs.take j).flatMap Sub.cells ++ sb.cells = (x.subs.take (j + 1)).flatMap Sub.cells := by rw [hsb]; exact (fm_succ _ _ hjt).symm
   rw [e9] at rowz
   replace o7 := o7.kp kA (fun e => by have := hgs b7 e.symm; omega)
   replace o5 := o5.kp kA (fun e => by have := hgs b5 e.symm; omega)
   replace o2 := o2.kp kA (fun e => by have := hgs b2 e.symm; omega)
   replace oR := oR.kp kA (fun e => by have := hgs bR e.symm; omega)
   replace hrG := hrG.kp kA (fun i _ hi e => by have := hgs i e.symm; omega)
   replace hB := hB.kp kA (fun i hi hg e => by have := hgs i e.symm; omega)
   replace K := K.trans' kA (fun i hi e => by have := hgs i e.symm; omega)
   replace kR := kR.trans' kA (fun i hi e => .inr e)
   refine w_nil ⟨rfl, _, rfl, kR, ?_⟩
   refine t_q rfl rfl rfl (fun u hF => s_fa fi53_2 rfl rfl rfl (w_nil ⟨rfl, rfl, rfl⟩)) ?_
   refine t_e ?_
   have hsh := Row.shape rowz
   have h1z : v50.cells = #[v50] ∧ v50.oneCell' = true := by obtain ⟨_, _, e, _⟩ := hsh; rw [e]; exact ⟨rfl, rfl⟩
   refine s_st 3 sz51 (v := v50) (new := [v50]) (cs' := [.string x.tag, .int .u8 x.i0, .int .u8 x.i1, v50]) rfl rfl rfl rfl rfl h1z.1 (by simp [h1z.2]) o7 rfl rfl rfl ?_
   clear o7; intro w18 o7 kz zz
   replace oR := oR.kp kz (show ¬ (_ = _) by omega)
   replace o2 := o2.kp kz (show ¬ (_ = _) by omega)
   replace o5 := o5.kp kz (show ¬ (_ = _) by omega)
   replace hB := hB.kp kz (fun i hi hg (e : i = b7) => by (try dsimp only at hg); omega)
   replace K := K.trans' kz (fun i hi (e : i = b7) => by omega)
   replace hrG := hrG.kp kz (fun i _ hi (e : i = b7) => by omega)
   replace rowz := rowz.kp kz (fun b hb (e : b = b7) => by have := hgz b hb; omega)
   refine w_nil ⟨rfl, _, rfl, ?_⟩
   refine inb_n (then_n (c_reg (mvI rfl rfl rfl (s_sub rfl rfl rfl rfl rfl (w64 (by omega)) (asI rfl rfl rfl (w_nil (then_n ?_)))))))
   exact ⟨x.subs.length - (j + 1), _, by omega, rfl, _, j + 1, v50, r50, at0, rfl, by omega, (upd_keep' (upd_keep' (upd_keep' (upd_keep' (upd_keep' (upd_keep' rfl rfl) rfl) rfl) rfl) rfl) (iv (by omega))), oR, hd, hle, o2, o5, o7, hrG, rowz, hgz, hB, K⟩
  ·intro ht37
   (try simp only [Q1, Q2, Q3, Q4, Q5] at ht37)
   obtain rfl : j = x.subs.length := by omega
   rw [List.take_length] at hrow
   refine wp_exit (then_x (then_x (inb_x (then_n (c_reg (s_fa fi24_1 rfl rfl rfl (s_ld1 (v := vo) on22 rfl rfl rfl (o5.get 1 rfl) (s_ldA ag53 rfl rfl rfl o7.cells rfl (s_bs1E (cs := x.cells vs) el22 rfl (by decide) rfl rfl rfl rfl ?_)))))))))
   intro b55 w15 eb55 o55 k55 z55
   replace oR := oR.kp k55 (fun e => e)
   replace o2 := o2.kp k55 (fun e => e)
   replace o5 := o5.kp k55 (fun e => e)
   replace o7 := o7.kp k55 (fun e => e)
   replace hB := hB.kp k55 (fun _ _ _ e => e)
   replace K := K.transN k55
   replace hrG := hrG.kp k55 (fun _ _ _ e => e)
   replace hrow := hrow.kp k55 (fun _ _ e => e)
   have hk55 := k55.size
   have hb55 := o55.lt
   have hb5n := o5.lt
   have hrlt : ∀ b, rf = some b → b5 < b ∧ b < b7 := fun b hb => by have := hrG.rge b hb; omega
   have hrs := rsubs_of_row hrow (by omega)
   have hr := frow_iff.2 (hrG.weak (G' := fun i => b5 + 1 ≤ i) (fun i _ hg => hg.1))
   refine s_appF1 (e := x) (vs := vs) el22 rfl rfl rfl rfl rfl rfl hr o55.cells (hrs.weak (fun i hi => ⟨by have := hgs i hi.symm; omega, fun e => by have h1 := hrlt i e.symm; have h2 := hgs i hi.symm; omega⟩)) (by omega) (by simp; omega) ?_
   clear hr
   intro v56 wA r56 hr kA hrA
   rw [show l.take k ++ [x] = l.take (k + 1) by rw [List.take_succ_eq_append_getElem hlt, ← hx]] at hr
   replace o5 := o5.kp kA (fun e => by have := hrlt b5 e.symm; omega)
   replace o2 := o2.kp kA (fun e => by have := hrlt b2 e.symm; omega)
   replace oR := oR.kp kA (fun e => by have := hrlt bR e.symm; omega)
   replace hB := hB.kp kA (fun i hi hg e => by have := hrlt i e.symm; omega)
   replace K := K.trans' kA (fun i hi e => by have := hrlt i e.symm; omega)
   refine s_fa fi24_1 rfl rfl rfl ?_
   obtain ⟨A6, c6, hsh, _⟩ := FRowG.shape (frow_iff.1 hr)
   have h1z : v56.cells = #[v56] ∧ v56.oneCell' = true := by rw [hsh]; exact ⟨rfl, rfl⟩
   refine s_st 1 sz22 (v := v56) (new := [v56]) (cs' := [.int .i64 (id : Nat), v56]) rfl rfl rfl rfl rfl h1z.1 (by simp [h1z.2]) o5 rfl rfl rfl ?_
   clear o5; intro w16 o5 kz zz
   replace oR := oR.kp kz (show ¬ (_ = _) by omega)
   replace o2 := o2.kp kz (show ¬ (_ = _) by omega)
   replace hB := hB.kp kz (fun i hi hg (e : i = b5) => by (try dsimp only at hg); omega)
   replace K := K.trans' kz (fun i hi (e : i = b5) => by omega)
   replace hr := hr.kp kz (fun i _ hi (e : i = b5) => by omega)
   have hd9 : B.drop at0 = (l.drop (k + 1)).flatMap fenc := by rw [hd, List.drop_length]; rfl
   refine w_nil (inb_n (then_n (c_reg (mvI rfl rfl rfl (s_sub rfl rfl rfl rfl rfl (w64 (by omega)) (asI rfl rfl rfl (w_nil (then_n ?_))))))))
   exact ⟨l.length - (k + 1), _, by omega, rfl, _, k + 1, v56, r56, at0, rfl, by omega, (upd_keep' (upd_keep' (upd_keep' (upd_keep' rfl rfl) rfl) rfl) (iv (by omega))), oR, hd9, hle, o2, o5, hr, hB, K⟩
 ·intro ht18
  (try simp only [Q1, Q2, Q3, Q4, Q5] at ht18)
  obtain rfl : k = l.length := by omega
  rw [List.take_length] at hr
  obtain ⟨A6, c6, rfl, hc6⟩ := FRowG.shape (frow_iff.1 hr)
  have hend : at0 = B.length := by have h9 : (B.drop at0).length = 0 := (by rw [hd, List.drop_length]; rfl); rw [List.length_drop] at h9; omega
  subst hend
  refine wp_exit (then_x (then_x (inb_x (then_n (wp_seq (wp_seq (c_reg (s_mv (v := .pointer (some _)) rfl rfl rfl (s_call1 go45 rfl (c45 bR A4 c4 B _ oR) rfl rfl ?_)))))))))
  rintro _ w7 ⟨rfl, k59⟩
  clear oR
  replace o2 := o2.kp k59 (show ¬ (_ = _) by omega)
  replace o5 := o5.kp k59 (show ¬ (_ = _) by omega)
  replace hB := hB.kp k59 (fun i hi hg (e : i = bR) => by (try dsimp only at hg); omega)
  replace K := K.trans' k59 (fun i hi (e : i = bR) => by omega)
  replace hr := hr.kp k59 (fun i _ hi (e : i = bR) => by omega)
  refine ⟨_, rfl, ?_⟩
  refine s_ne rfl rfl rfl rfl rfl (ne_F (by omega)) (mvB rfl rfl rfl (s_ldA ag24 rfl rfl rfl o5.cells rfl (s_call1 go20 rfl (c20 VText c63c (fun i => b5 + 1 ≤ i) (id : Nat) A6 c6 l _ (hT.kp K (fun _ _ _ e => e)) (frow_flds hr (by omega)) hv) rfl rfl ?_)))
  rintro _ w8 ⟨rfl, k63⟩
  replace o2 := o2.kp k63 (fun e => e)
  replace o5 := o5.kp k63 (fun e => e)
  replace hB := hB.kp k63 (fun _ _ _ e => e)
  replace K := K.transN k63
  replace hr := hr.kp k63 (fun _ _ _ e => e)
  refine ⟨_, rfl, ?_⟩
  refine s_not rfl rfl rfl (pFB rfl rfl rfl rfl rfl (w_nil (then_n (c_F rfl rfl (wp_skip (then_n (wp_seq (c_reg (s_ldA ag24 rfl rfl rfl o5.cells rfl ?_)))))))))
  refine s_st 0 sz24 (v := .agg #[.int .i64 (id : Nat), .slice A6 l.length c6]) (new := [.int .i64 (id : Nat), .slice A6 l.length c6]) (cs' := [.int .i64 (id : Nat), .slice A6 l.length c6]) rfl rfl rfl rfl rfl rfl rfl o2 rfl rfl rfl ?_
  clear o2; intro w9 o2 ks zs
  replace o5 := o5.kp ks (show ¬ (_ = _) by omega)
  replace hB := hB.kp ks (fun i hi hg (e : i = b2) => by (try dsimp only at hg); omega)
  replace K := K.trans' ks (fun i hi (e : i = b2) => by omega)
  replace hr := hr.kp ks (fun i _ hi (e : i = b2) => by omega)
  refine asI rfl rfl rfl (w_nil (then_n (wp_ret ?_)))
  refine retC2 (t := 2) (u := 3) (T := 24) (v := .int .i64 0) ag24 rfl rfl rfl rfl rfl o2.cells rfl ⟨A6, c6, rf, rfl, hr.weakB (by omega), K⟩
end
end Go.Proofs.YtkabfelhicohnaaGreatDoor.V
