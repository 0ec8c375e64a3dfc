/- Walks: decoding, the exchange format written. No condition. -/
import Derived.Test.YtkabfelhicohnaaGreatDoorM5
import Derived.Test.YtkabfelhicohnaaGreatDoorShelf
import Derived.Lib.AppendZeros
import Derived.Lib.UnsafeStr
import Derived.Lib.ConvBytes
import Derived.Laws.BytesString
set_option linter.unusedSimpArgs false
set_option linter.unusedVariables false
set_option maxRecDepth 4000
set_option maxHeartbeats 2000000
namespace Go.Proofs.YtkabfelhicohnaaGreatDoor.V
open Go.RowKit
section
theorem c155b (s : ByteArray) (L : List Int) (r : Int) (w : World) (hE : isE s L = true) (hN : isN s = true) (hsz1 : s.size ≤ 1000) (h0 : 128 ≤ r) (h1 : r ≤ 65535) (h3 : r ≠ 65533) (hv : Lib.validRune r = true) : Calls Tryz.prog 155 #[.string s, .int .i32 r] w fun e w' => ∃ i, e = .returned (.int .i64 i) ∧ (r ∈ L → 0 ≤ i) ∧ New w w' := by
 obtain ⟨W, hW⟩ : ∃ W, W = w := ⟨_, rfl⟩
 subst hW
 have K : New W W := Kp.refl _ _
 obtain ⟨k, lb, hsz, hk1, hk2, hlb, hlv, hb0⟩ := enc_of h0 h1 hv
 refine enter (n := 187) Tryz.func155 rfl rfl (by simp) ?_
 refine wp_seq (c_reg (asI rfl rfl rfl (w_nil (then_n (wp_block (wp_seq (c_reg (s_mv (v := .int .i32 _) rfl rfl rfl (s_leq rfl rfl rfl rfl rfl (decide_eq_true (by omega)) ?_)))))))))
 refine mvB rfl rfl rfl (s_mv (v := .int .i32 _) rfl rfl rfl (s_lss rfl rfl rfl rfl rfl (decide_eq_false (by omega)) (pTB rfl rfl rfl rfl rfl (asB rfl rfl rfl (w_nil (then_n (c_F rfl rfl (wp_seq (c_reg ?_)))))))))
 refine s_mv (v := .int .i32 _) rfl rfl rfl (s_eq rfl rfl rfl rfl rfl (decide_eq_false (by omega)) (asB rfl rfl rfl (w_nil (then_n (c_F rfl rfl (wp_seq (c_reg (s_mv (v := .int .i32 _) rfl rfl rfl (s_call1 go168 rfl (Tryz.utf8_ValidRune r _) rfl rfl ?_)))))))))
 rintro _ wq ⟨rfl, hwq⟩
 rw [hwq]; clear hwq wq
 rw [hv]
 refine ⟨_, rfl, ?_⟩
 refine s_not rfl rfl rfl (asB rfl rfl rfl (w_nil (then_n (c_F rfl rfl (wp_scope_straight (wp_seq (c_reg (s_mv (v := .int .i32 _) rfl rfl rfl (s_i2s (by decide) Tryz.underlying9 rfl rfl rfl ?_)))))))))
 refine s_as (v := .string _) rfl rfl rfl (w_nil (then_n (wp_seq (c_reg (s_mv (v := .string _) rfl rfl rfl (s_lenS Tryz.underlying9 rfl rfl rfl ?_))))))
 rw [hsz]
 refine s_sub rfl rfl rfl rfl rfl (w64 (by omega)) (asI rfl rfl rfl (w_nil (then_n (wp_seq (c_reg (mvI rfl rfl rfl (asI rfl rfl rfl (w_nil (then_n ?_)))))))))
 refine wp_seq (c_reg (asI rfl rfl rfl (w_nil (then_n (wp_seq (wp_block ?_))))))
 refine c_loop (fun m f w => ∃ g i fl, m = s.size + 3 - i ∧ f = (upd (upd (upd (upd (upd (upd g 0 (.string s)) 1 (.int .i32 r)) 7 (.string (Utf8.encode r))) 8 (.int .i64 (k : Nat))) 9 (.int .i64 (i : Nat))) 10 (.int .i64 (fl : Nat))) ∧ k ≤ i ∧ i ≤ s.size + 2 ∧ fl ≤ cntb s lb.toNat i ∧ (r ∈ L → ∃ m, i ≤ m ∧ m < s.size ∧ 1 ≤ m ∧ bt s m = 128 + r % 64 ∧ bt s (m - 1) = 192 + r / 64) ∧ New W w) (s.size + 3 - k) ⟨_, k, 0, rfl, (upd_keep' (upd_keep' (upd_keep' (upd_keep' (upd_keep' (upd_keep' rfl rfl) rfl) rfl) (iv (by omega))) (iv (by omega))) rfl), by omega, by omega, by omega, (fun hr => by obtain ⟨q1, q2, m, q3, q4, q5, q6⟩ := isE_of hE hr; exact ⟨m, by obtain ⟨q, _⟩ := hb0 q2; omega, q4, q3, q5, q6⟩), K⟩ ?_
 clear K
 rintro mz _ w0 ⟨g, i, fl, rfl, rfl, hki, his, hfl, hm, K⟩
 refine wp_seq (wp_seq (c_reg (mvI rfl rfl rfl (s_mv (v := .string _) rfl rfl rfl (s_lenS Tryz.underlying9 rfl rfl rfl (s_lss rfl rfl rfl rfl rfl rfl (w_nil (then_n ?_))))))))
 refine c_if rfl rfl ?_ ?_
 ·intro ht26
  (try simp only [Q1, Q2, Q3, Q4, Q5] at ht26)
  refine wp_skip (then_n (wp_block (wp_scope_fwd 0 rfl (by intro l h; cases l with | zero => exact absurd rfl h | succ l => rfl) ?_)))
  refine c_mid (fun f w => ∃ g i1 f1, f = (upd (upd (upd (upd (upd (upd g 0 (.string s)) 1 (.int .i32 r)) 7 (.string (Utf8.encode r))) 8 (.int .i64 (k : Nat))) 9 (.int .i64 (i1 : Nat))) 10 (.int .i64 (f1 : Nat))) ∧ k ≤ i1 ∧ i1 < s.size ∧ f1 ≤ cntb s lb.toNat i1 ∧ s[i1]? = some lb ∧ i ≤ i1 ∧ (r ∈ L → ∃ m, i1 ≤ m ∧ m < s.size ∧ 1 ≤ m ∧ bt s m = 128 + r % 64 ∧ bt s (m - 1) = 192 + r / 64) ∧ New W w) ?_ ?_
  ·skip
   refine wp_seq ?_
   obtain ⟨u, hu, -, -, -⟩ := bt_get (s := s) (i := i) (by omega)
   have kd : New w0 w0.drew := (Kp.refl _ _).drew
   replace K := K.transN kd
   refine c_drawG (fun u => Kp (fun _ => False) (w0.drew) u) [false, false, false, false, false, false, false] [[], [], [0, 1], [], [], [3, 4], [2, 5]] (fun i => i) (rank_back (by kernel_rfl)) rfl (by kernel_rfl) (Kp.refl _ _) ?_
   have kR : Kp (fun _ => False) (w0.drew) (w0.drew) := Kp.refl _ _
   refine t_q rfl rfl rfl (fun u hF => s_mv (v := .string _) rfl rfl rfl (w_nil ⟨rfl, rfl, rfl⟩)) ?_
   refine t_q rfl rfl rfl (fun u hF => mvI rfl rfl rfl (w_nil ⟨rfl, rfl, rfl⟩)) ?_
   refine t_q rfl rfl rfl (fun u hF => s_ixS Tryz.underlying9 rfl rfl rfl rfl rfl (by omega) hu (w_nil ⟨rfl, rfl, rfl⟩)) ?_
   refine t_q rfl rfl rfl (fun u hF => s_mv (v := .string _) rfl rfl rfl (w_nil ⟨rfl, rfl, rfl⟩)) ?_
   refine t_q rfl rfl rfl (fun u hF => mvI rfl rfl rfl (w_nil ⟨rfl, rfl, rfl⟩)) ?_
   refine t_q rfl rfl rfl (fun u hF => s_ixS Tryz.underlying9 rfl rfl rfl rfl rfl (by omega) hlb (w_nil ⟨rfl, rfl, rfl⟩)) ?_
   refine t_q rfl rfl rfl (fun u hF => s_ne rfl rfl rfl rfl rfl rfl (w_nil ⟨rfl, rfl, rfl⟩)) ?_
   refine t_n (then_n ?_)
   refine c_if rfl rfl ?_ ?_
   ·intro ht33
    (try simp only [Q1, Q2, Q3, Q4, Q5] at ht33)
    refine wp_seq ?_
    have kd : New w0.drew w0.drew.drew := (Kp.refl _ _).drew
    replace K := K.transN kd
    refine c_drawG (fun u => Kp (fun _ => False) (w0.drew.drew) u) [false, false, false, false, false, false, false, true, false] [[], [], [1], [0, 2], [], [], [4, 5], [3, 6], [7]] (fun i => i) (rank_back (by kernel_rfl)) rfl (by kernel_rfl) (Kp.refl _ _) ?_
    have kR : Kp (fun _ => False) (w0.drew.drew) (w0.drew.drew) := Kp.refl _ _
    refine t_q rfl rfl rfl (fun u hF => s_mv (v := .string _) rfl rfl rfl (w_nil ⟨rfl, rfl, rfl⟩)) ?_
    refine t_q rfl rfl rfl (fun u hF => mvI rfl rfl rfl (w_nil ⟨rfl, rfl, rfl⟩)) ?_
    refine t_q rfl rfl rfl (fun u hF => s_add rfl rfl rfl rfl rfl (w64 (by omega)) (w_nil ⟨rfl, rfl, rfl⟩)) ?_
    refine t_q rfl rfl rfl (fun u hF => s_slS (lo := i + 1) Tryz.underlying9 rfl rfl rfl rfl rfl (by omega) (by omega) (w_nil ⟨rfl, rfl, rfl⟩)) ?_
    refine t_q rfl rfl rfl (fun u hF => s_mv (v := .string _) rfl rfl rfl (w_nil ⟨rfl, rfl, rfl⟩)) ?_
    refine t_q rfl rfl rfl (fun u hF => mvI rfl rfl rfl (w_nil ⟨rfl, rfl, rfl⟩)) ?_
    refine t_q rfl rfl rfl (fun u hF => s_ixS Tryz.underlying9 rfl rfl rfl rfl rfl (by omega) hlb (w_nil ⟨rfl, rfl, rfl⟩)) ?_
    refine t_l rfl (s_call2 go167 rfl (Tryz.strings_IndexByte _ (lb.toNat : Nat) _) rfl rfl rfl rfl ?_)
    rintro _ wq ⟨rfl, hwq⟩
    rw [hwq]; clear hwq wq
    refine ⟨_, rfl, ?_⟩
    rw [show ((lb.toNat : Nat) : Int).toNat.toUInt8 = lb by simp]
    obtain ⟨oz, hoz⟩ : ∃ oz, Lib.indexByte (s.extract (i + 1) s.size).data.toList lb = oz := ⟨_, rfl⟩
    rw [hoz]
    obtain ⟨n1, n2⟩ := nxt_of hoz
    refine w_nil ⟨rfl, _, rfl, kR, ?_⟩
    refine t_q rfl rfl rfl (fun u hF => asI rfl rfl rfl (w_nil ⟨rfl, rfl, rfl⟩)) ?_
    refine t_n (then_n (wp_seq (wp_seq (c_reg (mvI rfl rfl rfl (s_lss rfl rfl rfl rfl rfl rfl (w_nil (then_n ?_))))))))
    refine c_if rfl rfl ?_ ?_
    ·intro ht43
     (try simp only [Q1, Q2, Q3, Q4, Q5] at ht43)
     refine wp_seq (c_reg (asI rfl rfl rfl (w_nil (then_n (wp_ret (then_r (then_r ?_)))))))
     refine jmp_r ?_
     refine inb_r (then_r (inb_r (then_r ?_)))
     refine nog_r ?_
     refine inb_r ?_
     refine ret1 (t := 4) (v := .int .i64 _) rfl rfl rfl ⟨_, rfl, fun hr => absurd (hm hr) (fun ⟨m, q1, q2, q3, q4, q5⟩ => by obtain ⟨um, hum, e1, -, -⟩ := bt_get (s := s) (i := m) q2; have hmi : i ≠ m := fun e => ht33 (by subst e; rw [hu] at hum; cases hum; omega); exact n1 (by omega) m (by omega) (by rw [hum]; congr 1; apply UInt8.toNat_inj.1; omega)), K⟩
    ·intro ht43
     (try simp only [Q1, Q2, Q3, Q4, Q5] at ht43)
     obtain ⟨kz, rfl, hkz, hkm⟩ := n2 (by omega)
     have hlz : i + 1 + kz < s.size := by apply Classical.byContradiction; intro hn; rw [getElem?_neg s _ hn] at hkz; cases hkz
     refine wp_skip (then_n (c_reg (mvI rfl rfl rfl (mvI rfl rfl rfl (s_add rfl rfl rfl rfl rfl (w64 (by omega)) (s_add rfl rfl rfl rfl rfl (w64 (by omega)) (asI rfl rfl rfl (w_nil (then_n ?_)))))))))
     exact ⟨_, rfl, _, i + 1 + kz, fl, (upd_keep' (upd_keep' (upd_keep' (upd_keep' (upd_keep' (upd_keep' rfl rfl) rfl) rfl) rfl) (iv (by omega))) rfl), by omega, hlz, Nat.le_trans hfl (cntb_mono _ _ (by omega)), hkz, by omega, (fun hr => by obtain ⟨m, q1, q2, q3, q4, q5⟩ := hm hr; refine ⟨m, ?_, q2, q3, q4, q5⟩; by_cases hh : i + 1 + kz ≤ m; exact hh; exfalso; obtain ⟨um, hum, e1, -, -⟩ := bt_get (s := s) (i := m) q2; have hmi : i ≠ m := fun e => ht33 (by subst e; rw [hu] at hum; cases hum; omega); exact hkm m (by omega) (by omega) (by rw [hum]; congr 1; apply UInt8.toNat_inj.1; omega)), K⟩
   ·intro ht33
    (try simp only [Q1, Q2, Q3, Q4, Q5] at ht33)
    refine wp_skip (then_n ?_)
    exact ⟨_, rfl, _, i, fl, (upd_keep' (upd_keep' (upd_keep' (upd_keep' (upd_keep' (upd_keep' rfl rfl) rfl) rfl) rfl) rfl) rfl), by omega, by omega, hfl, (by rw [hu]; congr 1; apply UInt8.toNat_inj.1; omega), by omega, hm, K⟩
  ·clear K
   obtain ⟨iz, hiz⟩ : ∃ iz, iz = i := ⟨_, rfl⟩
   rw [← hiz]
   clear hm hfl hki ht26
   rintro _ w1 ⟨g, i, fl, rfl, hki, hil, hfl, hil2, hi0, hm, K⟩
   refine wp_seq (wp_seq (c_reg (asI rfl rfl rfl (w_nil (then_n (wp_block ?_))))))
   refine c_loop (fun m f w => ∃ g j, m = k + 1 - j ∧ f = (upd (upd (upd (upd (upd (upd (upd g 0 (.string s)) 1 (.int .i32 r)) 7 (.string (Utf8.encode r))) 8 (.int .i64 (k : Nat))) 9 (.int .i64 (i : Nat))) 10 (.int .i64 (fl : Nat))) 12 (.int .i64 (j : Nat))) ∧ 1 ≤ j ∧ j ≤ k + 1 ∧ New W w) (k) ⟨_, 1, by omega, (upd_keep' (upd_keep' (upd_keep' (upd_keep' (upd_keep' (upd_keep' (upd_keep' rfl rfl) rfl) rfl) rfl) rfl) rfl) rfl), by omega, by omega, K⟩ ?_
   clear K
   rintro mz2 _ w2 ⟨g, j, rfl, rfl, hj1, hjk, K⟩
   refine wp_seq (wp_seq (c_reg (mvI rfl rfl rfl (s_mv (v := .string _) rfl rfl rfl (s_lenS Tryz.underlying9 rfl rfl rfl ?_)))))
   rw [hsz]
   refine s_lss rfl rfl rfl rfl rfl rfl (w_nil (then_n ?_))
   refine c_if rfl rfl ?_ ?_
   ·intro ht51
    (try simp only [Q1, Q2, Q3, Q4, Q5] at ht51)
    refine wp_skip (then_n (wp_seq (wp_block (wp_seq ?_))))
    obtain ⟨ua, hua, -, -, -⟩ := bt_get (s := s) (i := i - j) (by omega)
    obtain ⟨ub, hub⟩ : ∃ ub, (Utf8.encode r)[k - j]? = some ub := ⟨_, getElem?_pos _ _ (by omega)⟩
    have kd : New w2 w2.drew := (Kp.refl _ _).drew
    replace K := K.transN kd
    refine c_drawG (fun u => Kp (fun _ => False) (w2.drew) u) [false, false, false, false, false, false, false, false, false, false, false] [[], [], [], [1, 2], [0, 3], [], [], [], [6, 7], [5, 8], [4, 9]] (fun i => i) (rank_back (by kernel_rfl)) rfl (by kernel_rfl) (Kp.refl _ _) ?_
    have kR : Kp (fun _ => False) (w2.drew) (w2.drew) := Kp.refl _ _
    refine t_q rfl rfl rfl (fun u hF => s_mv (v := .string _) rfl rfl rfl (w_nil ⟨rfl, rfl, rfl⟩)) ?_
    refine t_q rfl rfl rfl (fun u hF => mvI rfl rfl rfl (w_nil ⟨rfl, rfl, rfl⟩)) ?_
    refine t_q rfl rfl rfl (fun u hF => mvI rfl rfl rfl (w_nil ⟨rfl, rfl, rfl⟩)) ?_
    refine t_q rfl rfl rfl (fun u hF => s_sub rfl rfl rfl rfl rfl (w64 (by omega)) (w_nil ⟨rfl, rfl, rfl⟩)) ?_
    refine t_q rfl rfl rfl (fun u hF => s_ixS Tryz.underlying9 rfl rfl rfl rfl rfl (by omega) (by rw [show ((i : Nat) - (j : Nat) : Int).toNat = i - j by omega]; exact hua) (w_nil ⟨rfl, rfl, rfl⟩)) ?_
    refine t_q rfl rfl rfl (fun u hF => s_mv (v := .string _) rfl rfl rfl (w_nil ⟨rfl, rfl, rfl⟩)) ?_
    refine t_q rfl rfl rfl (fun u hF => mvI rfl rfl rfl (w_nil ⟨rfl, rfl, rfl⟩)) ?_
    refine t_q rfl rfl rfl (fun u hF => mvI rfl rfl rfl (w_nil ⟨rfl, rfl, rfl⟩)) ?_
    refine t_q rfl rfl rfl (fun u hF => s_sub rfl rfl rfl rfl rfl (w64 (by omega)) (w_nil ⟨rfl, rfl, rfl⟩)) ?_
    refine t_q rfl rfl rfl (fun u hF => s_ixS Tryz.underlying9 rfl rfl rfl rfl rfl (by omega) (by rw [show ((k : Nat) - (j : Nat) : Int).toNat = k - j by omega]; exact hub) (w_nil ⟨rfl, rfl, rfl⟩)) ?_
    refine t_q rfl rfl rfl (fun u hF => s_ne rfl rfl rfl rfl rfl rfl (w_nil ⟨rfl, rfl, rfl⟩)) ?_
    refine t_n (then_n ?_)
    refine c_if rfl rfl ?_ ?_
    ·intro ht64
     (try simp only [Q1, Q2, Q3, Q4, Q5] at ht64)
     have hcz : fl + 1 ≤ cntb s lb.toNat (i + 1) := by rw [cntb_succ hil2]; omega
     have hcc := isN_of hN hil2 (by omega)
     have hmz : (r ∈ L → ∃ m, (i + 1) ≤ m ∧ m < s.size ∧ 1 ≤ m ∧ bt s m = 128 + r % 64 ∧ bt s (m - 1) = 192 + r / 64) := fun hr => by obtain ⟨m, q1, q2, q3, q4, q5⟩ := hm hr; refine ⟨m, Nat.lt_of_le_of_ne q1 (fun hh => ?_), q2, q3, q4, q5⟩; subst hh; obtain ⟨r1, r2, _⟩ := isE_of hE hr; obtain ⟨rfl, b0, hb1, hb2⟩ := hb0 r2; obtain rfl : j = 1 := (by omega); rw [show 1 - 1 = 0 from rfl, hb1] at hub; cases hub; have := bt_at hua; omega
     refine wp_goto ?_
     refine inb_g ?_
     refine then_g ?_
     refine then_g ?_
     refine inb_g ?_
     refine then_g ?_
     refine jmp_g ?_
     refine wp_seq (wp_skip (then_n (wp_seq (c_reg (mvI rfl rfl rfl (s_add rfl rfl rfl rfl rfl (w64 (by omega)) (asI rfl rfl rfl (w_nil (then_n ?_)))))))))
     refine wp_seq (c_reg (mvI rfl rfl rfl (s_add rfl rfl rfl rfl rfl (w64 (by omega)) (asI rfl rfl rfl (w_nil (then_n (wp_seq (c_reg (mvB rfl rfl rfl ?_)))))))))
     refine mvI rfl rfl rfl (mvI rfl rfl rfl (s_call1 go122 rfl (Tryz.bytealg_Cutover _ (by omega) (by omega) _) rfl rfl ?_))
     rintro _ wq ⟨rfl, hwq⟩
     rw [hwq]; clear hwq wq
     refine ⟨_, rfl, ?_⟩
     refine s_gtr rfl rfl rfl rfl rfl (decide_eq_false (by omega)) (pTB rfl rfl rfl rfl rfl (mvB rfl rfl rfl (st_skip rfl (st_skip rfl (st_skip rfl (st_skip rfl (pFB rfl rfl rfl rfl rfl (mvB rfl rfl rfl (mvB rfl rfl rfl ?_)))))))))
     refine st_skip rfl (st_skip rfl (st_skip rfl (st_skip rfl (st_skip rfl (pFB rfl rfl rfl rfl rfl (mvB rfl rfl rfl (st_skip rfl (st_skip rfl (st_skip rfl ?_)))))))))
     refine st_skip rfl (pFB rfl rfl rfl rfl rfl (pFB rfl rfl rfl rfl rfl (w_nil (then_n (c_F rfl rfl (wp_skip ?_))))))
     refine noL_n ?_
     refine inb_n (then_n ?_)
     exact ⟨s.size + 3 - (i + 1), _, by omega, rfl, _, i + 1, fl + 1, rfl, (upd_keep' (upd_keep' (upd_keep' (upd_keep' (upd_keep' (upd_keep' rfl rfl) rfl) rfl) rfl) (iv (by omega))) (iv (by omega))), by omega, by omega, hcz, hmz, K⟩
    ·intro ht64
     (try simp only [Q1, Q2, Q3, Q4, Q5] at ht64)
     refine wp_skip (inb_n (then_n (c_reg (mvI rfl rfl rfl (s_add rfl rfl rfl rfl rfl (w64 (by omega)) (asI rfl rfl rfl (w_nil (then_n ?_))))))))
     exact ⟨k + 1 - (j + 1), _, by omega, rfl, _, j + 1, rfl, (upd_keep' (upd_keep' (upd_keep' (upd_keep' (upd_keep' (upd_keep' (upd_keep' rfl rfl) rfl) rfl) rfl) rfl) rfl) (iv (by omega))), by omega, by omega, K⟩
   ·intro ht51
    (try simp only [Q1, Q2, Q3, Q4, Q5] at ht51)
    refine wp_exit (then_x (then_x (inb_x (then_n (wp_seq (wp_seq (c_reg (mvI rfl rfl rfl (mvI rfl rfl rfl ?_)))))))))
    refine s_sub rfl rfl rfl rfl rfl (w64 (by omega)) (asI rfl rfl rfl (w_nil (then_n (wp_ret (then_r ?_)))))
    refine jmp_r ?_
    refine inb_r (then_r (inb_r (then_r ?_)))
    refine nog_r ?_
    refine inb_r ?_
    refine ret1 (t := 4) (v := .int .i64 _) rfl rfl rfl ⟨_, rfl, fun hr => by omega, K⟩
 ·intro ht26
  (try simp only [Q1, Q2, Q3, Q4, Q5] at ht26)
  refine wp_exit (then_x (then_x (inb_x (then_n (wp_seq (wp_seq (c_reg (asI rfl rfl rfl (w_nil ?_)))))))))
  refine then_n (wp_ret (then_r ?_))
  refine nog_r ?_
  refine inb_r ?_
  refine ret1 (t := 4) (v := .int .i64 _) rfl rfl rfl ⟨_, rfl, fun hr => absurd (hm hr) (fun ⟨m, q1, q2, _⟩ => by omega), K⟩
theorem c155 (s : ByteArray) (L : List Int) (r : Int) (w : World) (hE : isE s L = true) (hN : isN s = true) (hz : Nat.ble s.size 1000 = true) (h0 : 0 ≤ r) (h1 : r ≤ 65535) (h3 : r ≠ 65533) (hv : Lib.validRune r = true) : Calls Tryz.prog 155 #[.string s, .int .i32 r] w fun e w' => ∃ i, e = .returned (.int .i64 i) ∧ (r ∈ L → 0 ≤ i) ∧ New w w' := by
 by_cases h : r < 128
 ·refine (Tryz.strings_IndexRune_ascii s r w h0 h).mono ?_
  rintro e w' ⟨rfl, hw⟩
  rw [hw]
  exact ⟨_, rfl, fun hr => by have := (isE_of hE hr).1; omega, Kp.refl _ _⟩
 ·exact c155b s L r w hE hN (Nat.le_of_ble_eq_true hz) (by omega) h1 h3 hv
end
section
theorem c_ifS {P : Program} {Q : Exit → Act → World → Prop} {n : Nat} {ds : List Deferred} {f : Nat → Value} {w : World} {t : Nat} {b : Bool} {x y : Code} (hb : Nat.blt t n = true) (hv : f t = .bool b)
  (h1 : b = true → x.wp P Q (Fr n ds (upd f t (.bool true))) w) (h2 : b = false → y.wp P Q (Fr n ds (upd f t (.bool false))) w) : (Code.cond (.tmp t) x y).wp P Q (Fr n ds f) w := by
 cases b
 ·have := h2 rfl; rw [← upd_keep hv] at this; exact c_F hb hv this
 ·have := h1 rfl; rw [← upd_keep hv] at this; exact c_T hb hv this
def mrk (c : Int) : Bool := !(decide (c = 773) || decide (c = 777)) && (decide (c = 803) || decide (c = 807) || decide (c = 808) || inn c 768 780)
theorem c154 (c : Int) (w : World) : Calls Tryz.prog 154 #[.int .i64 c] w fun e w' => e = .returned (.bool (mrk c)) ∧ New w w' := by
 obtain ⟨W, hW⟩ : ∃ W, W = w := ⟨_, rfl⟩
 subst hW
 have K : New W W := Kp.refl _ _
 refine enter (n := 13) Tryz.func154 rfl rfl (by simp) ?_
 refine wp_seq (c_reg (asB rfl rfl rfl (w_nil (then_n (wp_seq (wp_seq (c_reg (mvI rfl rfl rfl (w_nil ?_)))))))))
 refine then_n (wp_block (wp_seq (wp_seq (c_reg (s_eq rfl rfl rfl rfl rfl rfl (asB rfl rfl rfl (w_nil (then_n ?_))))))))
 refine c_ifS (t := 4) rfl rfl ?_ ?_
 ·intro ht4
  (try simp only [Q1, Q2, Q3, Q4, Q5] at ht4)
  refine wp_skip (then_n (c_T rfl rfl (wp_seq (c_reg (asB rfl rfl rfl (w_nil (then_n (wp_ret (inb_r ?_)))))))))
  refine then_r ?_
  refine ret1 (t := 2) (v := .bool _) rfl rfl rfl ⟨by simp_all [mrk], K⟩
 ·intro ht4
  (try simp only [Q1, Q2, Q3, Q4, Q5] at ht4)
  refine c_reg (s_eq rfl rfl rfl rfl rfl rfl (asB rfl rfl rfl (w_nil (then_n ?_))))
  refine c_ifS (t := 4) rfl rfl ?_ ?_
  ·intro ht4
   (try simp only [Q1, Q2, Q3, Q4, Q5] at ht4)
   refine wp_seq (c_reg (asB rfl rfl rfl (w_nil (then_n (wp_ret (inb_r (then_r ?_)))))))
   refine ret1 (t := 2) (v := .bool _) rfl rfl rfl ⟨by simp_all [mrk], K⟩
  ·intro ht4
   (try simp only [Q1, Q2, Q3, Q4, Q5] at ht4)
   refine wp_seq (wp_seq (c_reg (s_eq rfl rfl rfl rfl rfl rfl (asB rfl rfl rfl (w_nil (then_n ?_))))))
   refine c_ifS (t := 7) rfl rfl ?_ ?_
   ·intro ht7
    (try simp only [Q1, Q2, Q3, Q4, Q5] at ht7)
    refine wp_skip (then_n (c_T rfl rfl (wp_seq (c_reg (asB rfl rfl rfl (w_nil (then_n (wp_ret (inb_r ?_)))))))))
    refine then_r ?_
    refine ret1 (t := 2) (v := .bool _) rfl rfl rfl ⟨by simp_all [mrk], K⟩
   ·intro ht7
    (try simp only [Q1, Q2, Q3, Q4, Q5] at ht7)
    refine wp_seq (c_reg (s_eq rfl rfl rfl rfl rfl rfl (asB rfl rfl rfl (w_nil (then_n ?_)))))
    refine c_ifS (t := 7) rfl rfl ?_ ?_
    ·intro ht7
     (try simp only [Q1, Q2, Q3, Q4, Q5] at ht7)
     refine wp_skip (then_n (c_T rfl rfl (wp_seq (c_reg (asB rfl rfl rfl (w_nil (then_n (wp_ret (inb_r ?_)))))))))
     refine then_r ?_
     refine ret1 (t := 2) (v := .bool _) rfl rfl rfl ⟨by simp_all [mrk], K⟩
    ·intro ht7
     (try simp only [Q1, Q2, Q3, Q4, Q5] at ht7)
     refine c_reg (s_eq rfl rfl rfl rfl rfl rfl (asB rfl rfl rfl (w_nil (then_n ?_))))
     refine c_ifS (t := 7) rfl rfl ?_ ?_
     ·intro ht7
      (try simp only [Q1, Q2, Q3, Q4, Q5] at ht7)
      refine wp_seq (c_reg (asB rfl rfl rfl (w_nil (then_n (wp_ret (inb_r (then_r ?_)))))))
      refine ret1 (t := 2) (v := .bool _) rfl rfl rfl ⟨by simp_all [mrk], K⟩
     ·intro ht7
      (try simp only [Q1, Q2, Q3, Q4, Q5] at ht7)
      refine wp_skip (inb_n (then_n (wp_seq (c_reg (mvI rfl rfl rfl (s_call3 go152 rfl (c152 c 768 780 _) rfl rfl rfl rfl rfl rfl ?_))))))
      rintro _ w1 ⟨rfl, kw1⟩
      replace K := K.transN kw1
      refine ⟨_, rfl, ?_⟩
      refine asB rfl rfl rfl (w_nil (then_n (wp_ret ?_)))
      refine ret1 (t := 2) (v := .bool _) rfl rfl rfl ⟨by simp_all [mrk], K⟩
theorem c134 (s : ByteArray) (L : List Int) (r : Int) (w : World) (hE : isE s L = true) (hN : isN s = true) (hz : Nat.ble s.size 1000 = true) (h0 : 0 ≤ r) (h1 : r ≤ 65535) (h3 : r ≠ 65533) (h4 : Lib.validRune r = true) : Calls Tryz.prog 134 #[.string s, .int .i32 r] w fun e w' => ∃ b, e = .returned (.bool b) ∧ (r ∈ L → b = true) ∧ New w w' := by
 obtain ⟨W, hW⟩ : ∃ W, W = w := ⟨_, rfl⟩
 subst hW
 have K : New W W := Kp.refl _ _
 refine enter (n := 9) Tryz.func134 rfl rfl (by simp) ?_
 refine wp_seq (c_reg (asB rfl rfl rfl (w_nil (then_n (wp_seq (c_reg (s_mv (v := .string _) rfl rfl rfl (s_mv (v := .int .i32 _) rfl rfl rfl (s_call2 go155 rfl (c155 s L r _ hE hN hz h0 h1 h3 h4) rfl rfl rfl rfl ?_)))))))))
 rintro _ w1 ⟨i, rfl, hi, kw1⟩
 replace K := K.transN kw1
 refine ⟨_, rfl, ?_⟩
 refine s_geq rfl rfl rfl rfl rfl rfl (asB rfl rfl rfl (w_nil (then_n (wp_ret ?_))))
 refine ret1 (t := 4) (v := .bool _) rfl rfl rfl ⟨_, rfl, fun h => decide_eq_true (hi h), K⟩
def ltr (c : Int) : Bool := inn c 65 90 || inn c 97 122 || decide (c = 383) || inn c 64257 64258 || decide (c ∈ lst1) || (!decide (c = 930) && inn c 913 937) || inn c 945 969 || decide (c ∈ lst2) || inn c 1040 1103 || decide (c ∈ lst3)
theorem c153 (c : Int) (w : World) (h0 : 0 ≤ c) (h1 : c ≤ 65535) (h2 : c ≠ 65533) (h3 : Lib.validRune c = true) : Calls Tryz.prog 153 #[.int .i64 c] w fun e w' => ∃ x, e = .returned (.int .i64 x) ∧ (ltr c = true → x ≠ 0) ∧ New w w' := by
 obtain ⟨W, hW⟩ : ∃ W, W = w := ⟨_, rfl⟩
 subst hW
 have K : New W W := Kp.refl _ _
 refine enter (n := 47) Tryz.func153 rfl rfl (by simp) ?_
 refine wp_seq (c_reg (asI rfl rfl rfl (w_nil (then_n (wp_seq (wp_block (wp_seq (c_reg (mvI rfl rfl rfl ?_)))))))))
 refine s_call3 go152 rfl (c152 _ 65 90 _) rfl rfl rfl rfl rfl rfl ?_
 rintro _ w1 ⟨rfl, kw1⟩
 replace K := K.transN kw1
 refine ⟨_, rfl, ?_⟩
 refine mvB rfl rfl rfl ?_
 refine w_split (t := 6) rfl ?_ ?_
 ·intro hs6
  (try simp only [Q1, Q2, Q3, Q4, Q5] at hs6)
  refine st_skip rfl (st_skip rfl (pTB rfl rfl rfl rfl rfl (mvB rfl rfl rfl (st_skip rfl (st_skip rfl (pTB rfl rfl rfl rfl rfl (mvB rfl rfl rfl (st_skip rfl (st_skip rfl ?_)))))))))
  refine pTB rfl rfl rfl rfl rfl (mvB rfl rfl rfl (st_skip rfl (st_skip rfl (st_skip rfl (pTB rfl rfl rfl rfl rfl (asB rfl rfl rfl (w_nil (then_n (c_T rfl rfl ?_)))))))))
  refine wp_seq (c_reg (asI rfl rfl rfl (w_nil (then_n (wp_ret (inb_r (then_r ?_)))))))
  refine ret1 (t := 2) (v := .int .i64 _) rfl rfl rfl ⟨_, rfl, fun hl => ?_, K⟩
  decide
 ·intro hs6
  (try simp only [Q1, Q2, Q3, Q4, Q5] at hs6)
  refine mvI rfl rfl rfl (s_call3 go152 rfl (c152 _ 97 122 _) rfl rfl rfl rfl rfl rfl ?_)
  rintro _ w2 ⟨rfl, kw2⟩
  replace K := K.transN kw2
  refine ⟨_, rfl, ?_⟩
  refine pFB rfl rfl rfl rfl rfl (mvB rfl rfl rfl ?_)
  refine w_split (t := 10) rfl ?_ ?_
  ·intro hs10
   (try simp only [Q1, Q2, Q3, Q4, Q5] at hs10)
   refine st_skip rfl (st_skip rfl (pTB rfl rfl rfl rfl rfl (mvB rfl rfl rfl (st_skip rfl (st_skip rfl (pTB rfl rfl rfl rfl rfl (mvB rfl rfl rfl (st_skip rfl (st_skip rfl ?_)))))))))
   refine st_skip rfl (pTB rfl rfl rfl rfl rfl (asB rfl rfl rfl (w_nil (then_n (c_T rfl rfl (wp_seq (c_reg (asI rfl rfl rfl (w_nil ?_)))))))))
   refine then_n (wp_ret (inb_r (then_r ?_)))
   refine ret1 (t := 2) (v := .int .i64 _) rfl rfl rfl ⟨_, rfl, fun hl => ?_, K⟩
   decide
  ·intro hs10
   (try simp only [Q1, Q2, Q3, Q4, Q5] at hs10)
   refine mvI rfl rfl rfl (s_eq rfl rfl rfl rfl rfl rfl (pFB rfl rfl rfl rfl rfl (mvB rfl rfl rfl ?_)))
   refine w_split (t := 14) rfl ?_ ?_
   ·intro hs14
    (try simp only [Q1, Q2, Q3, Q4, Q5] at hs14)
    refine st_skip rfl (st_skip rfl (pTB rfl rfl rfl rfl rfl (mvB rfl rfl rfl (st_skip rfl (st_skip rfl (st_skip rfl (pTB rfl rfl rfl rfl rfl (asB rfl rfl rfl (w_nil ?_)))))))))
    refine then_n (c_T rfl rfl (wp_seq (c_reg (asI rfl rfl rfl (w_nil (then_n (wp_ret (inb_r (then_r ?_)))))))))
    refine ret1 (t := 2) (v := .int .i64 _) rfl rfl rfl ⟨_, rfl, fun hl => ?_, K⟩
    decide
   ·intro hs14
    (try simp only [Q1, Q2, Q3, Q4, Q5] at hs14)
    refine mvI rfl rfl rfl (s_call3 go152 rfl (c152 _ 64257 64258 _) rfl rfl rfl rfl rfl rfl ?_)
    rintro _ w3 ⟨rfl, kw3⟩
    replace K := K.transN kw3
    refine ⟨_, rfl, ?_⟩
    refine pFB rfl rfl rfl rfl rfl (mvB rfl rfl rfl ?_)
    refine w_split (t := 18) rfl ?_ ?_
    ·intro hs18
     (try simp only [Q1, Q2, Q3, Q4, Q5] at hs18)
     refine st_skip rfl (st_skip rfl (st_skip rfl (pTB rfl rfl rfl rfl rfl (asB rfl rfl rfl (w_nil (then_n (c_T rfl rfl (wp_seq (c_reg ?_)))))))))
     refine asI rfl rfl rfl (w_nil (then_n (wp_ret (inb_r (then_r ?_)))))
     refine ret1 (t := 2) (v := .int .i64 _) rfl rfl rfl ⟨_, rfl, fun hl => ?_, K⟩
     decide
    ·intro hs18
     (try simp only [Q1, Q2, Q3, Q4, Q5] at hs18)
     refine mvI rfl rfl rfl (s_conv (by decide) Tryz.underlying21 rfl rfl rfl (w32 (by omega)) (s_call2 go134 rfl (c134 _ lst1 c _ (by kernel_rfl) (by kernel_rfl) (by kernel_rfl) h0 h1 h2 h3) rfl rfl rfl rfl ?_))
     rintro _ w4 ⟨q1, rfl, hq1, kw4⟩
     replace K := K.transN kw4
     refine ⟨_, rfl, ?_⟩
     refine pFB rfl rfl rfl rfl rfl (asB rfl rfl rfl (w_nil (then_n ?_)))
     refine c_if rfl rfl ?_ ?_
     ·intro ht3
      (try simp only [Q1, Q2, Q3, Q4, Q5] at ht3)
      refine wp_seq (c_reg (asI rfl rfl rfl (w_nil (then_n (wp_ret (inb_r (then_r ?_)))))))
      refine ret1 (t := 2) (v := .int .i64 _) rfl rfl rfl ⟨_, rfl, fun hl => ?_, K⟩
      decide
     ·intro ht3
      (try simp only [Q1, Q2, Q3, Q4, Q5] at ht3)
      refine wp_seq (c_reg (mvI rfl rfl rfl (s_ne rfl rfl rfl rfl rfl rfl (mvB rfl rfl rfl ?_))))
      refine w_split (t := 26) rfl ?_ ?_
      ·intro hs26
       (try simp only [Q1, Q2, Q3, Q4, Q5] at hs26)
       refine mvI rfl rfl rfl (s_call3 go152 rfl (c152 _ 913 937 _) rfl rfl rfl rfl rfl rfl ?_)
       rintro _ w5 ⟨rfl, kw5⟩
       replace K := K.transN kw5
       refine ⟨_, rfl, ?_⟩
       refine pTB rfl rfl rfl rfl rfl (mvB rfl rfl rfl ?_)
       refine w_split (t := 30) rfl ?_ ?_
       ·intro hs30
        (try simp only [Q1, Q2, Q3, Q4, Q5] at hs30)
        refine st_skip rfl (st_skip rfl (pTB rfl rfl rfl rfl rfl (mvB rfl rfl rfl (st_skip rfl (st_skip rfl (st_skip rfl (pTB rfl rfl rfl rfl rfl (asB rfl rfl rfl (w_nil ?_)))))))))
        refine then_n (c_T rfl rfl (wp_seq (c_reg (asI rfl rfl rfl (w_nil (then_n (wp_ret (inb_r (then_r ?_)))))))))
        refine ret1 (t := 2) (v := .int .i64 _) rfl rfl rfl ⟨_, rfl, fun hl => ?_, K⟩
        decide
       ·intro hs30
        (try simp only [Q1, Q2, Q3, Q4, Q5] at hs30)
        refine mvI rfl rfl rfl (s_call3 go152 rfl (c152 _ 945 969 _) rfl rfl rfl rfl rfl rfl ?_)
        rintro _ w6 ⟨rfl, kw6⟩
        replace K := K.transN kw6
        refine ⟨_, rfl, ?_⟩
        refine pFB rfl rfl rfl rfl rfl (mvB rfl rfl rfl ?_)
        refine w_split (t := 34) rfl ?_ ?_
        ·intro hs34
         (try simp only [Q1, Q2, Q3, Q4, Q5] at hs34)
         refine st_skip rfl (st_skip rfl (st_skip rfl (pTB rfl rfl rfl rfl rfl (asB rfl rfl rfl (w_nil (then_n (c_T rfl rfl (wp_seq (c_reg ?_)))))))))
         refine asI rfl rfl rfl (w_nil (then_n (wp_ret (inb_r (then_r ?_)))))
         refine ret1 (t := 2) (v := .int .i64 _) rfl rfl rfl ⟨_, rfl, fun hl => ?_, K⟩
         decide
        ·intro hs34
         (try simp only [Q1, Q2, Q3, Q4, Q5] at hs34)
         refine mvI rfl rfl rfl (s_conv (by decide) Tryz.underlying21 rfl rfl rfl (w32 (by omega)) (s_call2 go134 rfl (c134 _ lst2 c _ (by kernel_rfl) (by kernel_rfl) (by kernel_rfl) h0 h1 h2 h3) rfl rfl rfl rfl ?_))
         rintro _ w7 ⟨q2, rfl, hq2, kw7⟩
         replace K := K.transN kw7
         refine ⟨_, rfl, ?_⟩
         refine pFB rfl rfl rfl rfl rfl (asB rfl rfl rfl (w_nil (then_n ?_)))
         refine c_if rfl rfl ?_ ?_
         ·intro ht23
          (try simp only [Q1, Q2, Q3, Q4, Q5] at ht23)
          refine wp_seq (c_reg (asI rfl rfl rfl (w_nil (then_n (wp_ret (inb_r (then_r ?_)))))))
          refine ret1 (t := 2) (v := .int .i64 _) rfl rfl rfl ⟨_, rfl, fun hl => ?_, K⟩
          decide
         ·intro ht23
          (try simp only [Q1, Q2, Q3, Q4, Q5] at ht23)
          refine wp_seq (c_reg (mvI rfl rfl rfl (s_call3 go152 rfl (c152 _ 1040 1103 _) rfl rfl rfl rfl rfl rfl ?_)))
          rintro _ w8 ⟨rfl, kw8⟩
          replace K := K.transN kw8
          refine ⟨_, rfl, ?_⟩
          refine mvB rfl rfl rfl ?_
          refine w_split (t := 42) rfl ?_ ?_
          ·intro hs42
           (try simp only [Q1, Q2, Q3, Q4, Q5] at hs42)
           refine st_skip rfl (st_skip rfl (st_skip rfl (pTB rfl rfl rfl rfl rfl (asB rfl rfl rfl (w_nil (then_n (c_T rfl rfl (wp_seq (c_reg ?_)))))))))
           refine asI rfl rfl rfl (w_nil (then_n (wp_ret (inb_r (then_r ?_)))))
           refine ret1 (t := 2) (v := .int .i64 _) rfl rfl rfl ⟨_, rfl, fun hl => ?_, K⟩
           decide
          ·intro hs42
           (try simp only [Q1, Q2, Q3, Q4, Q5] at hs42)
           refine mvI rfl rfl rfl (s_conv (by decide) Tryz.underlying21 rfl rfl rfl (w32 (by omega)) (s_call2 go134 rfl (c134 _ lst3 c _ (by kernel_rfl) (by kernel_rfl) (by kernel_rfl) h0 h1 h2 h3) rfl rfl rfl rfl ?_))
           rintro _ w9 ⟨q3, rfl, hq3, kw9⟩
           replace K := K.transN kw9
           refine ⟨_, rfl, ?_⟩
           refine pFB rfl rfl rfl rfl rfl (asB rfl rfl rfl (w_nil (then_n ?_)))
           refine c_if rfl rfl ?_ ?_
           ·intro ht39
            (try simp only [Q1, Q2, Q3, Q4, Q5] at ht39)
            refine wp_seq (c_reg (asI rfl rfl rfl (w_nil (then_n (wp_ret (inb_r (then_r ?_)))))))
            refine ret1 (t := 2) (v := .int .i64 _) rfl rfl rfl ⟨_, rfl, fun hl => ?_, K⟩
            decide
           ·intro ht39
            (try simp only [Q1, Q2, Q3, Q4, Q5] at ht39)
            refine wp_skip (inb_n (then_n (wp_seq (c_reg (asI rfl rfl rfl (w_nil (then_n (wp_ret ?_))))))))
            refine ret1 (t := 2) (v := .int .i64 _) rfl rfl rfl ⟨_, rfl, fun hl => ?_, K⟩
            exfalso; simp_all [ltr]
      ·intro hs26
       (try simp only [Q1, Q2, Q3, Q4, Q5] at hs26)
       refine st_skip rfl (st_skip rfl (pFB rfl rfl rfl rfl rfl (mvB rfl rfl rfl (mvI rfl rfl rfl (s_call3 go152 rfl (c152 _ 945 969 _) rfl rfl rfl rfl rfl rfl ?_)))))
       rintro _ w5 ⟨rfl, kw5⟩
       replace K := K.transN kw5
       refine ⟨_, rfl, ?_⟩
       refine pFB rfl rfl rfl rfl rfl (mvB rfl rfl rfl ?_)
       refine w_split (t := 34) rfl ?_ ?_
       ·intro hs34
        (try simp only [Q1, Q2, Q3, Q4, Q5] at hs34)
        refine st_skip rfl (st_skip rfl (st_skip rfl (pTB rfl rfl rfl rfl rfl (asB rfl rfl rfl (w_nil (then_n (c_T rfl rfl (wp_seq (c_reg ?_)))))))))
        refine asI rfl rfl rfl (w_nil (then_n (wp_ret (inb_r (then_r ?_)))))
        refine ret1 (t := 2) (v := .int .i64 _) rfl rfl rfl ⟨_, rfl, fun hl => ?_, K⟩
        decide
       ·intro hs34
        (try simp only [Q1, Q2, Q3, Q4, Q5] at hs34)
        refine mvI rfl rfl rfl (s_conv (by decide) Tryz.underlying21 rfl rfl rfl (w32 (by omega)) (s_call2 go134 rfl (c134 _ lst2 c _ (by kernel_rfl) (by kernel_rfl) (by kernel_rfl) h0 h1 h2 h3) rfl rfl rfl rfl ?_))
        rintro _ w6 ⟨q2, rfl, hq2, kw6⟩
        replace K := K.transN kw6
        refine ⟨_, rfl, ?_⟩
        refine pFB rfl rfl rfl rfl rfl (asB rfl rfl rfl (w_nil (then_n ?_)))
        refine c_if rfl rfl ?_ ?_
        ·intro ht23
         (try simp only [Q1, Q2, Q3, Q4, Q5] at ht23)
         refine wp_seq (c_reg (asI rfl rfl rfl (w_nil (then_n (wp_ret (inb_r (then_r ?_)))))))
         refine ret1 (t := 2) (v := .int .i64 _) rfl rfl rfl ⟨_, rfl, fun hl => ?_, K⟩
         decide
        ·intro ht23
         (try simp only [Q1, Q2, Q3, Q4, Q5] at ht23)
         refine wp_seq (c_reg (mvI rfl rfl rfl (s_call3 go152 rfl (c152 _ 1040 1103 _) rfl rfl rfl rfl rfl rfl ?_)))
         rintro _ w7 ⟨rfl, kw7⟩
         replace K := K.transN kw7
         refine ⟨_, rfl, ?_⟩
         refine mvB rfl rfl rfl ?_
         refine w_split (t := 42) rfl ?_ ?_
         ·intro hs42
          (try simp only [Q1, Q2, Q3, Q4, Q5] at hs42)
          refine st_skip rfl (st_skip rfl (st_skip rfl (pTB rfl rfl rfl rfl rfl (asB rfl rfl rfl (w_nil (then_n (c_T rfl rfl (wp_seq (c_reg ?_)))))))))
          refine asI rfl rfl rfl (w_nil (then_n (wp_ret (inb_r (then_r ?_)))))
          refine ret1 (t := 2) (v := .int .i64 _) rfl rfl rfl ⟨_, rfl, fun hl => ?_, K⟩
          decide
         ·intro hs42
          (try simp only [Q1, Q2, Q3, Q4, Q5] at hs42)
          refine mvI rfl rfl rfl (s_conv (by decide) Tryz.underlying21 rfl rfl rfl (w32 (by omega)) (s_call2 go134 rfl (c134 _ lst3 c _ (by kernel_rfl) (by kernel_rfl) (by kernel_rfl) h0 h1 h2 h3) rfl rfl rfl rfl ?_))
          rintro _ w8 ⟨q3, rfl, hq3, kw8⟩
          replace K := K.transN kw8
          refine ⟨_, rfl, ?_⟩
          refine pFB rfl rfl rfl rfl rfl (asB rfl rfl rfl (w_nil (then_n ?_)))
          refine c_if rfl rfl ?_ ?_
          ·intro ht39
           (try simp only [Q1, Q2, Q3, Q4, Q5] at ht39)
           refine wp_seq (c_reg (asI rfl rfl rfl (w_nil (then_n (wp_ret (inb_r (then_r ?_)))))))
           refine ret1 (t := 2) (v := .int .i64 _) rfl rfl rfl ⟨_, rfl, fun hl => ?_, K⟩
           decide
          ·intro ht39
           (try simp only [Q1, Q2, Q3, Q4, Q5] at ht39)
           refine wp_skip (inb_n (then_n (wp_seq (c_reg (asI rfl rfl rfl (w_nil (then_n (wp_ret ?_))))))))
           refine ret1 (t := 2) (v := .int .i64 _) rfl rfl rfl ⟨_, rfl, fun hl => ?_, K⟩
           exfalso; simp_all [ltr]
set_option maxRecDepth 10000 in
theorem lst1_bd : ∀ x ∈ lst1, 192 ≤ x ∧ x ≤ 382 := by decide
theorem lst2_bd : ∀ x ∈ lst2, 902 ≤ x ∧ x ≤ 974 := by decide
theorem lst3_bd : ∀ x ∈ lst3, 1025 ≤ x ∧ x ≤ 1169 := by decide
theorem memb_bd {c : Int} (h : memb c = true) : 32 ≤ c ∧ c ≤ 64258 ∧ Lib.validRune c = true := by
 have h1 := lst1_bd c
 have h2 := lst2_bd c
 have h3 := lst3_bd c
 simp only [memb, inn, Bool.or_eq_true, Bool.and_eq_true, decide_eq_true_eq] at h
 unfold Lib.validRune
 rw [decide_eq_true_eq]
 repeat' (refine Or.elim h ?_ ?_ <;> clear h <;> intro h)
 all_goals first | omega | (have := h1 h; omega) | (have := h2 h; omega) | (have := h3 h; omega)
theorem memb_kinds {c : Int} (h : memb c = true) (h1 : ltr c = false) (h2 : ¬ c = 32) (h3 : ¬ c = 160) (h4 : inn c 48 57 = false) (h5 : ¬ c = 178) (h6 : ¬ c = 179) (h7 : ¬ c = 185) (h8 : mrk c = false) (h9 : ¬ c ≤ 126) : False := by
 simp only [ltr, mrk, inn, Bool.or_eq_false_iff, Bool.and_eq_false_iff, decide_eq_false_iff_not, Bool.not_eq_false', Bool.or_eq_true, decide_eq_true_eq, Bool.and_eq_true, Bool.not_eq_true'] at h1 h4 h8
 simp only [memb, inn, Bool.or_eq_true, Bool.and_eq_true, decide_eq_true_eq] at h
 obtain ⟨⟨⟨⟨⟨⟨⟨⟨⟨a1, a2⟩, a3⟩, a4⟩, a5⟩, a6⟩, a7⟩, a8⟩, a9⟩, a10⟩ := h1
 repeat' (refine Or.elim h ?_ ?_ <;> clear h <;> intro h)
 all_goals first | exact absurd h ‹_› | omega
theorem c132 (c : Int) (w : World) (h0 : 0 ≤ c) (h1 : c ≤ 65535) (hm : memb (nrm c) = true) : Calls Tryz.prog 132 #[.int .i64 c] w fun e w' => ∃ x k, e = .returned (.tuple #[.int .i64 x, .int .i64 k]) ∧ k ≠ 0 ∧ New w w' := by
 obtain ⟨W, hW⟩ : ∃ W, W = w := ⟨_, rfl⟩
 subst hW
 have K : New W W := Kp.refl _ _
 refine enter (n := 49) Tryz.func132 rfl rfl (by simp) ?_
 refine wp_seq (c_reg (asI rfl rfl rfl (asI rfl rfl rfl (w_nil (then_n (wp_seq (wp_seq (c_reg (mvI rfl rfl rfl ?_)))))))))
 refine s_call3 go152 rfl (c152 c 65281 65374 _) rfl rfl rfl rfl rfl rfl ?_
 rintro _ w1 ⟨rfl, kw1⟩
 replace K := K.transN kw1
 refine ⟨_, rfl, ?_⟩
 refine w_nil (then_n ?_)
 refine c_if rfl rfl ?_ ?_
 ·intro ht6
  (try simp only [Q1, Q2, Q3, Q4, Q5] at ht6)
  have en : nrm c = c - 65248 := by unfold nrm; simp [ht6]
  rw [en] at hm
  obtain ⟨m1, m2, m3⟩ := memb_bd hm
  refine c_reg (mvI rfl rfl rfl (s_sub rfl rfl rfl rfl rfl (w64 (by omega)) (asI rfl rfl rfl (w_nil (then_n (wp_seq (wp_seq (c_reg (mvI rfl rfl rfl ?_)))))))))
  refine s_lss rfl rfl rfl rfl rfl rfl (mvB rfl rfl rfl ?_)
  refine w_split (t := 11) rfl ?_ ?_
  ·intro hs11
   (try simp only [Q1, Q2, Q3, Q4, Q5] at hs11)
   refine st_skip rfl (st_skip rfl (pTB rfl rfl rfl rfl rfl (w_nil (then_n (c_T rfl rfl (wp_seq (c_reg (asI rfl rfl rfl (asI rfl rfl rfl ?_)))))))))
   refine w_nil (then_n (wp_ret (then_r ?_)))
   refine ret2 (t := 2) (u := 3) (v := .int .i64 _) (v' := .int .i64 _) rfl rfl rfl rfl rfl ⟨_, _, rfl, ?_, K⟩
   exfalso; first | omega | (exact memb_kinds hm (by by_cases e : ltr (c - 65248) = true; exact absurd (by omega : x4 = 0) (hx4 e); simpa using e) (by omega) (by omega) (by assumption) (by omega) (by omega) (by omega) (by assumption) (by omega))
  ·intro hs11
   (try simp only [Q1, Q2, Q3, Q4, Q5] at hs11)
   refine mvI rfl rfl rfl (s_gtr rfl rfl rfl rfl rfl rfl (pFB rfl rfl rfl rfl rfl (w_nil (then_n ?_))))
   refine c_if rfl rfl ?_ ?_
   ·intro ht14
    (try simp only [Q1, Q2, Q3, Q4, Q5] at ht14)
    refine wp_seq (c_reg (asI rfl rfl rfl (asI rfl rfl rfl (w_nil (then_n (wp_ret (then_r ?_)))))))
    refine ret2 (t := 2) (u := 3) (v := .int .i64 _) (v' := .int .i64 _) rfl rfl rfl rfl rfl ⟨_, _, rfl, ?_, K⟩
    exfalso; first | omega | (exact memb_kinds hm (by by_cases e : ltr (c - 65248) = true; exact absurd (by omega : x4 = 0) (hx4 e); simpa using e) (by omega) (by omega) (by assumption) (by omega) (by omega) (by omega) (by assumption) (by omega))
   ·intro ht14
    (try simp only [Q1, Q2, Q3, Q4, Q5] at ht14)
    refine wp_skip (then_n (wp_seq (wp_seq (c_reg (mvI rfl rfl rfl (s_call1 go153 rfl (c153 (c - 65248) _ (by omega) (by omega) (by omega) m3) rfl rfl ?_))))))
    rintro _ w2 ⟨x4, rfl, hx4, kw2⟩
    replace K := K.transN kw2
    refine ⟨_, rfl, ?_⟩
    refine asI rfl rfl rfl (w_nil (then_n (wp_block (wp_seq (c_reg (mvI rfl rfl rfl (s_ne rfl rfl rfl rfl rfl rfl (asB rfl rfl rfl (w_nil ?_)))))))))
    refine then_n ?_
    refine c_if rfl rfl ?_ ?_
    ·intro ht17
     (try simp only [Q1, Q2, Q3, Q4, Q5] at ht17)
     refine wp_seq (c_reg (mvI rfl rfl rfl (asI rfl rfl rfl (asI rfl rfl rfl (w_nil (then_n (wp_ret (inb_r (then_r ?_)))))))))
     refine ret2 (t := 2) (u := 3) (v := .int .i64 _) (v' := .int .i64 _) rfl rfl rfl rfl rfl ⟨_, _, rfl, ?_, K⟩
     decide
    ·intro ht17
     (try simp only [Q1, Q2, Q3, Q4, Q5] at ht17)
     refine wp_seq (c_reg (mvI rfl rfl rfl (s_eq rfl rfl rfl rfl rfl rfl (mvB rfl rfl rfl ?_))))
     refine w_split (t := 24) rfl ?_ ?_
     ·intro hs24
      (try simp only [Q1, Q2, Q3, Q4, Q5] at hs24)
      refine st_skip rfl (st_skip rfl (pTB rfl rfl rfl rfl rfl (asB rfl rfl rfl (w_nil (then_n (c_T rfl rfl (wp_seq (c_reg (asI rfl rfl rfl ?_)))))))))
      refine asI rfl rfl rfl (w_nil (then_n (wp_ret (inb_r (then_r ?_)))))
      refine ret2 (t := 2) (u := 3) (v := .int .i64 _) (v' := .int .i64 _) rfl rfl rfl rfl rfl ⟨_, _, rfl, ?_, K⟩
      decide
     ·intro hs24
      (try simp only [Q1, Q2, Q3, Q4, Q5] at hs24)
      refine mvI rfl rfl rfl (s_eq rfl rfl rfl rfl rfl rfl (pFB rfl rfl rfl rfl rfl (asB rfl rfl rfl (w_nil (then_n ?_)))))
      refine c_if rfl rfl ?_ ?_
      ·intro ht21
       (try simp only [Q1, Q2, Q3, Q4, Q5] at ht21)
       refine wp_seq (c_reg (asI rfl rfl rfl (asI rfl rfl rfl (w_nil (then_n (wp_ret (inb_r (then_r ?_))))))))
       refine ret2 (t := 2) (u := 3) (v := .int .i64 _) (v' := .int .i64 _) rfl rfl rfl rfl rfl ⟨_, _, rfl, ?_, K⟩
       decide
      ·intro ht21
       (try simp only [Q1, Q2, Q3, Q4, Q5] at ht21)
       refine wp_seq (c_reg (mvI rfl rfl rfl (s_call3 go152 rfl (c152 _ 48 57 _) rfl rfl rfl rfl rfl rfl ?_)))
       rintro _ w3 ⟨rfl, kw3⟩
       replace K := K.transN kw3
       refine ⟨_, rfl, ?_⟩
       refine mvB rfl rfl rfl ?_
       refine w_split (t := 31) rfl ?_ ?_
       ·intro hs31
        (try simp only [Q1, Q2, Q3, Q4, Q5] at hs31)
        refine st_skip rfl (st_skip rfl (pTB rfl rfl rfl rfl rfl (mvB rfl rfl rfl (st_skip rfl (st_skip rfl (pTB rfl rfl rfl rfl rfl (mvB rfl rfl rfl (st_skip rfl (st_skip rfl ?_)))))))))
        refine pTB rfl rfl rfl rfl rfl (asB rfl rfl rfl (w_nil (then_n (c_T rfl rfl (wp_seq (c_reg (asI rfl rfl rfl (asI rfl rfl rfl (w_nil ?_)))))))))
        refine then_n (wp_ret (inb_r (then_r ?_)))
        refine ret2 (t := 2) (u := 3) (v := .int .i64 _) (v' := .int .i64 _) rfl rfl rfl rfl rfl ⟨_, _, rfl, ?_, K⟩
        decide
       ·intro hs31
        (try simp only [Q1, Q2, Q3, Q4, Q5] at hs31)
        refine mvI rfl rfl rfl (s_eq rfl rfl rfl rfl rfl rfl (pFB rfl rfl rfl rfl rfl (mvB rfl rfl rfl ?_)))
        refine w_split (t := 35) rfl ?_ ?_
        ·intro hs35
         (try simp only [Q1, Q2, Q3, Q4, Q5] at hs35)
         refine st_skip rfl (st_skip rfl (pTB rfl rfl rfl rfl rfl (mvB rfl rfl rfl (st_skip rfl (st_skip rfl (pTB rfl rfl rfl rfl rfl (asB rfl rfl rfl (w_nil (then_n ?_)))))))))
         refine c_T rfl rfl (wp_seq (c_reg (asI rfl rfl rfl (asI rfl rfl rfl (w_nil (then_n (wp_ret (inb_r (then_r ?_)))))))))
         refine ret2 (t := 2) (u := 3) (v := .int .i64 _) (v' := .int .i64 _) rfl rfl rfl rfl rfl ⟨_, _, rfl, ?_, K⟩
         decide
        ·intro hs35
         (try simp only [Q1, Q2, Q3, Q4, Q5] at hs35)
         refine mvI rfl rfl rfl (s_eq rfl rfl rfl rfl rfl rfl (pFB rfl rfl rfl rfl rfl (mvB rfl rfl rfl ?_)))
         refine w_split (t := 39) rfl ?_ ?_
         ·intro hs39
          (try simp only [Q1, Q2, Q3, Q4, Q5] at hs39)
          refine st_skip rfl (st_skip rfl (pTB rfl rfl rfl rfl rfl (asB rfl rfl rfl (w_nil (then_n (c_T rfl rfl (wp_seq (c_reg (asI rfl rfl rfl ?_)))))))))
          refine asI rfl rfl rfl (w_nil (then_n (wp_ret (inb_r (then_r ?_)))))
          refine ret2 (t := 2) (u := 3) (v := .int .i64 _) (v' := .int .i64 _) rfl rfl rfl rfl rfl ⟨_, _, rfl, ?_, K⟩
          decide
         ·intro hs39
          (try simp only [Q1, Q2, Q3, Q4, Q5] at hs39)
          refine mvI rfl rfl rfl (s_eq rfl rfl rfl rfl rfl rfl (pFB rfl rfl rfl rfl rfl (asB rfl rfl rfl (w_nil (then_n ?_)))))
          refine c_if rfl rfl ?_ ?_
          ·intro ht28
           (try simp only [Q1, Q2, Q3, Q4, Q5] at ht28)
           refine wp_seq (c_reg (asI rfl rfl rfl (asI rfl rfl rfl (w_nil (then_n (wp_ret (inb_r (then_r ?_))))))))
           refine ret2 (t := 2) (u := 3) (v := .int .i64 _) (v' := .int .i64 _) rfl rfl rfl rfl rfl ⟨_, _, rfl, ?_, K⟩
           decide
          ·intro ht28
           (try simp only [Q1, Q2, Q3, Q4, Q5] at ht28)
           refine wp_seq (c_reg (mvI rfl rfl rfl (s_call1 go154 rfl (c154 _ _) rfl rfl ?_)))
           rintro _ w4 ⟨rfl, kw4⟩
           replace K := K.transN kw4
           refine ⟨_, rfl, ?_⟩
           refine asB rfl rfl rfl (w_nil (then_n ?_))
           refine c_if rfl rfl ?_ ?_
           ·intro ht43
            (try simp only [Q1, Q2, Q3, Q4, Q5] at ht43)
            refine wp_seq (c_reg (asI rfl rfl rfl (asI rfl rfl rfl (w_nil (then_n (wp_ret (inb_r (then_r ?_))))))))
            refine ret2 (t := 2) (u := 3) (v := .int .i64 _) (v' := .int .i64 _) rfl rfl rfl rfl rfl ⟨_, _, rfl, ?_, K⟩
            decide
           ·intro ht43
            (try simp only [Q1, Q2, Q3, Q4, Q5] at ht43)
            refine wp_seq (c_reg (mvI rfl rfl rfl (s_leq rfl rfl rfl rfl rfl rfl (asB rfl rfl rfl (w_nil (then_n ?_))))))
            refine c_if rfl rfl ?_ ?_
            ·intro ht46
             (try simp only [Q1, Q2, Q3, Q4, Q5] at ht46)
             refine wp_seq (c_reg (asI rfl rfl rfl (asI rfl rfl rfl (w_nil (then_n (wp_ret (inb_r (then_r ?_))))))))
             refine ret2 (t := 2) (u := 3) (v := .int .i64 _) (v' := .int .i64 _) rfl rfl rfl rfl rfl ⟨_, _, rfl, ?_, K⟩
             decide
            ·intro ht46
             (try simp only [Q1, Q2, Q3, Q4, Q5] at ht46)
             refine wp_skip (inb_n (then_n (wp_seq (c_reg (asI rfl rfl rfl (asI rfl rfl rfl (w_nil (then_n (wp_ret ?_)))))))))
             refine ret2 (t := 2) (u := 3) (v := .int .i64 _) (v' := .int .i64 _) rfl rfl rfl rfl rfl ⟨_, _, rfl, ?_, K⟩
             exfalso; first | omega | (exact memb_kinds hm (by by_cases e : ltr (c - 65248) = true; exact absurd (by omega : x4 = 0) (hx4 e); simpa using e) (by omega) (by omega) (by assumption) (by omega) (by omega) (by omega) (by assumption) (by omega))
 ·intro ht6
  (try simp only [Q1, Q2, Q3, Q4, Q5] at ht6)
  have en : nrm c = c := by unfold nrm; simp [ht6]
  rw [en] at hm
  obtain ⟨m1, m2, m3⟩ := memb_bd hm
  refine wp_skip (then_n (wp_seq (wp_seq (c_reg (mvI rfl rfl rfl (s_lss rfl rfl rfl rfl rfl rfl (mvB rfl rfl rfl ?_)))))))
  refine w_split (t := 11) rfl ?_ ?_
  ·intro hs11
   (try simp only [Q1, Q2, Q3, Q4, Q5] at hs11)
   refine st_skip rfl (st_skip rfl (pTB rfl rfl rfl rfl rfl (w_nil (then_n (c_T rfl rfl (wp_seq (c_reg (asI rfl rfl rfl (asI rfl rfl rfl ?_)))))))))
   refine w_nil (then_n (wp_ret (then_r ?_)))
   refine ret2 (t := 2) (u := 3) (v := .int .i64 _) (v' := .int .i64 _) rfl rfl rfl rfl rfl ⟨_, _, rfl, ?_, K⟩
   exfalso; first | omega | (exact memb_kinds hm (by by_cases e : ltr (c) = true; exact absurd (by omega : x4 = 0) (hx4 e); simpa using e) (by omega) (by omega) (by assumption) (by omega) (by omega) (by omega) (by assumption) (by omega))
  ·intro hs11
   (try simp only [Q1, Q2, Q3, Q4, Q5] at hs11)
   refine mvI rfl rfl rfl (s_gtr rfl rfl rfl rfl rfl rfl (pFB rfl rfl rfl rfl rfl (w_nil (then_n ?_))))
   refine c_if rfl rfl ?_ ?_
   ·intro ht14
    (try simp only [Q1, Q2, Q3, Q4, Q5] at ht14)
    refine wp_seq (c_reg (asI rfl rfl rfl (asI rfl rfl rfl (w_nil (then_n (wp_ret (then_r ?_)))))))
    refine ret2 (t := 2) (u := 3) (v := .int .i64 _) (v' := .int .i64 _) rfl rfl rfl rfl rfl ⟨_, _, rfl, ?_, K⟩
    exfalso; first | omega | (exact memb_kinds hm (by by_cases e : ltr (c) = true; exact absurd (by omega : x4 = 0) (hx4 e); simpa using e) (by omega) (by omega) (by assumption) (by omega) (by omega) (by omega) (by assumption) (by omega))
   ·intro ht14
    (try simp only [Q1, Q2, Q3, Q4, Q5] at ht14)
    refine wp_skip (then_n (wp_seq (wp_seq (c_reg (mvI rfl rfl rfl (s_call1 go153 rfl (c153 c _ (by omega) (by omega) (by omega) m3) rfl rfl ?_))))))
    rintro _ w2 ⟨x4, rfl, hx4, kw2⟩
    replace K := K.transN kw2
    refine ⟨_, rfl, ?_⟩
    refine asI rfl rfl rfl (w_nil (then_n (wp_block (wp_seq (c_reg (mvI rfl rfl rfl (s_ne rfl rfl rfl rfl rfl rfl (asB rfl rfl rfl (w_nil ?_)))))))))
    refine then_n ?_
    refine c_if rfl rfl ?_ ?_
    ·intro ht17
     (try simp only [Q1, Q2, Q3, Q4, Q5] at ht17)
     refine wp_seq (c_reg (mvI rfl rfl rfl (asI rfl rfl rfl (asI rfl rfl rfl (w_nil (then_n (wp_ret (inb_r (then_r ?_)))))))))
     refine ret2 (t := 2) (u := 3) (v := .int .i64 _) (v' := .int .i64 _) rfl rfl rfl rfl rfl ⟨_, _, rfl, ?_, K⟩
     decide
    ·intro ht17
     (try simp only [Q1, Q2, Q3, Q4, Q5] at ht17)
     refine wp_seq (c_reg (mvI rfl rfl rfl (s_eq rfl rfl rfl rfl rfl rfl (mvB rfl rfl rfl ?_))))
     refine w_split (t := 24) rfl ?_ ?_
     ·intro hs24
      (try simp only [Q1, Q2, Q3, Q4, Q5] at hs24)
      refine st_skip rfl (st_skip rfl (pTB rfl rfl rfl rfl rfl (asB rfl rfl rfl (w_nil (then_n (c_T rfl rfl (wp_seq (c_reg (asI rfl rfl rfl ?_)))))))))
      refine asI rfl rfl rfl (w_nil (then_n (wp_ret (inb_r (then_r ?_)))))
      refine ret2 (t := 2) (u := 3) (v := .int .i64 _) (v' := .int .i64 _) rfl rfl rfl rfl rfl ⟨_, _, rfl, ?_, K⟩
      decide
     ·intro hs24
      (try simp only [Q1, Q2, Q3, Q4, Q5] at hs24)
      refine mvI rfl rfl rfl (s_eq rfl rfl rfl rfl rfl rfl (pFB rfl rfl rfl rfl rfl (asB rfl rfl rfl (w_nil (then_n ?_)))))
      refine c_if rfl rfl ?_ ?_
      ·intro ht21
       (try simp only [Q1, Q2, Q3, Q4, Q5] at ht21)
       refine wp_seq (c_reg (asI rfl rfl rfl (asI rfl rfl rfl (w_nil (then_n (wp_ret (inb_r (then_r ?_))))))))
       refine ret2 (t := 2) (u := 3) (v := .int .i64 _) (v' := .int .i64 _) rfl rfl rfl rfl rfl ⟨_, _, rfl, ?_, K⟩
       decide
      ·intro ht21
       (try simp only [Q1, Q2, Q3, Q4, Q5] at ht21)
       refine wp_seq (c_reg (mvI rfl rfl rfl (s_call3 go152 rfl (c152 _ 48 57 _) rfl rfl rfl rfl rfl rfl ?_)))
       rintro _ w3 ⟨rfl, kw3⟩
       replace K := K.transN kw3
       refine ⟨_, rfl, ?_⟩
       refine mvB rfl rfl rfl ?_
       refine w_split (t := 31) rfl ?_ ?_
       ·intro hs31
        (try simp only [Q1, Q2, Q3, Q4, Q5] at hs31)
        refine st_skip rfl (st_skip rfl (pTB rfl rfl rfl rfl rfl (mvB rfl rfl rfl (st_skip rfl (st_skip rfl (pTB rfl rfl rfl rfl rfl (mvB rfl rfl rfl (st_skip rfl (st_skip rfl ?_)))))))))
        refine pTB rfl rfl rfl rfl rfl (asB rfl rfl rfl (w_nil (then_n (c_T rfl rfl (wp_seq (c_reg (asI rfl rfl rfl (asI rfl rfl rfl (w_nil ?_)))))))))
        refine then_n (wp_ret (inb_r (then_r ?_)))
        refine ret2 (t := 2) (u := 3) (v := .int .i64 _) (v' := .int .i64 _) rfl rfl rfl rfl rfl ⟨_, _, rfl, ?_, K⟩
        decide
       ·intro hs31
        (try simp only [Q1, Q2, Q3, Q4, Q5] at hs31)
        refine mvI rfl rfl rfl (s_eq rfl rfl rfl rfl rfl rfl (pFB rfl rfl rfl rfl rfl (mvB rfl rfl rfl ?_)))
        refine w_split (t := 35) rfl ?_ ?_
        ·intro hs35
         (try simp only [Q1, Q2, Q3, Q4, Q5] at hs35)
         refine st_skip rfl (st_skip rfl (pTB rfl rfl rfl rfl rfl (mvB rfl rfl rfl (st_skip rfl (st_skip rfl (pTB rfl rfl rfl rfl rfl (asB rfl rfl rfl (w_nil (then_n ?_)))))))))
         refine c_T rfl rfl (wp_seq (c_reg (asI rfl rfl rfl (asI rfl rfl rfl (w_nil (then_n (wp_ret (inb_r (then_r ?_)))))))))
         refine ret2 (t := 2) (u := 3) (v := .int .i64 _) (v' := .int .i64 _) rfl rfl rfl rfl rfl ⟨_, _, rfl, ?_, K⟩
         decide
        ·intro hs35
         (try simp only [Q1, Q2, Q3, Q4, Q5] at hs35)
         refine mvI rfl rfl rfl (s_eq rfl rfl rfl rfl rfl rfl (pFB rfl rfl rfl rfl rfl (mvB rfl rfl rfl ?_)))
         refine w_split (t := 39) rfl ?_ ?_
         ·intro hs39
          (try simp only [Q1, Q2, Q3, Q4, Q5] at hs39)
          refine st_skip rfl (st_skip rfl (pTB rfl rfl rfl rfl rfl (asB rfl rfl rfl (w_nil (then_n (c_T rfl rfl (wp_seq (c_reg (asI rfl rfl rfl ?_)))))))))
          refine asI rfl rfl rfl (w_nil (then_n (wp_ret (inb_r (then_r ?_)))))
          refine ret2 (t := 2) (u := 3) (v := .int .i64 _) (v' := .int .i64 _) rfl rfl rfl rfl rfl ⟨_, _, rfl, ?_, K⟩
          decide
         ·intro hs39
          (try simp only [Q1, Q2, Q3, Q4, Q5] at hs39)
          refine mvI rfl rfl rfl (s_eq rfl rfl rfl rfl rfl rfl (pFB rfl rfl rfl rfl rfl (asB rfl rfl rfl (w_nil (then_n ?_)))))
          refine c_if rfl rfl ?_ ?_
          ·intro ht28
           (try simp only [Q1, Q2, Q3, Q4, Q5] at ht28)
           refine wp_seq (c_reg (asI rfl rfl rfl (asI rfl rfl rfl (w_nil (then_n (wp_ret (inb_r (then_r ?_))))))))
           refine ret2 (t := 2) (u := 3) (v := .int .i64 _) (v' := .int .i64 _) rfl rfl rfl rfl rfl ⟨_, _, rfl, ?_, K⟩
           decide
          ·intro ht28
           (try simp only [Q1, Q2, Q3, Q4, Q5] at ht28)
           refine wp_seq (c_reg (mvI rfl rfl rfl (s_call1 go154 rfl (c154 _ _) rfl rfl ?_)))
           rintro _ w4 ⟨rfl, kw4⟩
           replace K := K.transN kw4
           refine ⟨_, rfl, ?_⟩
           refine asB rfl rfl rfl (w_nil (then_n ?_))
           refine c_if rfl rfl ?_ ?_
           ·intro ht43
            (try simp only [Q1, Q2, Q3, Q4, Q5] at ht43)
            refine wp_seq (c_reg (asI rfl rfl rfl (asI rfl rfl rfl (w_nil (then_n (wp_ret (inb_r (then_r ?_))))))))
            refine ret2 (t := 2) (u := 3) (v := .int .i64 _) (v' := .int .i64 _) rfl rfl rfl rfl rfl ⟨_, _, rfl, ?_, K⟩
            decide
           ·intro ht43
            (try simp only [Q1, Q2, Q3, Q4, Q5] at ht43)
            refine wp_seq (c_reg (mvI rfl rfl rfl (s_leq rfl rfl rfl rfl rfl rfl (asB rfl rfl rfl (w_nil (then_n ?_))))))
            refine c_if rfl rfl ?_ ?_
            ·intro ht46
             (try simp only [Q1, Q2, Q3, Q4, Q5] at ht46)
             refine wp_seq (c_reg (asI rfl rfl rfl (asI rfl rfl rfl (w_nil (then_n (wp_ret (inb_r (then_r ?_))))))))
             refine ret2 (t := 2) (u := 3) (v := .int .i64 _) (v' := .int .i64 _) rfl rfl rfl rfl rfl ⟨_, _, rfl, ?_, K⟩
             decide
            ·intro ht46
             (try simp only [Q1, Q2, Q3, Q4, Q5] at ht46)
             refine wp_skip (inb_n (then_n (wp_seq (c_reg (asI rfl rfl rfl (asI rfl rfl rfl (w_nil (then_n (wp_ret ?_)))))))))
             refine ret2 (t := 2) (u := 3) (v := .int .i64 _) (v' := .int .i64 _) rfl rfl rfl rfl rfl ⟨_, _, rfl, ?_, K⟩
             exfalso; first | omega | (exact memb_kinds hm (by by_cases e : ltr (c) = true; exact absurd (by omega : x4 = 0) (hx4 e); simpa using e) (by omega) (by omega) (by assumption) (by omega) (by omega) (by omega) (by assumption) (by omega))
theorem c106 (c : Int) (w : World) (h0 : 0 ≤ c) (h1 : c ≤ 65535) (hm : memb (nrm c) = true) : Calls Tryz.prog 106 #[.int .i64 c] w fun e w' => e = .returned (.bool true) ∧ New w w' := by
 obtain ⟨W, hW⟩ : ∃ W, W = w := ⟨_, rfl⟩
 subst hW
 have K : New W W := Kp.refl _ _
 refine enter (n := 12) Tryz.func106 rfl rfl (by simp) ?_
 refine wp_seq (c_reg (asB rfl rfl rfl (w_nil (then_n (wp_seq (c_reg (mvI rfl rfl rfl (s_call1 go132 rfl (c132 c _ h0 h1 hm) rfl rfl ?_))))))))
 rintro _ w1 ⟨x, k, rfl, hk, kw1⟩
 replace K := K.transN kw1
 refine ⟨_, rfl, ?_⟩
 refine s_mv (v := .tuple _) rfl rfl rfl (s_ext (v := .int .i64 _) rfl rfl rfl rfl (s_ext (v := .int .i64 _) rfl rfl rfl rfl (asI rfl rfl rfl (asI rfl rfl rfl (w_nil (then_n (wp_seq (c_reg (mvI rfl rfl rfl ?_)))))))))
 refine s_ne rfl rfl rfl rfl rfl rfl (asB rfl rfl rfl (w_nil (then_n (wp_ret ?_))))
 refine ret1 (t := 2) (v := .bool _) rfl rfl rfl ⟨by simp [hk], K⟩
end
section
theorem get_bt (s : ByteArray) (j : Nat) : ((s.get! j).toNat : Int) = bt s j := by
  unfold bt
  by_cases h : j < s.size
  · rw [getElem?_pos s j h]
    have : s.get! j = s[j] := by
      show s.data[j]! = _
      rw [getElem!_pos s.data j h]; rfl
    rw [this]
  · rw [getElem?_neg s j h]
    have : s.get! j = 0 := by
      show s.data[j]! = _
      rw [getElem!_neg s.data j h]; rfl
    rw [this]; rfl
theorem bt_ext (s : ByteArray) {i k : Nat} (h : i ≤ s.size) : bt (s.extract i s.size) k = bt s (i + k) := by
  have hg : (s.extract i s.size)[k]? = s[i + k]? := by
    rw [get_list, get_list]
    simp only [ByteArray.data_extract, Array.toList_extract]
    rw [List.extract_eq_take_drop, List.getElem?_take]
    have hl : s.data.toList.length = s.size := Array.length_toList
    by_cases hz : k < s.size - i
    · rw [if_pos hz, List.getElem?_drop]
    · rw [if_neg hz, List.getElem?_eq_none]; omega
  simp only [bt, hg]
theorem size_ext (s : ByteArray) {i : Nat} (h : i ≤ s.size) : (s.extract i s.size).size = s.size - i := by
  rw [ByteArray.size_extract]; omega
theorem ext_ext (s : ByteArray) {i k : Nat} (h : i + k ≤ s.size) : (s.extract i s.size).extract k (s.extract i s.size).size = s.extract (i + k) s.size := by
  rw [ByteArray.extract_extract, size_ext s (by omega)]
  congr 1 <;> omega
theorem memb_valid {c : Int} (h : memb (nrm c) = true) : 32 ≤ c ∧ c ≠ 65533 ∧ c ≤ 65374 ∧ Utf8.valid c = true := by
  obtain ⟨h1, h2, h3⟩ := memb_bd h
  unfold nrm inn at h1 h2 h3
  simp only [Lib.validRune, decide_eq_true_eq] at h3
  simp only [Utf8.valid, Bool.or_eq_true, Bool.and_eq_true, decide_eq_true_eq]
  split at h1
  · rename_i hc
    simp only [Bool.and_eq_true, decide_eq_true_eq] at hc
    rw [if_pos (by simpa using hc)] at h2
    omega
  · rename_i hc
    simp only [Bool.and_eq_true, decide_eq_true_eq] at hc
    rw [if_neg (by simpa using hc)] at h2 h3
    omega
theorem dec_at {s : ByteArray} {i : Nat} {c : Int} {n : Nat} (hi : i < s.size) (h : atF s i = (c, (n : Int))) (hn : 1 ≤ n) (hm : memb (nrm c) = true) : Lib.decodeGo (s.extract i s.size) = (c.toNat, n) := by
  obtain ⟨m1, m2, m3, m4⟩ := memb_valid hm
  have hz := size_ext s (Nat.le_of_lt hi)
  unfold Lib.decodeGo
  rw [if_neg (by omega)]
  obtain ⟨u0, _, e0, g0, l0⟩ := bt_get hi
  have b0 := get_bt (s.extract i s.size) 0
  have b1 := get_bt (s.extract i s.size) 1
  have b2 := get_bt (s.extract i s.size) 2
  rw [bt_ext s (by omega)] at b0 b1 b2
  unfold Utf8.decode
  simp only [Nat.zero_add]
  obtain ⟨a0, ha0⟩ : ∃ a, a = ((s.extract i s.size).get! 0).toNat := ⟨_, rfl⟩
  rw [← ha0] at b0
  obtain ⟨a1, ha1⟩ : ∃ a, a = ((s.extract i s.size).get! 1).toNat := ⟨_, rfl⟩
  rw [← ha1] at b1
  obtain ⟨a2, ha2⟩ : ∃ a, a = ((s.extract i s.size).get! 2).toNat := ⟨_, rfl⟩
  rw [← ha2] at b2
  simp only [← ha0, ← ha1, ← ha2]
  rw [Nat.add_zero] at b0
  unfold atF at h
  split at h
  · rename_i h1
    simp only [Prod.mk.injEq] at h
    rw [if_pos (by omega)]
    exact Prod.ext (by simp only; omega) (by simp only; omega)
  · rename_i h1
    rw [if_neg (by omega)]
    split at h
    · rename_i h2
      obtain ⟨_, _, e1, g1, l1⟩ := bt_get (s := s) (i := i + 1) (by omega)
      simp only [Prod.mk.injEq] at h
      have c1 : (a0 / 32 == 6 && (decide (1 < (s.extract i s.size).size) && a1 / 64 == 2)) = true := by
        simp only [Bool.and_eq_true, beq_iff_eq, decide_eq_true_eq]; omega
      rw [if_pos c1, if_pos (by omega)]
      exact Prod.ext (by simp only; omega) (by simp only; omega)
    · split at h
      · rename_i h3
        obtain ⟨_, _, e1, g1, l1⟩ := bt_get (s := s) (i := i + 1) (by omega)
        obtain ⟨_, _, e2, g2, l2⟩ := bt_get (s := s) (i := i + 2) (by omega)
        simp only [Prod.mk.injEq] at h
        rw [if_neg (by simp only [Bool.and_eq_true, beq_iff_eq, decide_eq_true_eq]; omega)]
        have c1 : (a0 / 16 == 14 && (decide (1 < (s.extract i s.size).size) && a1 / 64 == 2) && (decide (2 < (s.extract i s.size).size) && a2 / 64 == 2)) = true := by
          simp only [Bool.and_eq_true, beq_iff_eq, decide_eq_true_eq]; omega
        rw [if_pos c1]
        have hc : ((a0 % 16 * 4096 + a1 % 64 * 64 + a2 % 64 : Nat) : Int) = c := by omega
        rw [if_pos (by rw [hc]; simp only [Bool.and_eq_true, decide_eq_true_eq]; exact ⟨by omega, m4⟩)]
        exact Prod.ext (by simp only; omega) (by simp only; omega)
      · simp only [Prod.mk.injEq] at h; omega
theorem row_of_own {w : World} {b e n cap : Nat} {cs : List Value} (h : Own w b e cs) (hn : n ≤ cap) (hc : cs.length = cap) (hm : cap ≤ 1000000) : Row w (.slice (some ⟨b, 0, none⟩) n cap) e 1 n (cs.take n) (some b) := by
  refine ⟨by rw [List.length_take]; omega, .inr ⟨b, cap, cs.toArray, rfl, rfl, h, hn, by unfold maxLen; omega, by simp [hc], by simp⟩⟩
theorem trimB_ends {c : UInt8} {l : List UInt8} (h1 : ∀ b, l[0]? = some b → b ≠ c) (h2 : ∀ b, l[l.length - 1]? = some b → b ≠ c) : Lib.trimB l c = l := by
  unfold Lib.trimB
  rw [Lib.trimRightB_take l c l.length (Nat.le_refl _) (fun j b hj hb => by rw [List.getElem?_eq_none hj] at hb; cases hb) (fun b _ hb => h2 b hb), List.take_length,
    Lib.trimLeftB_drop l c 0 (by omega) (fun j b hj => absurd hj (by omega)) h1, List.drop_zero]
end
section
theorem c91 (s : ByteArray) (w : World) (hT : Tb w) (hs : s.size ≤ 400) (hrt : RT s 0) : Calls Tryz.prog 91 #[.string s] w fun e w' => ∃ v, e = .returned (.tuple #[v, .bool true]) ∧ New w w' := by
 obtain ⟨W, hW⟩ : ∃ W, W = w := ⟨_, rfl⟩
 subst hW
 have K : New W W := Kp.refl _ _
 refine enter (n := 35) Tryz.func91 rfl rfl (by simp) ?_
 refine wp_seq (c_reg (s_as (v := .slice _ _ _) rfl rfl rfl (asB rfl rfl rfl (w_nil (then_n (wp_seq (c_reg (s_mv (v := .string _) rfl rfl rfl (s_lenS Tryz.underlying9 rfl rfl rfl ?_)))))))))
 refine s_mk (l := 0) (c := s.size) el94 z3 rfl rfl rfl rfl rfl rfl rfl (by omega) (by omega) ?_
 intro b9 w1 eb9 o9 kb9 zb9
 have gb9 : W.heap.size ≤ b9 := by have := K.size; omega
 replace K := K.transN kb9
 have hr0 : Row _ (.slice (some ⟨b9, 0, none⟩) 0 s.size) 3 1 0 [] (some b9) := row_of_own (cap := s.size) o9 (by omega) (by simp) (by omega)
 refine s_as (v := .slice _ _ _) rfl rfl rfl (w_nil (then_n (wp_seq (wp_block ?_))))
 refine c_loop (fun m f w => ∃ g i k vo xs r, m = s.size - i ∧ i ≤ s.size ∧ RT s i ∧ f = (upd (upd g 0 (.string (s.extract i s.size))) 4 (vo)) ∧ k ≤ i ∧ Row w vo 3 1 k xs r ∧ (∀ b, r = some b → W.heap.size ≤ b) ∧ New W w) (s.size) ⟨_, 0, 0, _, [], some b9, by omega, by omega, hrt, (upd_keep' (upd_keep' rfl (by show Value.string s = _; rw [show s.extract 0 s.size = s by simp])) rfl), by omega, hr0, (fun b h => by cases h; exact gb9), K⟩ ?_
 clear K hr0 hrt
 rintro m _ w0 ⟨g, i, k, vo, xs, r, rfl, hi, hrt, rfl, hki, hrow, hge, K⟩
 have K0 := K
 have hxs := size_ext s hi
 have k0 : New w0 w0 := Kp.refl _ _
 refine wp_seq (wp_seq (c_reg (s_mv (v := .string _) rfl rfl rfl (s_lenS Tryz.underlying9 rfl rfl rfl ?_))))
 rw [hxs]
 refine s_gtr rfl rfl rfl rfl rfl rfl (w_nil (then_n ?_))
 refine c_if rfl rfl ?_ ?_
 ·intro ht12
  (try simp only [Q1, Q2, Q3, Q4, Q5] at ht12)
  refine wp_skip (then_n (wp_block (wp_seq (c_reg (s_mv (v := .string _) rfl rfl rfl ?_)))))
  obtain ⟨c, n, hat, hn1, hm, hrt2, hni⟩ : ∃ c n, atF s i = (c, ((n : Nat) : Int)) ∧ 1 ≤ n ∧ memb (nrm c) = true ∧ RT s (i + n) ∧ i + n ≤ s.size := by
   cases hrt with
   | nil => omega
   | cons _ n c h1 h2 h3 h4 h5 => exact ⟨c, n, h2, h3, h4, h5, by have := (at_ok h1 h2 (by omega)).2.2.1; omega⟩
  obtain ⟨m1, m2, m3, -⟩ := memb_valid hm
  refine s_call1 go105 rfl (Tryz.utf8_DecodeRuneInString (s.extract i s.size) _ (hT.kp K (fun _ _ _ e => e)).u8) rfl rfl ?_
  rintro _ w2 ⟨rfl, kz⟩
  replace kz := Kp.of_new kz
  replace K := K.transN kz
  replace k0 := k0.transN kz
  rw [dec_at (by omega) hat hn1 hm]
  simp only
  rw [show ((c.toNat : Nat) : Int) = c by omega]
  refine ⟨_, rfl, ?_⟩
  refine s_mv (v := .tuple _) rfl rfl rfl (s_ext (v := .int .i32 _) rfl rfl rfl rfl (s_ext (v := .int .i64 _) rfl rfl rfl rfl (s_as (v := .int .i32 _) rfl rfl rfl (asI rfl rfl rfl (w_nil (then_n (wp_seq (wp_seq (c_reg ?_)))))))))
  refine s_mv (v := .int .i32 _) rfl rfl rfl (s_eq rfl rfl rfl rfl rfl (decide_eq_false (by omega)) (mvB rfl rfl rfl (s_mv (v := .int .i32 _) rfl rfl rfl (s_conv (by decide) Tryz.underlying3 rfl rfl rfl (w64 (by omega)) (s_call1 go106 rfl (c106 c _ (by omega) (by omega) hm) rfl rfl ?_)))))
  rintro _ w3 ⟨rfl, kw3⟩
  replace K := K.transN kw3
  replace k0 := k0.transN kw3
  refine ⟨_, rfl, ?_⟩
  refine s_not rfl rfl rfl (pFB rfl rfl rfl rfl rfl (w_nil (then_n (c_F rfl rfl (wp_skip (then_n ?_))))))
  have kd : New w3 w3.drew := (Kp.refl _ _).drew
  replace K := K.transN kd
  replace k0 := k0.transN kd
  replace hrow := hrow.kp k0 (fun _ _ e => e)
  have hk0 := k0.size
  refine c_drawG (fun u => Kp (fun k => some k = r) (w3.drew) u) [false, false, false, true, true, false, false, false, false, false] [[], [], [1], [2], [0, 3], [], [], [5, 6], [0, 4], [5, 7]] ((fun i => [0, 1, 2, 3, 4, 6, 7, 8, 5, 9].getD i 0)) (rank_gc (rk := (fun i => [0, 1, 2, 3, 4, 6, 7, 8, 5, 9].getD i 0)) (by kernel_rfl)) rfl (by kernel_rfl) (Kp.refl _ _) ?_
  have kR : Kp (fun k => some k = r) (w3.drew) (w3.drew) := Kp.refl _ _
  refine t_q rfl rfl rfl (fun u hF => s_mv (v := vo) rfl rfl rfl (w_nil ⟨rfl, rfl, rfl⟩)) ?_
  refine t_q rfl rfl rfl (fun u hF => s_mv (v := .int .i32 _) rfl rfl rfl (w_nil ⟨rfl, rfl, rfl⟩)) ?_
  refine t_q rfl rfl rfl (fun u hF => s_conv (by decide) Tryz.underlying3 rfl rfl rfl (w64 (by omega)) (w_nil ⟨rfl, rfl, rfl⟩)) ?_
  refine t_l rfl (s_bs1E el94 rfl (by decide) rfl rfl rfl rfl ?_)
  intro b29 w4 eb29 o29 k29 z29
  replace K := K.transN k29
  replace kR := kR.transN k29
  replace hrow := hrow.kp k29 (fun _ _ e => e)
  refine w_nil ⟨rfl, _, rfl, kR, ?_⟩
  refine t_l rfl (s_appR (news := [.int .i64 c]) el94 rfl rfl rfl rfl rfl rfl hrow o29.cells rfl rfl (by omega) ?_)
  intro vz wA rz rowz kA hrz
  replace K := K.trans' kA (fun j hj e => by have := hge j e.symm; omega)
  replace kR := kR.trans kA
  refine w_nil ⟨rfl, _, rfl, kR, ?_⟩
  refine t_q rfl rfl rfl (fun u hF => s_mv (v := .string _) rfl rfl rfl (w_nil ⟨rfl, rfl, rfl⟩)) ?_
  refine t_q rfl rfl rfl (fun u hF => mvI rfl rfl rfl (w_nil ⟨rfl, rfl, rfl⟩)) ?_
  refine t_q rfl rfl rfl (fun u hF => s_slS (lo := n) Tryz.underlying9 rfl rfl rfl rfl rfl (by omega) (by omega) (w_nil ⟨rfl, rfl, rfl⟩)) ?_
  refine t_q rfl rfl rfl (fun u hF => s_as (v := vz) rfl rfl rfl (w_nil ⟨rfl, rfl, rfl⟩)) ?_
  refine t_q rfl rfl rfl (fun u hF => s_as (v := .string _) rfl rfl rfl (w_nil ⟨rfl, rfl, rfl⟩)) ?_
  refine t_n (inb_n (then_n ?_))
  rw [ext_ext s hni]
  exact ⟨s.size - (i + n), _, by omega, rfl, _, i + n, k + 1, vz, _, rz, rfl, hni, hrt2, (upd_keep' (upd_keep' rfl rfl) rfl), by omega, rowz, (fun b hb => by rcases hrz with h | h; exact hge b (h ▸ hb); have := Option.some.inj (h.symm.trans hb); have := K0.size; have := k29.size; omega), K⟩
 ·intro ht12
  (try simp only [Q1, Q2, Q3, Q4, Q5] at ht12)
  refine wp_exit (then_x (then_x (inb_x (then_n (wp_seq (c_reg (s_mv (v := vo) rfl rfl rfl (s_as (v := vo) rfl rfl rfl (asB rfl rfl rfl ?_)))))))))
  refine w_nil (then_n (wp_ret ?_))
  refine ret2 (t := 2) (u := 3) (v := vo) (v' := .bool true) rfl rfl rfl rfl rfl ⟨_, rfl, K⟩
theorem trim_text {s : ByteArray} (h1 : 1 ≤ s.size) (h2 : bt s 0 ≠ 32) (h3 : bt s (s.size - 1) ≠ 32) : (⟨(Lib.trimB s.data.toList 32).toArray⟩ : ByteArray) = s := by
 have hl : s.data.toList.length = s.size := Array.length_toList
 rw [trimB_ends]
 ·intro b hb e
  rw [← get_list] at hb
  exact h2 (by rw [bt_at hb, e]; rfl)
 ·intro b hb e
  rw [hl, ← get_list] at hb
  exact h3 (by rw [bt_at hb, e]; rfl)
theorem c63 (s : ByteArray) (w : World) (hT : Tb w) (h : VText s) : Calls Tryz.prog 63 #[.string s] w fun e w' => e = .returned (.bool true) ∧ New w w' := by
 obtain ⟨W, hW⟩ : ∃ W, W = w := ⟨_, rfl⟩
 subst hW
 have K : New W W := Kp.refl _ _
 obtain ⟨h1, h0, h2, h3, h4⟩ := h
 refine enter (n := 26) Tryz.func63 rfl rfl (by simp) ?_
 refine wp_seq (c_reg (asB rfl rfl rfl (w_nil (then_n (wp_seq (c_reg (s_mv (v := .string _) rfl rfl rfl (s_call1 go91 rfl (c91 s _ (hT.kp K (fun _ _ _ e => e)) h0 h4) rfl rfl ?_))))))))
 rintro _ w1 ⟨v7, rfl, kw1⟩
 replace K := K.transN kw1
 refine ⟨_, rfl, ?_⟩
 refine s_mv (v := .tuple _) rfl rfl rfl (s_ext (v := v7) rfl rfl rfl rfl (s_ext (v := .bool true) rfl rfl rfl rfl (s_as (v := v7) rfl rfl rfl (asB rfl rfl rfl (w_nil (then_n (wp_seq (c_reg (mvB rfl rfl rfl ?_)))))))))
 refine mvB rfl rfl rfl (s_mv (v := .string _) rfl rfl rfl ?_)
 refine s_sne rfl rfl rfl rfl rfl (by rw [decide_eq_false (fun e => by rw [e] at h1; exact absurd h1 (by decide))]) ?_
 refine pTB rfl rfl rfl rfl rfl (mvB rfl rfl rfl (s_mv (v := .string _) rfl rfl rfl (s_lenS Tryz.underlying9 rfl rfl rfl (s_leq rfl rfl rfl rfl rfl (decide_eq_true (by omega)) (pTB rfl rfl rfl rfl rfl (mvB rfl rfl rfl (s_mv (v := .string _) rfl rfl rfl (s_call2 go92 rfl (Tryz.strings_Trim_one s 32 (by decide) _ (by omega)) rfl rfl rfl rfl ?_))))))))
 rintro _ w2 ⟨rfl, kz⟩
 replace kz : New w1 w2 := by rcases kz with h | h; (rw [h]; exact Kp.refl _ _); (rw [h]; exact (Kp.refl _ _).drew)
 replace K := K.transN kz
 rw [trim_text h1 h2 h3]
 refine ⟨_, rfl, ?_⟩
 refine s_mv (v := .string _) rfl rfl rfl (s_seq rfl rfl rfl rfl rfl (decide_eq_true rfl) (pTB rfl rfl rfl rfl rfl (asB rfl rfl rfl (w_nil (then_n (wp_ret ?_))))))
 refine ret1 (t := 2) (v := .bool true) rfl rfl rfl ⟨rfl, K⟩
theorem c63c : C63 VText := fun s w hT h => c63 s w hT h
end
section
abbrev bc (s : List UInt8) : List Value := Lib.byteCells s
def BRow (w : World) (v : Value) (s : List UInt8) (r : Option Nat) : Prop := Row w v 5 1 s.length (bc s) r
theorem bc_len (s : List UInt8) : (bc s).length = s.length := Lib.byteCells_length s
theorem bc_app (s t : List UInt8) : bc (s ++ t) = bc s ++ bc t := by simp [bc, Lib.byteCells]
theorem bc_one (s : List UInt8) : (bc s).all (·.oneCell') = true := by
  rw [List.all_eq_true]; intro x hx
  obtain ⟨u, _, rfl⟩ := List.mem_map.1 hx; rfl
theorem bc_get {s : List UInt8} {i : Nat} {u : UInt8} (h : s[i]? = some u) : (bc s)[i]? = some (.int .u8 u.toNat) := by simp [bc, Lib.byteCells, h]
theorem BRow.nil (w : World) : BRow w (.slice none 0 0) [] none := Row.nil w 5 1
theorem BRow.kp {M : Nat → Prop} {w w' : World} {v : Value} {s : List UInt8} {g : Option Nat} (h : BRow w v s g) (k : Kp M w w') (hm : ∀ b, g = some b → ¬ M b) : BRow w' v s g := Row.kp h k hm
theorem BRow.rbytes {w : World} {v : Value} {s : List UInt8} {r : Option Nat} (h : BRow w v s r) (hs : s.length ≤ 1000000) : RBytes (fun i => some i = r) w v s := by
  obtain ⟨A, cap, hv, hc, hn, hp⟩ := Row.shape h
  refine ⟨A, cap, hv, hc, by unfold big; omega, fun i u hu => ?_⟩
  cases A with
  | none => have := hn rfl; have := (List.getElem?_eq_some_iff.1 hu).1; omega
  | some p =>
    obtain ⟨b, hr, rfl⟩ := hp p rfl
    subst hr
    exact ⟨_, rfl, rfl, Row.cells h i _ (bc_get hu)⟩
theorem RBytes.weak {G G' : Nat → Prop} {w : World} {v : Value} {s : List UInt8} (h : RBytes G w v s) (hg : ∀ i, G i → G' i) : RBytes G' w v s := by
  obtain ⟨A, cap, hv, hc, h⟩ := h; exact ⟨A, cap, hv, hc, h.weak hg⟩
theorem RBytes.len {G : Nat → Prop} {w : World} {v : Value} {s : List UInt8} (h : RBytes G w v s) : s.length ≤ big := by
  obtain ⟨A, cap, hv, hc, h⟩ := h; exact h.1
theorem BytesAt.cells {G : Nat → Prop} {w : World} {a : Addr} {s : List UInt8} (h : BytesAt G w (some a) s) : CellsAt w a (bc s) := by
  intro j v hv
  obtain ⟨u, hu, rfl⟩ : ∃ u, s[j]? = some u ∧ v = .int .u8 u.toNat := by
    simp only [bc, Lib.byteCells, List.getElem?_map, Option.map_eq_some_iff] at hv
    obtain ⟨u, hu, rfl⟩ := hv; exact ⟨u, hu, rfl⟩
  obtain ⟨p, hp, _, hc⟩ := h.2 j u hu
  cases hp; exact hc
theorem BytesAt.part {G : Nat → Prop} {w : World} {A : Option Addr} {l : List UInt8} {cap lo hi : Nat} (h : BytesAt G w A l) (h1 : lo ≤ hi) (h2 : hi ≤ l.length) (h3 : l.length ≤ cap) :
    BytesAt G w (V.part A lo cap 1) ((l.drop lo).take (hi - lo)) := by
  refine ⟨by have := h.1; simp only [List.length_take, List.length_drop]; omega, fun i f hf => ?_⟩
  rw [List.getElem?_take] at hf
  split at hf
  · rename_i hlt
    rw [List.getElem?_drop] at hf
    obtain ⟨p, hA, hG, hc⟩ := h.2 _ f hf
    refine ⟨p.add (lo * 1), part_at hA (by omega), by rw [add_block]; exact hG, ?_⟩
    rw [add_add, Nat.mul_one]; exact hc
  · cases hf
theorem RBytes.part {G : Nat → Prop} {w : World} {A : Option Addr} {l : List UInt8} {cap : Nat} {lo hi : Nat} (h : RBytes G w (.slice A l.length cap) l) (h1 : lo ≤ hi) (h2 : hi ≤ l.length) :
    RBytes G w (.slice (V.part A lo cap 1) (hi - lo) (cap - lo)) ((l.drop lo).take (hi - lo)) := by
  obtain ⟨A', cap', hv, hc, h⟩ := h
  cases hv
  exact ⟨_, _, by rw [take_drop_len h2], by rw [take_drop_len h2]; omega, h.part h1 h2 hc⟩
section steps
variable {md : Md} {P : Program} {ops : Array Oper} {Q : Exit → Act → World → Prop} {n : Nat} {ds : List Deferred} {f : Nat → Value} {w w' : World} {rest : List Oper}
  {d : Nat} {ty : TypeId} {pos : String} {af : Array Edge} {g : Option (Nat × Bool)} {v v0 v1 v2 v3 : Value} {x y z x0 x1 x2 x3 : Operand} {T U : TypeId}
theorem s_appB {G : Nat → Prop} {s t : List UInt8} {r : Option Nat} (hE : elIs P T 5 1 1) (hg : Gd n ops f g = some true) (hb : inb n x = true) (hb' : inb n y = true) (hx : ev f x = v1) (hy : ev f y = v2)
    (h1 : BRow w v1 s r) (h2 : RBytes G w v2 t) (hm : s.length + t.length ≤ 1000000)
    (k : ∀ v' w' r', BRow w' v' (s ++ t) r' → Kp (fun k => some k = r) w w' → (r' = r ∨ r' = some w.heap.size) → WL md P ops Q rest n ds (upd f d v') w') :
    WL md P ops Q (⟨some d, .call ⟨.builtin .append, #[x, y], #[T, T]⟩, ty, pos, af, g⟩ :: rest) n ds f w := by
  obtain ⟨A, cap, rfl, hc, hA⟩ := h2
  cases A with
  | none =>
    have ht : t = [] := by
      cases t with
      | nil => rfl
      | cons a t => obtain ⟨p, hp, _⟩ := hA.2 0 a rfl; cases hp
    subst ht
    refine s_app0 (A := none) (c := cap) hE rfl hg hb hb' hx hy h1 (by simp at hm; omega) fun v' w' r' hr hk ho => k v' w' r' ?_ hk ho
    rw [List.append_nil]; exact hr
  | some a =>
    refine s_appR (news := bc t) hE rfl hg hb hb' hx hy h1 hA.cells (by rw [bc_len]; omega) (bc_one t) hm fun v' w' r' hr hk ho => k v' w' r' ?_ hk ho
    unfold BRow; rw [List.length_append, bc_app]; exact hr
theorem s_appBS {s : List UInt8} {t : ByteArray} {r : Option Nat} (hE : elIs P T 5 1 1) (hz8 : (P.info? 5).bind (·.zero) = some (.int .u8 0)) (hU : P.underlying U = some .string)
    (hg : Gd n ops f g = some true) (hb : inb n x = true) (hb' : inb n y = true) (hx : ev f x = v1) (hy : ev f y = .string t)
    (h1 : BRow w v1 s r) (hm : s.length + t.size ≤ 1000000)
    (k : ∀ v' w' r', BRow w' v' (s ++ t.data.toList) r' → Kp (fun k => some k = r) w w' → (r' = r ∨ r' = some w.heap.size) → WL md P ops Q rest n ds (upd f d v') w') :
    WL md P ops Q (⟨some d, .call ⟨.builtin .append, #[x, y], #[T, U]⟩, ty, pos, af, g⟩ :: rest) n ds f w := by
  refine s_appStr hE hz8 hU hg hb hb' hx hy h1 hm fun v' w' r' hr hk ho => k v' w' r' ?_ hk ho
  unfold BRow; rw [List.length_append, bc_app, Array.length_toList]; exact hr
theorem run_bsN {e bytes : Nat} {vs : List Value} (hE : elIs P T e 1 bytes) (h1 : ∀ u ∈ vs, u.cells = #[u]) (hl : vs.length ≤ 4) (h0 : 0 < vs.length) :
    (Instr.buildSlice T vs.length ((vs.zipIdx.map fun p => (p.2, p.1)).toArray)).run P w = .ok (.slice (some ⟨w.heap.size, 0, none⟩) vs.length vs.length) (w.alloc (.cells vs.toArray e)) := by
  obtain ⟨hu, ie, zz, hie, hz, hs, hby, hzs, hp⟩ := hE
  have hz1 : ∃ z0, zz.cells = #[z0] := by
    have : zz.cells.toList.length = 1 := by simpa using hzs
    obtain ⟨z0, h⟩ := List.length_eq_one_iff.1 this
    exact ⟨z0, by rw [← Array.toList_inj]; simpa using h⟩
  obtain ⟨z0, hz0⟩ := hz1
  have hfill : Instr.fill (fun i => some (i * ie.size, ie.size)) ((Array.range (vs.length * ie.size)).map (zz.cells[· % zz.cells.size]!)) (vs.zipIdx.map fun p => (p.2, p.1)) = some vs.toArray := by
    rw [hs]
    obtain ⟨L, hL, hLl⟩ : ∃ L : List Value, (Array.range (vs.length * 1)).map (zz.cells[· % zz.cells.size]!) = L.toArray ∧ L.length = vs.length := ⟨_, (Array.toArray_toList).symm, by simp⟩
    rw [hL]
    match vs, h1, hl, L, hLl with
    | [], _, _, [], _ => rfl
    | [a], h1, _, [_], _ => simp only [List.zipIdx_cons, List.zipIdx_nil, List.map_cons, List.map_nil, Instr.fill, h1 a (by simp)]; rfl
    | [a, b], h1, _, [_, _], _ => simp only [List.zipIdx_cons, List.zipIdx_nil, List.map_cons, List.map_nil, Instr.fill, h1 a (by simp), h1 b (by simp)]; rfl
    | [a, b, c], h1, _, [_, _, _], _ => simp only [List.zipIdx_cons, List.zipIdx_nil, List.map_cons, List.map_nil, Instr.fill, h1 a (by simp), h1 b (by simp), h1 c (by simp)]; rfl
    | [a, b, c, d], h1, _, [_, _, _, _], _ => simp only [List.zipIdx_cons, List.zipIdx_nil, List.map_cons, List.map_nil, Instr.fill, h1 a (by simp), h1 b (by simp), h1 c (by simp), h1 d (by simp)]; rfl
    | a :: b :: c :: d :: e :: r, _, hl, _, _ => simp at hl
  exact run_buildSlice w T e vs.length _ vs.toArray ie zz hu hie hz (by rw [hs]; omega) (by rw [hs]; omega) hfill
theorem s_bs2 {e bytes : Nat} (hE : elIs P T e 1 bytes) (hg : Gd n ops f g = some true) (hb0 : inb n x0 = true) (hb1 : inb n x1 = true) (hx0 : ev f x0 = v0) (hx1 : ev f x1 = v1)
    (c0 : v0.cells = #[v0]) (c1 : v1.cells = #[v1])
    (k : ∀ b w', b = w.heap.size → Own w' b e [v0, v1] → Kp (fun _ => False) w w' → w'.heap.size = w.heap.size + 1 → WL md P ops Q rest n ds (upd f d (.slice (some ⟨b, 0, none⟩) 2 2)) w') :
    WL md P ops Q (⟨some d, .buildSlice T 2 #[(0, x0), (1, x1)], ty, pos, af, g⟩ :: rest) n ds f w := by
  refine st_run hg (w' := w.alloc (.cells [v0, v1].toArray e)) (v := .slice (some ⟨w.heap.size, 0, none⟩) 2 2) ?_ (k _ _ rfl (own_alloc w e _) (kp_alloc w _) (size_alloc w _))
  simp only [execOp, List.map_toArray, List.map_cons, List.map_nil, Fr_eval hb0, Fr_eval hb1, hx0, hx1]
  exact run_val (run_bsN (vs := [v0, v1]) hE (by simp [c0, c1]) (by simp) (by simp))
theorem s_bs4 {e bytes : Nat} (hE : elIs P T e 1 bytes) (hg : Gd n ops f g = some true) (hb0 : inb n x0 = true) (hb1 : inb n x1 = true) (hb2 : inb n x2 = true) (hb3 : inb n x3 = true) (hx0 : ev f x0 = v0) (hx1 : ev f x1 = v1) (hx2 : ev f x2 = v2) (hx3 : ev f x3 = v3)
    (c0 : v0.cells = #[v0]) (c1 : v1.cells = #[v1]) (c2 : v2.cells = #[v2]) (c3 : v3.cells = #[v3])
    (k : ∀ b w', b = w.heap.size → Own w' b e [v0, v1, v2, v3] → Kp (fun _ => False) w w' → w'.heap.size = w.heap.size + 1 → WL md P ops Q rest n ds (upd f d (.slice (some ⟨b, 0, none⟩) 4 4)) w') :
    WL md P ops Q (⟨some d, .buildSlice T 4 #[(0, x0), (1, x1), (2, x2), (3, x3)], ty, pos, af, g⟩ :: rest) n ds f w := by
  refine st_run hg (w' := w.alloc (.cells [v0, v1, v2, v3].toArray e)) (v := .slice (some ⟨w.heap.size, 0, none⟩) 4 4) ?_ (k _ _ rfl (own_alloc w e _) (kp_alloc w _) (size_alloc w _))
  simp only [execOp, List.map_toArray, List.map_cons, List.map_nil, Fr_eval hb0, Fr_eval hb1, Fr_eval hb2, Fr_eval hb3, hx0, hx1, hx2, hx3]
  exact run_val (run_bsN (vs := [v0, v1, v2, v3]) hE (by simp [c0, c1, c2, c3]) (by simp) (by simp))
theorem s_cap {A : Option Addr} {l m : Nat} {t' e : TypeId} (hT : P.underlying t' = some (.slice e)) (hg : Gd n ops f g = some true) (hb : inb n x = true) (hx : ev f x = .slice A l m)
    (k : WL md P ops Q rest n ds (upd f d (.int .i64 m)) w) : WL md P ops Q (⟨some d, .call ⟨.builtin .cap, #[x], #[t']⟩, ty, pos, af, g⟩ :: rest) n ds f w :=
  st_run hg (by simp only [execOp, resolve, List.map_toArray, List.map_cons, List.map_nil, Fr_eval hb, hx]; simp [invoke, builtin, Builtin.cap_, run_underlying hT, go_sem]) k
theorem s_appZ {k0 : Nat} {tn : TypeId} (hE : elIs P T 5 1 1) (htn : P.underlying tn = some (.int .i64)) (hg : Gd n ops f g = some true) (hb : inb n x = true) (hb' : inb n y = true) (hx : ev f x = .slice none 0 0) (hy : ev f y = .int .i64 (k0 : Int)) (h0 : 0 < k0) (hm : k0 ≤ 1000000)
    (k : ∀ b w' cap cs, b = w.heap.size → Own w' b 5 cs → cs.length = cap → k0 ≤ cap → cap ≤ maxLen → Kp (fun _ => False) w w' → WL md P ops Q rest n ds (upd f d (.slice (some ⟨b, 0, none⟩) k0 cap)) w') :
    WL md P ops Q (⟨some d, .call ⟨.builtin .append, #[x, y], #[T, tn]⟩, ty, pos, af, g⟩ :: rest) n ds f w := by
  obtain ⟨hu, i, z, hi, hz, hs, hby, hzs, hp⟩ := hE
  have hr := Lib.run_append_nil_zeros (P := P) w T tn ty 5 i z .i64 .i64 hu htn hi hz k0 h0 (by omega) (by omega) (by rw [hby]; omega)
  have hge := grownCap_ge w k0 0 5
  have hle := grownCap_le_maxLen w k0 0 5 (by unfold maxLen; omega)
  refine st_run hg (v := .slice (some ⟨w.heap.size, 0, none⟩) k0 (grownCap w k0 0 5)) (w' := w.drew.alloc (.cells (Builtin.zeroCells z.cells k0 ++ Builtin.zeroCells z.cells (grownCap w k0 0 5 - k0)) 5)) (by simp only [execOp, resolve, List.map_toArray, List.map_cons, List.map_nil, Fr_eval hb, Fr_eval hb', hx, hy]; simp only [Sem.run_bind, Sem.run_pure, Result.andThen_ok, invoke, builtin, hr])
    (k w.heap.size _ (grownCap w k0 0 5) (Builtin.zeroCells z.cells k0 ++ Builtin.zeroCells z.cells (grownCap w k0 0 5 - k0)).toList rfl ?_ ?_ hge hle (kp_grown _ w _))
  · unfold Own
    rw [show ∀ a : Array Value, a.toList.toArray = a from fun a => rfl]
    exact heap_alloc_new w.drew _
  · simp only [Array.length_toList, Array.size_append, size_zeroCells, hzs]; omega
end steps
end
section
theorem kp_bytes (M : Nat → Prop) (w : World) (e : Nat) (s : ByteArray) : Kp M w (Lib.bytesWorld w e s) :=
  ⟨rfl, rfl, rfl, by rw [Lib.bytesWorld_size]; omega, fun k hk _ => Lib.bytesWorld_at_old w e s k hk⟩
section steps
variable {md : Md} {P : Program} {ops : Array Oper} {Q : Exit → Act → World → Prop} {n : Nat} {ds : List Deferred} {f : Nat → Value} {w w' : World} {rest : List Oper}
  {d : Nat} {ty : TypeId} {pos : String} {af : Array Edge} {g : Option (Nat × Bool)} {v v0 v1 v2 v3 : Value} {x y z x0 x1 x2 x3 : Operand} {T U : TypeId} {tx ty' : TypeId} {kk k1 k2 : IntKind} {a b c : Int}
theorem s_cvSB {s : ByteArray} (hs : P.underlying T = some .string) (hd : P.underlying U = some (.slice 5)) (he : P.underlying 5 = some (.int .u8)) (hg : Gd n ops f g = some true) (hb : inb n x = true) (hx : ev f x = .string s) (hm : s.size ≤ 1000000)
    (k : ∀ v' w', RBytes (fun i => w.heap.size ≤ i) w' v' s.data.toList → Kp (fun _ => False) w w' → w'.heap.size = w.heap.size + 1 → WL md P ops Q rest n ds (upd f d v') w') :
    WL md P ops Q (⟨some d, .convert T U x, ty, pos, af, g⟩ :: rest) n ds f w := by
  have hge := grownCap_ge w s.size 0 5
  refine st_run hg (v := .slice (some ⟨w.heap.size, 0, none⟩) s.size (grownCap w s.size 0 5)) (w' := Lib.bytesWorld w 5 s) (by simp only [execOp, Fr_eval hb, hx]; exact run_val (Lib.run_convert_string_bytes w T U 5 s hs hd he))
    (k _ _ ?_ (kp_bytes _ w 5 s) (Lib.bytesWorld_size w 5 s))
  have hl : s.data.toList.length = s.size := Array.length_toList
  refine ⟨some ⟨w.heap.size, 0, none⟩, _, by rw [hl], by rw [hl]; exact hge, by rw [hl]; unfold big; omega, fun i u hu => ⟨_, rfl, Nat.le_refl _, ?_⟩⟩
  rw [add_lit, Lib.bytesWorld_cell w 5 s i (by have := (List.getElem?_eq_some_iff.1 hu).1; omega)]
  rw [List.getD_eq_getElem?_getD, hu]; rfl
theorem push_fold (l : List UInt8) : ∀ (r : ByteArray), (l.map fun u => (u.toNat : Int)).foldl (fun r n => r.push (UInt8.ofNat n.toNat)) r = ⟨r.data ++ l.toArray⟩ := by
  induction l with
  | nil => intro r; simp
  | cons u l ih =>
    intro r
    simp only [List.map_cons, List.foldl_cons]
    rw [ih]
    simp [ByteArray.push]
theorem run_cvBS {G : Nat → Prop} {s : List UInt8} (hs : P.underlying T = some (.slice 5)) (he : P.underlying 5 = some (.int .u8)) (hd : P.underlying U = some .string) (hv : RBytes G w v s) :
    (convert T U v).run P w = .ok (.string ⟨s.toArray⟩) w := by
  obtain ⟨A, cap, rfl, hc, hA⟩ := hv
  rw [run_convert_bytes_string w T U 5 A _ _ hs he hd]
  cases A with
  | none =>
    have : s = [] := by
      cases s with
      | nil => rfl
      | cons u s => obtain ⟨p, hp, _⟩ := hA.2 0 u rfl; cases hp
    subst this; rfl
  | some a =>
    have hl : (loadCells a s.length).run P w = .ok ((s.map fun u => (u.toNat : Int)).map (Value.int .u8)).toArray w := by
      have := run_loadCells_list (P := P) w a (bc s) hA.cells
      rw [bc_len] at this
      have e : ((s.map fun u => (u.toNat : Int)).map (Value.int .u8)) = bc s := by simp [bc, Lib.byteCells]
      rw [e]; exact this
    rw [run_bytesToString w a _ _ _ hl, push_fold, show ByteArray.empty.data = #[] from rfl, Array.empty_append]
theorem s_cvBS {G : Nat → Prop} {s : List UInt8} (hs : P.underlying T = some (.slice 5)) (he : P.underlying 5 = some (.int .u8)) (hd : P.underlying U = some .string) (hg : Gd n ops f g = some true) (hb : inb n x = true) (hx : ev f x = v) (hv : RBytes G w v s)
    (k : WL md P ops Q rest n ds (upd f d (.string ⟨s.toArray⟩)) w) : WL md P ops Q (⟨some d, .convert T U x, ty, pos, af, g⟩ :: rest) n ds f w :=
  st_run hg (by simp only [execOp, Fr_eval hb, hx]; exact run_val (run_cvBS hs he hd hv)) k
theorem s_rem (hg : Gd n ops f g = some true) (hb : inb n x = true) (hb' : inb n y = true) (hx : ev f x = .int kk a) (hy : ev f y = .int kk b) (h0 : 0 ≤ a) (h1 : 0 < b) (hc : a % b = c)
    (k : WL md P ops Q rest n ds (upd f d (.int kk c)) w) : WL md P ops Q (⟨some d, .binOp .rem tx x y ty', ty, pos, af, g⟩ :: rest) n ds f w :=
  st_run hg (by subst hc; simp only [execOp, Fr_eval hb, Fr_eval hb', hx, hy]; simp [binOp, eqGuard, Op.intDiv, go_sem, show b ≠ 0 by omega, Int.tmod_eq_emod_of_nonneg h0]) k
theorem s_quo (hg : Gd n ops f g = some true) (hb : inb n x = true) (hb' : inb n y = true) (hx : ev f x = .int kk a) (hy : ev f y = .int kk b) (h0 : 0 ≤ a) (h1 : 0 < b) (hc : kk.wrap (a / b) = c)
    (k : WL md P ops Q rest n ds (upd f d (.int kk c)) w) : WL md P ops Q (⟨some d, .binOp .quo tx x y ty', ty, pos, af, g⟩ :: rest) n ds f w :=
  st_run hg (by subst hc; simp only [execOp, Fr_eval hb, Fr_eval hb', hx, hy]; simp [binOp, eqGuard, Op.intDiv, go_sem, show b ≠ 0 by omega, Int.tdiv_eq_ediv_of_nonneg h0]) k
theorem s_and (hg : Gd n ops f g = some true) (hb : inb n x = true) (hb' : inb n y = true) (hx : ev f x = .int kk a) (hy : ev f y = .int kk b) (hc : bits .and kk a b = c)
    (k : WL md P ops Q rest n ds (upd f d (.int kk c)) w) : WL md P ops Q (⟨some d, .binOp .and tx x y ty', ty, pos, af, g⟩ :: rest) n ds f w :=
  st_run hg (by subst hc; simp only [execOp, Fr_eval hb, Fr_eval hb', hx, hy]; simp [binOp, eqGuard, Op.intBits, go_sem, bits]) k
theorem s_or (hg : Gd n ops f g = some true) (hb : inb n x = true) (hb' : inb n y = true) (hx : ev f x = .int kk a) (hy : ev f y = .int kk b) (hc : bits .or kk a b = c)
    (k : WL md P ops Q rest n ds (upd f d (.int kk c)) w) : WL md P ops Q (⟨some d, .binOp .or tx x y ty', ty, pos, af, g⟩ :: rest) n ds f w :=
  st_run hg (by subst hc; simp only [execOp, Fr_eval hb, Fr_eval hb', hx, hy]; simp [binOp, eqGuard, Op.intBits, go_sem, bits]) k
theorem s_shl (hg : Gd n ops f g = some true) (hb : inb n x = true) (hb' : inb n y = true) (hx : ev f x = .int k1 a) (hy : ev f y = .int k2 b) (h0 : 0 ≤ b) (h1 : b ≤ k1.bits) (hc : k1.wrap (a * 2 ^ b.toNat) = c)
    (k : WL md P ops Q rest n ds (upd f d (.int k1 c)) w) : WL md P ops Q (⟨some d, .binOp .shl tx x y ty', ty, pos, af, g⟩ :: rest) n ds f w := by
  subst hc
  exact st_run hg (by simp only [execOp, Fr_eval hb, Fr_eval hb', hx, hy]; simp [binOp_shl, shift_shl _ _ _ _ h0 h1, go_sem]) k
end steps
end
section
theorem z5 : (Tryz.prog.info? 5).bind (·.zero) = some (.int .u8 0) := by kernel_rfl
def dig (k : Nat) : UInt8 := UInt8.ofNat (48 + k % 10)
def digs : Nat → Nat → List UInt8
  | 0, _ => []
  | n + 1, k => digs n (k / 10) ++ [dig k]
theorem digs_len (n k : Nat) : (digs n k).length = n := by
  induction n generalizing k with
  | zero => rfl
  | succ n ih => simp [digs, ih]
theorem dig_nat (k : Nat) : (dig k).toNat = 48 + k % 10 := by
  unfold dig; simp; omega
def sdat (s : Sub) : List UInt8 := [31, UInt8.ofNat s.code.toNat] ++ s.value.data.toList
def fdat (f : Fld) : List UInt8 := [UInt8.ofNat f.i0.toNat, UInt8.ofNat f.i1.toNat] ++ f.subs.flatMap sdat ++ [30]
def wdir : Nat → List Fld → List UInt8
  | _, [] => []
  | k, f :: l => (f.tag.data.toList ++ digs 5 (fdat f).length ++ digs 6 k) ++ wdir (k + (fdat f).length) l
def wdat (l : List Fld) : List UInt8 := l.flatMap fdat
def wex (id : Nat) (l : List Fld) : List UInt8 :=
  (digs 6 (22 + (wdir 0 l).length + 1 + (wdat l).length + 1) ++ digs 6 (22 + (wdir 0 l).length + 1) ++ digs 10 id ++ wdir 0 l) ++ [30] ++ wdat l ++ [29]
theorem wdir_app : ∀ (l : List Fld) (k : Nat) (f : Fld), wdir k (l ++ [f]) = wdir k l ++ (f.tag.data.toList ++ digs 5 (fdat f).length ++ digs 6 (k + (wdat l).length)) := by
  intro l
  induction l with
  | nil => intro k f; simp [wdir, wdat]
  | cons a l ih =>
    intro k f
    simp only [List.cons_append, wdir]
    rw [ih]
    simp [wdat, Nat.add_assoc]
theorem wdat_app (l : List Fld) (f : Fld) : wdat (l ++ [f]) = wdat l ++ fdat f := by simp [wdat]
end
section
section
variable {P : Program} {ops : Array Oper} {n : Nat} {ds : List Deferred}
def chkH (ops : Array Oper) (A : List (List Nat)) : Bool :=
  ops.toList.zipIdx.all fun y => (y.1.after.toList.all (fun e => !alw e || Nat.blt e.on y.2) &&
    (A.getD y.2 []).all (fun j => y.1.after.toList.any fun e => alw e && (e.on == j || (A.getD e.on []).contains j))) &&
    (Nat.beq (y.2 + 1) ops.size && (List.range y.2).all (fun j => (A.getD y.2 []).contains j) ||
      (!Nat.beq (y.2 + 1) ops.size && y.1.dst.isSome && (ops.toList.zipIdx.all fun x => Nat.beq x.2 y.2 || Nat.beq (x.2 + 1) ops.size || (dl x.1.dst).all fun t => !(dl y.1.dst).contains t)))
theorem anc_done {A : List (List Nat)} (hc : chkH ops A = true) {S : Nat → Bool} (hD : Dc ops S) : ∀ k, S k = true → k < ops.size → ∀ j ∈ A.getD k [], S j = true := by
  unfold chkH at hc
  rw [List.all_eq_true] at hc
  intro k
  induction k using Nat.strongRecOn with
  | _ k ih =>
    intro hk hlt j hj
    obtain ⟨o', ho'⟩ : ∃ o', ops[k]? = some o' := ⟨_, Array.getElem?_eq_getElem hlt⟩
    have := hc (o', k) (by rw [List.mem_zipIdx_iff_getElem?]; simpa using ho')
    rw [Bool.and_eq_true, Bool.and_eq_true] at this
    obtain ⟨⟨q1, q2⟩, _⟩ := this
    rw [List.all_eq_true] at q1 q2
    have q2 := q2 j hj
    rw [List.any_eq_true] at q2
    obtain ⟨e, he, q2⟩ := q2
    simp only [Bool.and_eq_true, Bool.or_eq_true, beq_iff_eq, List.contains_eq_mem, decide_eq_true_eq] at q2
    have hem : e ∈ o'.after := by simpa using he
    have hdone := hD k o' ho' hk e hem q2.1
    have q1 := q1 e he
    simp only [q2.1, Bool.not_true, Bool.false_or, Nat.blt_eq] at q1
    rcases q2.2 with rfl | h
    · exact hdone
    · exact ih e.on q1 hdone (by omega) j h
theorem c_drawH {Q : Exit → Act → World → Prop} {id : Nat} {f : Nat → Value} {w : World} (Lv : (Nat → Value) → Prop) (Φ : Nat → Value → World → Prop) (A : List (List Nat)) (rk : Nat → Nat)
    (hb : ∀ m, ∀ i o, ops[i]? = some o → ∀ e ∈ o.after, Region.binds m e = true → e.on < ops.size ∧ (if m = .gc then rk else fun i => i) e.on < (if m = .gc then rk else fun i => i) i)
    (hc : chkH ops A = true) (hpos : Nat.blt 0 ops.size = true) (hLv : Lv f) (hput : ∀ (i : Nat) (o : Oper) v f, ops[i]? = some o → i + 1 < ops.size → Lv f → Lv (put' f o.dst v))
    (hΦ : ∀ i v u u', Φ i v u → New u u' → Φ i v u')
    (hstep : ∀ (i : Nat) (o : Oper), ops[i]? = some o → i + 1 < ops.size → ∀ f u, New w.drew u → Lv f → (∀ j ∈ A.getD i [], ∀ o' d', ops[j]? = some o' → o'.dst = some d' → Φ j (f d') u) →
      WL .plain P ops (fun e a u' => e = .normal ∧ ∃ v, a = Fr n ds (put' f o.dst v) ∧ New u u' ∧ Φ i v u') [o] n ds f u)
    (hlast : ∀ (i : Nat) (o : Oper), ops[i]? = some o → i + 1 = ops.size → ∀ f u, New w.drew u → Lv f → (∀ j o' d', j + 1 < ops.size → ops[j]? = some o' → o'.dst = some d' → Φ j (f d') u) →
      WL .plain P ops (fun e a u' => e = .normal ∧ ∃ f', a = Fr n ds f' ∧ Q .normal (Fr n ds f') u') [o] n ds f u) :
    (Code.region id ops true).wp P Q (Fr n ds f) w := by
  have hc0 := hc
  unfold chkH at hc0
  rw [List.all_eq_true] at hc0
  have hlt : ∀ {i : Nat} {o : Oper}, ops[i]? = some o → i < ops.size := fun h => (Array.getElem?_eq_some_iff.1 h).1
  have hany : ∀ (i : Nat) (o : Oper), ops[i]? = some o → (i + 1 = ops.size ∧ ∀ j, j < i → j ∈ A.getD i []) ∨
      (i + 1 < ops.size ∧ (∃ d, o.dst = some d) ∧ ∀ (j : Nat) (o' : Oper), ops[j]? = some o' → j ≠ i → j + 1 < ops.size → ∀ t ∈ dl o'.dst, t ∉ dl o.dst) := by
    intro i o ho
    have := hc0 (o, i) (by rw [List.mem_zipIdx_iff_getElem?]; simpa using ho)
    rw [Bool.and_eq_true, Bool.or_eq_true] at this
    rcases this.2 with h | h
    · rw [Bool.and_eq_true, List.all_eq_true] at h
      exact .inl ⟨by simpa using h.1, fun j hj => by simpa using h.2 j (by simpa using hj)⟩
    · rw [Bool.and_eq_true, Bool.and_eq_true, List.all_eq_true] at h
      have h1 := hlt ho
      refine .inr ⟨by have h3 : ¬ (i + 1 = ops.size) := (fun e => by rw [e] at h; simp at h); omega, Option.isSome_iff_exists.1 h.1.2, fun j o' ho' hji hj t ht => ?_⟩
      have := h.2 (o', j) (by rw [List.mem_zipIdx_iff_getElem?]; simpa using ho')
      simp only [Bool.or_eq_true, List.all_eq_true, Nat.beq_eq] at this
      rcases this with (h | h) | h
      · exact absurd h hji
      · omega
      · simpa using h t ht
  refine c_drawS (fun S f w' => (∀ (i : Nat) (o : Oper), ops[i]? = some o → i + 1 = ops.size → S i = true → Q .normal (Fr n ds f) w') ∧
    ((∀ (i : Nat), i + 1 = ops.size → S i = false) → New w.drew w' ∧ Lv f ∧ ∀ (i : Nat) (o : Oper) d, ops[i]? = some o → o.dst = some d → S i = true → Φ i (f d) w')) rk hb
    ⟨(fun _ _ _ _ h => by cases h), (fun _ => ⟨Kp.refl _ _, hLv, (fun _ _ _ _ _ h => by cases h)⟩)⟩ ?_ ?_
  · intro i o ho S f u hS hD hd ⟨hI1, hI2⟩
    have hlastF : ∀ (k : Nat), k + 1 = ops.size → S k = false := by
      intro k hk
      cases hSk : S k with
      | false => rfl
      | true =>
        exfalso
        have hki : k ≠ i := fun e => by rw [e, hS] at hSk; cases hSk
        obtain ⟨ok, hok⟩ : ∃ ok, ops[k]? = some ok := ⟨_, Array.getElem?_eq_getElem (by omega)⟩
        rcases hany k ok hok with ⟨_, hA⟩ | ⟨h, _⟩
        · have := anc_done hc hD k hSk (by omega) i (hA i (by have := hlt ho; omega))
          rw [hS] at this; cases this
        · omega
    obtain ⟨hN, hL, hP⟩ := hI2 hlastF
    rcases hany i o ho with ⟨hi, hA⟩ | ⟨hi, ⟨d, hdst⟩, hdis⟩
    · refine wl1_mono (hlast i o ho hi f u hN hL fun j o' d' hj ho' hd' => hP j o' d' ho' hd' ?_) ?_
      ·
        have hc1 := hc0 (o, i) (by rw [List.mem_zipIdx_iff_getElem?]; simpa using ho)
        rw [Bool.and_eq_true, Bool.and_eq_true] at hc1
        have q := hc1.1.2
        rw [List.all_eq_true] at q
        have q := q j (hA j (by omega))
        rw [List.any_eq_true] at q
        obtain ⟨e, he, q⟩ := q
        simp only [Bool.and_eq_true, Bool.or_eq_true, beq_iff_eq, List.contains_eq_mem, decide_eq_true_eq] at q
        have hdone := hd e (by simpa using he) q.1
        have q1 := hc1.1.1
        rw [List.all_eq_true] at q1
        have q1 := q1 e he
        simp only [q.1, Bool.not_true, Bool.false_or, Nat.blt_eq] at q1
        rcases q.2 with rfl | h
        · exact hdone
        · exact anc_done hc hD e.on hdone (by omega) j h
      · rintro e a u' ⟨rfl, f', rfl, hq⟩
        refine ⟨f', rfl, fun _ _ _ _ _ => hq, fun h => ?_⟩
        have := h i hi
        simp [ins] at this
    · refine wl1_mono (hstep i o ho hi f u hN hL fun j hj o' d' ho' hd' => hP j o' d' ho' hd' ?_) ?_
      · have hc1 := hc0 (o, i) (by rw [List.mem_zipIdx_iff_getElem?]; simpa using ho)
        rw [Bool.and_eq_true, Bool.and_eq_true] at hc1
        have q := hc1.1.2
        rw [List.all_eq_true] at q
        have q := q j hj
        rw [List.any_eq_true] at q
        obtain ⟨e, he, q⟩ := q
        simp only [Bool.and_eq_true, Bool.or_eq_true, beq_iff_eq, List.contains_eq_mem, decide_eq_true_eq] at q
        have hdone := hd e (by simpa using he) q.1
        have q1 := hc1.1.1
        rw [List.all_eq_true] at q1
        have q1 := q1 e he
        simp only [q.1, Bool.not_true, Bool.false_or, Nat.blt_eq] at q1
        have hil := hlt ho
        rcases q.2 with rfl | h
        · exact hdone
        · exact anc_done hc hD e.on hdone (by omega) j h
      · rintro e a u' ⟨rfl, v, rfl, hNu, hΦi⟩
        refine ⟨_, rfl, fun k ok hok hk hS' => ?_, fun _ => ⟨hN.trans hNu, hput i o v f ho hi hL, fun j o' d' ho' hd' hSj => ?_⟩⟩
        · exfalso
          simp only [ins, Bool.or_eq_true, beq_iff_eq] at hS'
          rcases hS' with rfl | h
          · omega
          · rw [hlastF k hk] at h; cases h
        · by_cases hji : j = i
          · subst hji
            rw [ho] at ho'; cases ho'
            rw [hd']
            simp only [put', upd_same]; exact hΦi
          · have hSj' : S j = true := by
              simp only [ins, Bool.or_eq_true, beq_iff_eq] at hSj
              exact hSj.resolve_left hji
            have hjl : j + 1 < ops.size := by
              have := hlt ho'
              by_cases h : j + 1 = ops.size
              · rw [hlastF j h] at hSj'; cases hSj'
              · omega
            have hne : d' ≠ d := fun e => hdis j o' ho' hji hjl d' (by simp [dl, hd']) (by simp [dl, hdst, e])
            rw [hdst]
            simp only [put', upd_ne f v hne]
            exact hΦ j _ u u' (hP j o' d' ho' hd' hSj') hNu
  · intro S f u hS ⟨hI1, _⟩
    have h0 : 0 < ops.size := by simpa using hpos
    obtain ⟨o, ho⟩ : ∃ o, ops[ops.size - 1]? = some o := ⟨_, Array.getElem?_eq_getElem (by omega)⟩
    exact hI1 _ o ho (by omega) (hS _ (by omega))
end
end
section
theorem w64c {x : Int} {y : Nat} (h : x = y ∧ (y : Int) ≤ 9223372036854775807) : IntKind.i64.wrap x = ((y : Nat) : Int) := by rw [h.1]; exact w64 (by omega)
theorem rep_set (j : Nat) (x : Value) (t : List Value) (z : Value) : (List.replicate (j + 1) z ++ t).set j x = List.replicate j z ++ x :: t := by
 rw [List.set_append_left _ _ (by simp), List.replicate_succ', List.set_append_right _ _ (by simp)]
 simp
theorem c31 (k n : Nat) (w : World) (hk : k ≤ 1000000000000) (hn : n ≤ 100) : Calls Tryz.prog 31 #[.int .i64 (k : Nat), .int .i64 (n : Nat)] w fun e w' => ∃ v b, e = .returned v ∧ BRow w' v (digs n k) (some b) ∧ w.heap.size ≤ b ∧ New w w' := by
 obtain ⟨W, hW⟩ : ∃ W, W = w := ⟨_, rfl⟩
 subst hW
 have K : New W W := Kp.refl _ _
 refine enter (n := 25) Tryz.func31 rfl rfl (by simp) ?_
 refine wp_seq (c_reg (s_as (v := .slice _ _ _) rfl rfl rfl (w_nil (then_n (wp_seq (c_reg (mvI rfl rfl rfl (s_mk (l := n) (c := n) el38 z5 rfl rfl rfl rfl rfl rfl rfl (by omega) (by omega) ?_))))))))
 intro b8 w1 eb8 o8 kb8 zb8
 have gb8 : W.heap.size ≤ b8 := by have := K.size; omega
 replace K := K.transN kb8
 refine s_as (v := .slice (some ⟨b8, 0, none⟩) n n) rfl rfl rfl ?_
 refine w_nil (then_n (wp_seq (wp_seq (c_reg (mvI rfl rfl rfl (s_sub rfl rfl rfl rfl rfl (w64 (by omega)) (asI rfl rfl rfl (w_nil (then_n ?_)))))))))
 refine wp_block ?_
 refine c_loop (fun j f w => ∃ g k2 t, f = (upd (upd (upd g 0 (.int .i64 (k2 : Nat))) 5 (.slice (some ⟨b8, 0, none⟩) n n)) 6 (.int .i64 ((j : Nat) - 1 : Int))) ∧ j + t.length = n ∧ digs n k = digs j k2 ++ t ∧ k2 ≤ k ∧ Own w b8 5 (List.replicate j (.int .u8 0) ++ bc t) ∧ New W w) (n) ⟨_, k, [], (upd_keep' (upd_keep' (upd_keep' rfl rfl) rfl) (iv (by omega))), by simp, by simp, by omega, (by simpa [bc, Lib.byteCells] using o8), K⟩ ?_
 clear K o8
 rintro j _ w0 ⟨g, k2, t, rfl, hjt, hdg, hk2, o8, K⟩
 refine wp_seq (wp_seq (c_reg (mvI rfl rfl rfl (s_geq rfl rfl rfl rfl rfl rfl (w_nil (then_n ?_))))))
 refine c_if rfl rfl ?_ ?_
 ·intro ht12
  (try simp only [Q1, Q2, Q3, Q4, Q5] at ht12)
  obtain ⟨j2, rfl⟩ : ∃ j2, j = j2 + 1 := ⟨j - 1, by omega⟩
  refine wp_skip (then_n (wp_seq (wp_block (wp_seq (c_reg ?_)))))
  refine s_mv (v := .slice (some ⟨b8, 0, none⟩) n n) rfl rfl rfl ?_
  refine mvI rfl rfl rfl (mvI rfl rfl rfl (s_rem (c := ((k2 % 10 : Nat) : Int)) rfl rfl rfl rfl rfl (by omega) (by decide) (by omega) (s_add rfl rfl rfl rfl rfl (w64 (by omega)) (s_conv (by decide) Tryz.underlying5 rfl rfl rfl (w8 (by omega)) (s_iaE (j := j2) el38 rfl rfl rfl rfl rfl (by omega) (by omega) ?_)))))
  refine s_set (off := j2 * 1) sz5 rfl rfl rfl rfl rfl rfl rfl o8 (by simp [bc_len]; omega) ?_
  clear o8; intro w2 o8 kz zz
  replace K := K.trans' kz (fun i hi (e : i = b8) => by omega)
  rw [Nat.mul_one, rep_set] at o8
  refine w_nil (then_n (c_reg (mvI rfl rfl rfl (s_quo (c := ((k2 / 10 : Nat) : Int)) rfl rfl rfl rfl rfl (by omega) (by decide) (w64c (by omega)) (asI rfl rfl rfl (w_nil (inb_n (then_n (c_reg ?_)))))))))
  refine mvI rfl rfl rfl (s_sub rfl rfl rfl rfl rfl (w64 (by omega)) (asI rfl rfl rfl (w_nil (then_n ?_))))
  exact ⟨j2, _, by omega, rfl, _, k2 / 10, dig k2 :: t, (upd_keep' (upd_keep' (upd_keep' rfl (iv (by omega))) rfl) (iv (by omega))), by simp only [List.length_cons]; omega, (by rw [hdg]; simp [digs]), (by omega), (by rw [show bc (dig k2 :: t) = .int .u8 (dig k2).toNat :: bc t from rfl, dig_nat]; push_cast; exact o8), K⟩
 ·intro ht12
  (try simp only [Q1, Q2, Q3, Q4, Q5] at ht12)
  refine wp_exit (then_x (then_x (inb_x (then_n (wp_seq (c_reg ?_))))))
  refine s_mv (v := .slice (some ⟨b8, 0, none⟩) n n) rfl rfl rfl ?_
  refine s_as (v := .slice (some ⟨b8, 0, none⟩) n n) rfl rfl rfl ?_
  refine w_nil (then_n (wp_ret ?_))
  obtain rfl : j = 0 := by omega
  refine ret1 (t := 4) (v := .slice (some ⟨b8, 0, none⟩) n n) rfl rfl rfl ⟨_, b8, rfl, ?_, gb8, K⟩
  have h1 := row_of_own (n := n) (cap := n) o8 (by omega) (by simp [bc_len]; omega) (by omega)
  simp only [digs, List.nil_append] at hdg
  unfold BRow; rw [digs_len, hdg]; rw [List.take_of_length_le (by simp [bc_len]; omega)] at h1; simpa using h1
theorem part0 (p : Addr) (cap : Nat) : part (some p) 0 cap 1 = some p := by
 unfold part; split
 ·rfl
 ·simp [Addr.add]
theorem part0' (A : Option Addr) (cap : Nat) : part A 0 cap 1 = A := by
 cases A with
 | none => unfold part; split <;> rfl
 | some p => exact part0 p cap
theorem c65 (k : Nat) (w : World) (hk : k ≤ 1000000) : Calls Tryz.prog 65 #[.slice none 0 0, .int .i64 (k : Nat)] w fun e w' => ∃ v r, e = .returned v ∧ BRow w' v [] r ∧ (∀ b, r = some b → w.heap.size ≤ b) ∧ New w w' := by
 obtain ⟨W, hW⟩ : ∃ W, W = w := ⟨_, rfl⟩
 subst hW
 have K : New W W := Kp.refl _ _
 refine enter (n := 27) Tryz.func65 rfl rfl (by simp) ?_
 refine wp_seq (c_reg (s_as (v := .slice _ _ _) rfl rfl rfl (w_nil (then_n (wp_seq (wp_seq (c_reg (mvI rfl rfl rfl (s_lss rfl rfl rfl rfl rfl (decide_eq_false (by omega)) ?_)))))))))
 refine w_nil (then_n (c_F rfl rfl (wp_skip (then_n (wp_seq (wp_seq (c_reg (mvI rfl rfl rfl (s_mv (v := .slice none 0 0) rfl rfl rfl ?_)))))))))
 refine s_cap Tryz.underlying38 rfl rfl rfl (s_mv (v := .slice none 0 0) rfl rfl rfl (s_lenL Tryz.underlying38 rfl rfl rfl (s_sub rfl rfl rfl rfl rfl (w64 (by omega)) (s_sub rfl rfl rfl rfl rfl (w64 (by omega)) (asI rfl rfl rfl (w_nil (then_n (wp_seq (c_reg ?_)))))))))
 refine mvI rfl rfl rfl (s_gtr rfl rfl rfl rfl rfl rfl (w_nil (then_n ?_)))
 refine c_if rfl rfl ?_ ?_
 ·intro ht16
  (try simp only [Q1, Q2, Q3, Q4, Q5] at ht16)
  refine c_reg (s_mv (v := .slice none 0 0) rfl rfl rfl (s_mv (v := .slice none 0 0) rfl rfl rfl (s_cap Tryz.underlying38 rfl rfl rfl (s_slH (hi := 0) el38 rfl rfl rfl rfl rfl (by omega) (by omega) (mvI rfl rfl rfl (s_appZ (k0 := k) el38 Tryz.underlying3 rfl rfl rfl rfl (iv (by omega)) (by omega) hk ?_))))))
  intro b22 w1 cp cs eb22 o22 hcl hkc hcm k22
  have gb22 : W.heap.size ≤ b22 := by have := K.size; omega
  replace K := K.transN k22
  refine s_mv (v := .slice none 0 0) rfl rfl rfl (s_lenL Tryz.underlying38 rfl rfl rfl (s_slH (hi := 0) el38 rfl rfl rfl rfl rfl rfl (by omega) ?_))
  rw [part0]
  refine s_as (v := .slice (some ⟨b22, 0, none⟩) 0 cp) rfl rfl rfl ?_
  refine w_nil (then_n (wp_seq (c_reg ?_)))
  refine s_mv (v := .slice (some ⟨b22, 0, none⟩) 0 cp) rfl rfl rfl ?_
  refine s_as (v := .slice (some ⟨b22, 0, none⟩) 0 cp) rfl rfl rfl ?_
  refine w_nil (then_n (wp_ret ?_))
  refine ret1 (t := 4) (v := .slice (some ⟨b22, 0, none⟩) 0 cp) rfl rfl rfl ⟨_, some b22, rfl, ⟨by simp [bc, Lib.byteCells], .inr ⟨b22, cp, cs.toArray, rfl, rfl, o22, by simp, hcm, by simp [hcl], by simp [bc, Lib.byteCells]⟩⟩, (fun b h => by cases h; exact gb22), K⟩
 ·intro ht16
  (try simp only [Q1, Q2, Q3, Q4, Q5] at ht16)
  refine wp_skip (then_n (wp_seq (c_reg (s_mv (v := .slice none 0 0) rfl rfl rfl (s_as (v := .slice none 0 0) rfl rfl rfl (w_nil (then_n (wp_ret ?_))))))))
  refine ret1 (t := 4) (v := .slice none 0 0) rfl rfl rfl ⟨_, none, rfl, BRow.nil _, (fun b h => by cases h), K⟩
theorem fm_succ {α β : Type} (L : List α) (f : α → List β) {k : Nat} (h : k < L.length) : (L.take (k + 1)).flatMap f = (L.take k).flatMap f ++ f L[k] := by
 rw [List.take_succ_eq_append_getElem h, List.flatMap_append, List.flatMap_singleton]
theorem fm_le {α β : Type} (L : List α) (f : α → List β) (k : Nat) : ((L.take k).flatMap f).length ≤ (L.flatMap f).length := by
 conv => rhs; rw [← List.take_append_drop k L]
 rw [List.flatMap_append, List.length_append]; omega
theorem New.row {W w w' : World} {r : Option Nat} (K : New W w) (h : ∀ b, r = some b → W.heap.size ≤ b) (k : Kp (fun k => some k = r) w w') : New W w' :=
 K.trans' k (fun i hi e => by have := h i e.symm; omega)
theorem row_fresh {B : Nat} {w : World} {r r' : Option Nat} (h : ∀ b, r = some b → B ≤ b) (hB : B ≤ w.heap.size) (hr : r' = r ∨ r' = some w.heap.size) : ∀ b, r' = some b → B ≤ b := by
 intro b hb
 rcases hr with e | e
 ·exact h b (e ▸ hb)
 ·have := Option.some.inj (e.symm.trans hb); omega
theorem c30 {G : Nat → Prop} (p : Addr) (cap : Nat) (L : List (Value × List UInt8)) (w : World) (hc : CellsAt w p (L.map (·.1))) (hL : ∀ x ∈ L, RBytes G w x.1 x.2) (hs : (L.flatMap (·.2)).length ≤ 1000000) (hl : L.length ≤ 1000) : Calls Tryz.prog 30 #[.slice (some p) L.length cap] w fun e w' => ∃ v r, e = .returned v ∧ BRow w' v (L.flatMap (·.2)) r ∧ (∀ b, r = some b → w.heap.size ≤ b) ∧ New w w' := by
 obtain ⟨W, hW⟩ : ∃ W, W = w := ⟨_, rfl⟩
 have hc0 := hc; clear hc; have hc := hc0; clear hc0
 subst hW
 have K : New W W := Kp.refl _ _
 refine enter (n := 36) Tryz.func30 rfl rfl (by simp) ?_
 refine wp_seq (c_reg (s_as (v := .slice _ _ _) rfl rfl rfl (w_nil (then_n (wp_seq (c_reg (asI rfl rfl rfl (w_nil (then_n ?_)))))))))
 refine wp_seq (wp_seq (c_reg (s_mv (v := .slice (some p) L.length cap) rfl rfl rfl (s_lenL Tryz.underlying100 rfl rfl rfl (mvI rfl rfl rfl (w_nil (then_n (wp_block ?_))))))))
 refine c_loop (fun m f w => ∃ g k, m = L.length - k ∧ k ≤ L.length ∧ f = (upd (upd (upd (upd (upd g 0 (.slice (some p) L.length cap)) 3 (.int .i64 (((L.take k).flatMap (·.2)).length : Nat))) 9 (.slice (some p) L.length cap)) 10 (.int .i64 (L.length : Nat))) 11 (.int .i64 (k : Nat))) ∧ New W w) (L.length) ⟨_, 0, by omega, by omega, (upd_keep' (upd_keep' (upd_keep' (upd_keep' (upd_keep' rfl rfl) rfl) rfl) rfl) rfl), K⟩ ?_
 clear K
 rintro m _ w0 ⟨g, k, rfl, hk, rfl, K⟩
 have hK0 := K.size
 refine wp_seq (c_reg (s_lss rfl rfl rfl rfl rfl rfl (w_nil (then_n (wp_seq ?_)))))
 refine c_if rfl rfl ?_ ?_
 ·intro ht12
  (try simp only [Q1, Q2, Q3, Q4, Q5] at ht12)
  have hlt : k < L.length := by omega
  obtain ⟨Ak, ck, hvk, hck, hAk⟩ := hL _ (List.getElem_mem hlt)
  have hld : W.cell? (p.add (k * 1)) = some (.slice Ak L[k].2.length ck) := by rw [← hvk, Nat.mul_one]; exact hc k _ (by simp [hlt])
  have hsm := fm_succ L (·.2) hlt
  have hsl : ((L.take (k + 1)).flatMap (·.2)).length = ((L.take k).flatMap (·.2)).length + L[k].2.length := by rw [hsm, List.length_append]
  have hle := fm_le L (·.2) (k + 1)
  refine wp_skip (then_n (wp_seq (wp_block (wp_seq (c_reg (s_iaE el100 rfl rfl rfl rfl rfl rfl (by omega) (s_ld1 (v := .slice Ak L[k].2.length ck) on38 rfl rfl rfl (K.cell hld (fun e => e)) (s_as (v := .slice Ak L[k].2.length ck) rfl rfl rfl (w_nil ?_)))))))))
  refine then_n (wp_seq (c_reg (mvI rfl rfl rfl (s_mv (v := .slice Ak L[k].2.length ck) rfl rfl rfl (s_lenL Tryz.underlying38 rfl rfl rfl (s_add rfl rfl rfl rfl rfl (w64 (by omega)) (asI rfl rfl rfl (w_nil (then_n ?_)))))))))
  refine wp_seq (c_reg (mvI rfl rfl rfl (s_lss rfl rfl rfl rfl rfl (decide_eq_false (by omega)) (w_nil (then_n (c_F rfl rfl (wp_skip (inb_n (then_n ?_)))))))))
  refine c_reg (s_add rfl rfl rfl rfl rfl (w64 (by omega)) (mvI rfl rfl rfl (w_nil (then_n ?_))))
  exact ⟨L.length - (k + 1), _, by omega, rfl, _, k + 1, rfl, by omega, (upd_keep' (upd_keep' (upd_keep' (upd_keep' (upd_keep' rfl rfl) (iv (by omega))) rfl) rfl) rfl), K⟩
 ·intro ht12
  (try simp only [Q1, Q2, Q3, Q4, Q5] at ht12)
  refine wp_exit (then_x (then_x (inb_x (then_n (wp_seq (c_reg (mvI rfl rfl rfl ?_)))))))
  refine s_call2 go65 rfl (c65 _ _ (by have := fm_le L (·.2) k; omega)) rfl rfl rfl rfl ?_
  rintro _ w1 ⟨vn, rn, rfl, hrow, hge, kw1⟩
  replace K := K.transN kw1
  refine ⟨_, rfl, ?_⟩
  refine s_as (v := vn) rfl rfl rfl (w_nil (then_n (wp_seq (wp_seq (c_reg (s_mv (v := .slice (some p) L.length cap) rfl rfl rfl (s_lenL Tryz.underlying100 rfl rfl rfl (mvI rfl rfl rfl (w_nil ?_)))))))))
  refine then_n (wp_block ?_)
  refine c_loop (fun m f w => ∃ g k vn rn, m = L.length - k ∧ k ≤ L.length ∧ f = (upd (upd (upd (upd (upd g 0 (.slice (some p) L.length cap)) 6 (vn)) 25 (.slice (some p) L.length cap)) 26 (.int .i64 (L.length : Nat))) 27 (.int .i64 (k : Nat))) ∧ BRow w vn ((L.take k).flatMap (·.2)) rn ∧ (∀ b, rn = some b → W.heap.size ≤ b) ∧ New W w) (L.length) ⟨_, 0, vn, rn, by omega, by omega, (upd_keep' (upd_keep' (upd_keep' (upd_keep' (upd_keep' rfl rfl) rfl) rfl) rfl) rfl), (by simpa using hrow), (fun b hb => Nat.le_trans hK0 (hge b hb)), K⟩ ?_
  clear K hrow hge
  clear rn vn
  rintro m _ w0 ⟨g, k, vn, rn, rfl, hk, rfl, hrow, hge, K⟩
  refine wp_seq (c_reg (s_lss rfl rfl rfl rfl rfl rfl (w_nil (then_n (wp_seq ?_)))))
  refine c_if rfl rfl ?_ ?_
  ·intro ht28
   (try simp only [Q1, Q2, Q3, Q4, Q5] at ht28)
   have hlt : k < L.length := by omega
   obtain ⟨Ak, ck, hvk, hck, hAk⟩ := hL _ (List.getElem_mem hlt)
   have hld : W.cell? (p.add (k * 1)) = some (.slice Ak L[k].2.length ck) := by rw [← hvk, Nat.mul_one]; exact hc k _ (by simp [hlt])
   have hsm := fm_succ L (·.2) hlt
   have hsl : ((L.take (k + 1)).flatMap (·.2)).length = ((L.take k).flatMap (·.2)).length + L[k].2.length := by rw [hsm, List.length_append]
   have hle := fm_le L (·.2) (k + 1)
   refine wp_skip (then_n (wp_seq (wp_block (wp_seq (c_reg (s_iaE el100 rfl rfl rfl rfl rfl rfl (by omega) (s_ld1 (v := .slice Ak L[k].2.length ck) on38 rfl rfl rfl (K.cell hld (fun e => e)) (s_as (v := .slice Ak L[k].2.length ck) rfl rfl rfl (w_nil ?_)))))))))
   refine then_n (c_reg (s_mv (v := vn) rfl rfl rfl (s_mv (v := .slice Ak L[k].2.length ck) rfl rfl rfl (s_appB el38 rfl rfl rfl rfl rfl hrow (show RBytes _ _ (.slice Ak L[k].2.length ck) L[k].2 from hvk ▸ (hL _ (List.getElem_mem hlt)).kp K (fun _ _ _ e => e)) (by omega) ?_))))
   intro vz wA rz rowz kA hrz
   have hKz := K.size
   have hgz := row_fresh hge hKz hrz
   replace K := New.row K hge kA
   refine s_as (v := vz) rfl rfl rfl (w_nil (inb_n (then_n (c_reg (s_add rfl rfl rfl rfl rfl (w64 (by omega)) (mvI rfl rfl rfl (w_nil (then_n ?_))))))))
   exact ⟨L.length - (k + 1), _, by omega, rfl, _, k + 1, vz, rz, rfl, by omega, (upd_keep' (upd_keep' (upd_keep' (upd_keep' (upd_keep' rfl rfl) rfl) rfl) rfl) rfl), (by rw [hsm]; exact rowz), hgz, K⟩
  ·intro ht28
   (try simp only [Q1, Q2, Q3, Q4, Q5] at ht28)
   refine wp_exit (then_x (then_x (inb_x (then_n (wp_seq (c_reg (s_mv (v := vn) rfl rfl rfl (s_as (v := vn) rfl rfl rfl (w_nil ?_)))))))))
   refine then_n (wp_ret ?_)
   obtain rfl : k = L.length := by omega
   rw [List.take_length] at hrow
   refine ret1 (t := 2) (v := vn) rfl rfl rfl ⟨_, rn, rfl, hrow, hge, K⟩
theorem c34 {G : Nat → Prop} (A : Option Addr) (cap : Nat) (s : List UInt8) (w : World) (hv : RBytes G w (.slice A s.length cap) s) (hs : s.length ≤ 1000000) : Calls Tryz.prog 34 #[.slice A s.length cap] w fun e w' => ∃ v r, e = .returned v ∧ BRow w' v s r ∧ (∀ b, r = some b → w.heap.size ≤ b) ∧ New w w' := by
 obtain ⟨W, hW⟩ : ∃ W, W = w := ⟨_, rfl⟩
 subst hW
 have K : New W W := Kp.refl _ _
 refine enter (n := 8) Tryz.func34 rfl rfl (by simp) ?_
 refine wp_seq (c_reg (s_as (v := .slice _ _ _) rfl rfl rfl (w_nil (then_n (wp_seq (wp_seq (c_reg (s_mv (v := .slice A s.length cap) rfl rfl rfl (s_eqnil Tryz.underlying38 rfl rfl rfl rfl rfl rfl ?_)))))))))
 refine w_nil (then_n ?_)
 refine c_if rfl rfl ?_ ?_
 ·intro ht4
  (try simp only [Q1, Q2, Q3, Q4, Q5] at ht4)
  refine wp_seq (c_reg (s_as (v := .slice _ _ _) rfl rfl rfl (w_nil (then_n (wp_ret (then_r ?_))))))
  refine ret1 (t := 2) (v := .slice none 0 0) rfl rfl rfl ⟨_, none, rfl, ?_, (fun b h => by cases h), K⟩
  cases A with
  | some a => simp at ht4
  | none =>
   have : s = [] := by
    cases s with
    | nil => rfl
    | cons u s => obtain ⟨_, _, e, _, hA⟩ := hv; cases e; obtain ⟨q, hq, _⟩ := hA.2 0 u rfl; cases hq
   subst this; exact BRow.nil _
 ·intro ht4
  (try simp only [Q1, Q2, Q3, Q4, Q5] at ht4)
  refine wp_skip (then_n (wp_seq (c_reg (s_bs0 el38 rfl ?_))))
  intro b5 w1 eb5 r5 k5 z5q
  have gb5 : W.heap.size ≤ b5 := by have := K.size; omega
  replace K := K.transN k5
  refine s_mv (v := .slice A s.length cap) rfl rfl rfl ?_
  refine s_appB (s := []) (t := s) el38 rfl rfl rfl rfl rfl r5 (hv.kp K (fun _ _ _ e => e)) (by simp; omega) ?_
  intro vz wA rz rowz kA hrz
  have hKz := K.size
  have hgz := row_fresh (B := W.heap.size) (fun b h => by cases h; exact gb5) hKz hrz
  replace K := New.row K (fun b h => by cases h; exact gb5) kA
  refine s_as (v := vz) rfl rfl rfl (w_nil (then_n (wp_ret ?_)))
  refine ret1 (t := 2) (v := vz) rfl rfl rfl ⟨_, rz, rfl, rowz, hgz, K⟩
theorem c33 {G G2 : Nat → Prop} (v1 v2 : Value) (s t : List UInt8) (w : World) (h1 : RBytes G w v1 s) (h2 : RBytes G2 w v2 t) : Calls Tryz.prog 33 #[v1, v2] w fun e w' => e = .returned (.bool (decide ((⟨s.toArray⟩ : ByteArray) = ⟨t.toArray⟩))) ∧ New w w' := by
 obtain ⟨W, hW⟩ : ∃ W, W = w := ⟨_, rfl⟩
 subst hW
 have K : New W W := Kp.refl _ _
 refine enter (n := 10) Tryz.func33 rfl rfl (by simp) ?_
 refine wp_seq (c_reg (asB rfl rfl rfl (w_nil (then_n (wp_seq (c_reg (s_mv (v := v1) rfl rfl rfl (s_cvBS Tryz.underlying38 Tryz.underlying5 Tryz.underlying9 rfl rfl rfl (h1.kp K (fun _ _ _ e => e)) (s_mv (v := v2) rfl rfl rfl ?_)))))))))
 refine s_cvBS Tryz.underlying38 Tryz.underlying5 Tryz.underlying9 rfl rfl rfl (h2.kp K (fun _ _ _ e => e)) (s_seq rfl rfl rfl rfl rfl rfl (asB rfl rfl rfl (w_nil (then_n (wp_ret ?_)))))
 refine ret1 (t := 4) (v := .bool _) rfl rfl rfl ⟨rfl, K⟩
end
section
theorem tl_len (s : ByteArray) : s.data.toList.length = s.size := Array.length_toList
theorem u8v {x : Int} (h : 0 ≤ x ∧ x ≤ 255) : ((UInt8.ofNat x.toNat).toNat : Int) = x := by simp; omega
theorem bc2 {a b : Int} (ha : 0 ≤ a ∧ a ≤ 255) (hb : 0 ≤ b ∧ b ≤ 255) : bc [UInt8.ofNat a.toNat, UInt8.ofNat b.toNat] = [.int .u8 a, .int .u8 b] := by
  simp only [bc, Lib.byteCells, List.map_cons, List.map_nil, u8v ha, u8v hb]
theorem bc2' {b : Int} (hb : 0 ≤ b ∧ b ≤ 255) : bc [31, UInt8.ofNat b.toNat] = [.int .u8 31, .int .u8 b] := by
  simp only [bc, Lib.byteCells, List.map_cons, List.map_nil, u8v hb]; rfl
theorem cd_le {c : Int} (h : cd c = true) : 48 ≤ c ∧ c ≤ 122 := by
  simp only [cd, dg, sm, Bool.or_eq_true, Bool.and_eq_true, decide_eq_true_eq] at h; omega
theorem ind_le {c : Int} (h : ind c = true) : 32 ≤ c ∧ c ≤ 122 := by
  simp only [ind, Bool.or_eq_true, decide_eq_true_eq] at h
  rcases h with h | h
  · omega
  · have := cd_le h; omega
theorem tag_len {t : ByteArray} (h : VTag t) : t.data.toList.length = 3 ∧ t.size = 3 := by
  obtain ⟨a, b, c, rfl, _⟩ := h; exact ⟨rfl, rfl⟩
theorem sdat_len (s : Sub) : (sdat s).length = 2 + s.value.size := by
  unfold sdat; rw [List.length_append, tl_len]; rfl
theorem subs_len {l : List Sub} (h : ∀ s ∈ l, VSub VText s) : (l.flatMap sdat).length ≤ 402 * l.length := by
  induction l with
  | nil => simp
  | cons a l ih =>
    have h1 := ih fun s hs => h s (by simp [hs])
    have h2 := (h a (by simp)).2.2.1
    rw [List.flatMap_cons, List.length_append, sdat_len, List.length_cons]; omega
theorem fdat_len (f : Fld) : (fdat f).length = 3 + (f.subs.flatMap sdat).length := by simp [fdat]; omega
theorem fdat_le {f : Fld} (h : VFld VText f) : (fdat f).length ≤ 8043 := by
  have h1 := subs_len h.2.2.2.2.2
  have h2 := h.2.2.2.2.1
  rw [fdat_len]; omega
theorem wdat_le {l : List Fld} (h : ∀ f ∈ l, VFld VText f) : (wdat l).length ≤ 8043 * l.length := by
  induction l with
  | nil => simp [wdat]
  | cons a l ih =>
    have h1 := ih fun s hs => h s (by simp [hs])
    have h2 := fdat_le (h a (by simp))
    simp only [wdat, List.flatMap_cons, List.length_append, List.length_cons] at h1 ⊢; omega
theorem wdir_len {l : List Fld} (h : ∀ f ∈ l, VFld VText f) : ∀ k, (wdir k l).length = 14 * l.length := by
  induction l with
  | nil => intro k; rfl
  | cons a l ih =>
    intro k
    have h1 := ih (fun s hs => h s (by simp [hs])) (k + (fdat a).length)
    have h2 := (tag_len (h a (by simp)).1).1
    simp only [wdir, List.length_append, digs_len, List.length_cons, h1, h2]; omega
theorem take_all {α : Type} {p : α → Prop} {l : List α} (h : ∀ x ∈ l, p x) (k : Nat) : ∀ x ∈ l.take k, p x := fun x hx => h x (List.mem_of_mem_take hx)
theorem rb_own {w : World} {b : Nat} {s : List UInt8} (h : Own w b 5 (bc s)) (hs : s.length ≤ 1000000) : RBytes (fun i => i = b) w (.slice (some ⟨b, 0, none⟩) s.length s.length) s := by
  refine ⟨_, _, rfl, Nat.le_refl _, by unfold big; omega, fun i u hu => ⟨_, rfl, rfl, ?_⟩⟩
  exact h.cells i _ (bc_get hu)
theorem BRow.lt {w : World} {v : Value} {s : List UInt8} {g : Option Nat} (h : BRow w v s g) : ∀ b, g = some b → b < w.heap.size := Row.lt h
theorem BRow.shape {w : World} {v : Value} {s : List UInt8} {g : Option Nat} (h : BRow w v s g) : ∃ A cap, v = .slice A s.length cap := by
  obtain ⟨A, cap, hv, _⟩ := Row.shape h; exact ⟨A, cap, hv⟩
end
section
theorem c12 {G : Nat → Prop} (id : Int) (A : Option Addr) (cap : Nat) (l : List Fld) (w : World) (hT : Tb w) (hA : FldsAt G w A l) (hv : VRec VText id l) : Calls Tryz.prog 12 #[.agg #[.int .i64 id, .slice A l.length cap]] w fun e w' => ∃ v r, e = .returned (.tuple #[v, .int .i64 0]) ∧ BRow w' v (wex id.toNat l) r ∧ (∀ b, r = some b → w.heap.size ≤ b) ∧ New w w' := by
 obtain ⟨W, hW⟩ : ∃ W, W = w := ⟨_, rfl⟩
 subst hW
 have K : New W W := Kp.refl _ _
 have hv0 := hv
 obtain ⟨hv1, hv2, hv3, hv4, hv5⟩ := hv0
 refine enter (n := 91) Tryz.func12 rfl rfl (by simp) ?_
 refine wp_seq (c_reg (s_box (cs := [.int .i64 id, .slice A l.length cap]) rfl rfl rfl rfl ?_))
 intro b1 w1 eb1 o1 kb1 zb1
 have gb1 : W.heap.size ≤ b1 := by omega
 replace K := K.transN kb1
 obtain ⟨B1, hB1⟩ : ∃ B1, B1 = w1.heap.size := ⟨_, rfl⟩
 have hb1 : B1 = b1 + 1 := by omega
 have hB1w : B1 ≤ w1.heap.size := by omega
 refine s_as (v := .slice _ _ _) rfl rfl rfl (asI rfl rfl rfl (w_nil (then_n (wp_seq (wp_seq (c_reg (s_ldA ag24 rfl rfl rfl o1.cells rfl (s_call1 go20 rfl (c20 VText c63c G id A cap l _ (hT.kp K (fun _ _ _ e => e)) (hA.kp K (fun _ _ _ e => e)) hv) rfl rfl ?_))))))))
 rintro _ w2 ⟨rfl, kw2⟩
 replace o1 := o1.kp kw2 (fun e => e)
 replace K := K.transN kw2
 refine ⟨_, rfl, ?_⟩
 refine s_not rfl rfl rfl (w_nil (then_n (c_F rfl rfl (wp_skip (then_n (wp_seq (c_reg (s_as (v := .slice _ _ _) rfl rfl rfl (s_as (v := .slice _ _ _) rfl rfl rfl ?_)))))))))
 refine w_nil (then_n (wp_seq (wp_seq (c_reg (s_fa fi24_1 rfl rfl rfl (s_ld1 (v := .slice _ _ _) on22 rfl rfl rfl (o1.get 1 rfl) (s_lenL Tryz.underlying22 rfl rfl rfl (mvI rfl rfl rfl (w_nil ?_)))))))))
 refine then_n (wp_block ?_)
 have kz9 := K.size
 refine c_loop (fun m f w => ∃ g k vd va rd ra, m = l.length - k ∧ k ≤ l.length ∧ f = (upd (upd (upd (upd (upd (upd g 1 (.pointer (some ⟨b1, 0, none⟩))) 4 (vd)) 5 (va)) 17 (.slice A l.length cap)) 18 (.int .i64 (l.length : Nat))) 19 (.int .i64 (k : Nat))) ∧ BRow w vd (wdir 0 (l.take k)) rd ∧ BRow w va (wdat (l.take k)) ra ∧ (∀ b, rd = some b → B1 ≤ b) ∧ (∀ b, ra = some b → B1 ≤ b) ∧ (∀ b, rd = some b → ra ≠ some b) ∧ Own w b1 24 [.int .i64 id, .slice A l.length cap] ∧ B1 ≤ w.heap.size ∧ New W w) (l.length) ⟨_, 0, _, _, none, none, by omega, by omega, (upd_keep' (upd_keep' (upd_keep' (upd_keep' (upd_keep' (upd_keep' rfl rfl) rfl) rfl) rfl) rfl) rfl), BRow.nil _, BRow.nil _, (fun b h => by cases h), (fun b h => by cases h), (fun b h => by cases h), o1, (by have := o1.lt; omega), K⟩ ?_
 clear K o1
 rintro m _ w0 ⟨g, k, vd, va, rd, ra, rfl, hk, rfl, hd, ha, hgD, hgA, hda, o1, hBw, K⟩
 obtain ⟨Aa, ca, rfl⟩ := ha.shape
 have ltA := ha.lt
 have ltD := hd.lt
 have hdl := wdir_len (take_all hv5 k) 0
 have hal := wdat_le (take_all hv5 k)
 rw [List.length_take] at hdl hal
 have kz0 : New w0 w0 := Kp.refl _ _
 refine wp_seq (c_reg (s_lss rfl rfl rfl rfl rfl rfl (w_nil (then_n (wp_seq ?_)))))
 refine c_if rfl rfl ?_ ?_
 ·intro ht20
  (try simp only [Q1, Q2, Q3, Q4, Q5] at ht20)
  have hlt : k < l.length := by omega
  obtain ⟨p, vs, hpA, _, hp, hs0⟩ := hA.2 k _ (List.getElem?_eq_getElem hlt)
  subst hpA
  obtain ⟨As, cs, rfl, hs⟩ := hs0
  have hvk := hv5 _ (List.getElem_mem hlt)
  have hi0 := ind_le hvk.2.1
  have hi1 := ind_le hvk.2.2.1
  refine wp_skip (then_n (wp_seq (wp_block (wp_seq (c_reg (s_iaE el22 rfl rfl rfl rfl rfl rfl (by omega) (s_ldA ag53 rfl rfl rfl (hp.kp K (fun e => e)) rfl (s_alloc z53 rfl rfl ?_))))))))
  intro b7 w3 eb7 o7 kb7 zb7
  have gb7_K : W.heap.size ≤ b7 := by have := K.size; omega
  have gb7_kz0 : w0.heap.size ≤ b7 := by have := kz0.size; omega
  replace o1 := o1.kp kb7 (fun e => e)
  replace K := K.transN kb7
  replace kz0 := kz0.transN kb7
  replace hd := hd.kp kb7 (fun _ _ e => e)
  replace ha := ha.kp kb7 (fun _ _ e => e)
  refine s_st 0 sz53 (v := .agg _) rfl rfl rfl rfl rfl rfl rfl o7 rfl rfl rfl ?_
  clear o7; intro w4 o7 ksw4 zsw4
  replace o1 := o1.kp ksw4 (show ¬ (_ = _) by omega)
  replace K := K.trans' ksw4 (fun i hi (e : i = b7) => by omega)
  replace kz0 := kz0.trans' ksw4 (fun i hi (e : i = b7) => by omega)
  replace hd := hd.kp ksw4 (fun b hb (e : b = b7) => by first | (have := ltD b hb; omega) | (have := ltD2 b hb; omega))
  replace ha := ha.kp ksw4 (fun b hb (e : b = b7) => by have := ltA b hb; omega)
  refine w_nil (then_n (wp_seq (c_reg (s_mv (v := .slice Aa (wdat (l.take k)).length ca) rfl rfl rfl (s_lenL Tryz.underlying38 rfl rfl rfl (asI rfl rfl rfl (w_nil (then_n (wp_seq ?_)))))))))
  refine c_reg (s_mv (v := .slice Aa (wdat (l.take k)).length ca) rfl rfl rfl (s_fa fi53_1 rfl rfl rfl (s_iaA (j := 0) Tryz.underlying48 sz5 rfl rfl rfl rfl rfl rfl (by decide) ?_)))
  refine s_ld1 (v := .int .u8 _) on5 rfl rfl rfl (by rw [add_add]; exact o7.get 1 rfl) ?_
  refine s_fa fi53_1 rfl rfl rfl (s_iaA (j := 1) Tryz.underlying48 sz5 rfl rfl rfl rfl rfl rfl (by decide) ?_)
  refine s_ld1 (v := .int .u8 _) on5 rfl rfl rfl (by rw [add_add]; exact o7.get 2 rfl) ?_
  refine s_bs2 (v0 := .int .u8 l[k].i0) (v1 := .int .u8 l[k].i1) el38 rfl rfl rfl rfl rfl rfl rfl ?_
  intro b32 w5 eb32 o32 kb32 zb32
  have gb32_K : W.heap.size ≤ b32 := by have := K.size; omega
  have gb32_kz0 : w0.heap.size ≤ b32 := by have := kz0.size; omega
  replace o1 := o1.kp kb32 (fun e => e)
  replace o7 := o7.kp kb32 (fun e => e)
  replace K := K.transN kb32
  replace kz0 := kz0.transN kb32
  replace hd := hd.kp kb32 (fun _ _ e => e)
  replace ha := ha.kp kb32 (fun _ _ e => e)
  rw [← bc2 (a := l[k].i0) (b := l[k].i1) (by omega) (by omega)] at o32
  refine s_appB el38 rfl rfl rfl rfl rfl ha (rb_own (s := [UInt8.ofNat l[k].i0.toNat, UInt8.ofNat l[k].i1.toNat]) o32 (by simp)) (by simp; omega) ?_
  intro vx wA rx hx kA hrx
  have hga := hgA
  have hgx := row_fresh hgA (show B1 ≤ _ by have := kz0.size; omega) hrx
  have hx7 : rx ≠ some b7 := by intro e; rcases hrx with h | h; (have := ltA b7 (h ▸ e); omega); (have := Option.some.inj (h.symm.trans e); omega)
  have hdx : ∀ b, rd = some b → rx ≠ some b := by intro b hb e; rcases hrx with h | h; (exact hda b hb (h ▸ e)); (have := ltD b hb; have := Option.some.inj (h.symm.trans e); have := kz0.size; omega)
  replace o1 := o1.kp kA (fun e => by have := hgA b1 e.symm; omega)
  replace o7 := o7.kp kA (fun e => by have := ltA b7 e.symm; omega)
  replace hd := hd.kp kA (fun b hb e => hda b hb e.symm)
  replace K := New.row K (fun b hb => by have := hgA b hb; omega) kA
  refine s_as (v := vx) rfl rfl rfl (w_nil (then_n (wp_seq (wp_seq (c_reg (s_fa fi53_2 rfl rfl rfl (s_ld1 (v := .slice As l[k].subs.length cs) on51 rfl rfl rfl (o7.get 3 rfl) (s_lenL Tryz.underlying51 rfl rfl rfl (mvI rfl rfl rfl ?_)))))))))
  refine w_nil (then_n (wp_block ?_))
  refine c_loop (fun m f w => ∃ g j vx rx, m = l[k].subs.length - j ∧ j ≤ l[k].subs.length ∧ f = (upd (upd (upd (upd (upd (upd (upd (upd (upd (upd (upd g 1 (.pointer (some ⟨b1, 0, none⟩))) 4 (vd)) 5 (vx)) 7 (.pointer (some ⟨b7, 0, none⟩))) 8 (.int .i64 ((wdat (l.take k)).length : Nat))) 17 (.slice (some p) l.length cap)) 18 (.int .i64 (l.length : Nat))) 19 (.int .i64 (k : Nat))) 35 (.slice As l[k].subs.length cs)) 36 (.int .i64 (l[k].subs.length : Nat))) 37 (.int .i64 (j : Nat))) ∧ BRow w vd (wdir 0 (l.take k)) rd ∧ BRow w vx (wdat (l.take k) ++ [UInt8.ofNat l[k].i0.toNat, UInt8.ofNat l[k].i1.toNat] ++ (l[k].subs.take j).flatMap sdat) rx ∧ (∀ b, rx = some b → B1 ≤ b) ∧ (∀ b, rd = some b → rx ≠ some b) ∧ rx ≠ some b7 ∧ Own w b1 24 [.int .i64 id, .slice (some p) l.length cap] ∧ Own w b7 53 [.string l[k].tag, .int .u8 l[k].i0, .int .u8 l[k].i1, .slice As l[k].subs.length cs] ∧ New W w) (l[k].subs.length) ⟨_, 0, vx, rx, by omega, by omega, (upd_keep' (upd_keep' (upd_keep' (upd_keep' (upd_keep' (upd_keep' (upd_keep' (upd_keep' (upd_keep' (upd_keep' (upd_keep' rfl rfl) rfl) rfl) rfl) rfl) rfl) rfl) rfl) rfl) rfl) rfl), hd, (by simpa using hx), hgx, hdx, hx7, o1, o7, K⟩ ?_
  clear K hd hx hgx hx7 hdx o1 o7 hrx kA
  rintro m _ w2 ⟨g, j, vx, rx, rfl, hj, rfl, hd, hx, hgx, hdx, hx7, o1, o7, K⟩
  have ltX := hx.lt
  have ltD2 := hd.lt
  have hb7l := o7.lt
  have kz2 : New w2 w2 := Kp.refl _ _
  refine wp_seq (c_reg (s_lss rfl rfl rfl rfl rfl rfl (w_nil (then_n (wp_seq ?_)))))
  refine c_if rfl rfl ?_ ?_
  ·intro ht38
   (try simp only [Q1, Q2, Q3, Q4, Q5] at ht38)
   have hjt : j < l[k].subs.length := by omega
   obtain ⟨q, hqA, _, hq⟩ := hs.2 j _ (List.getElem?_eq_getElem hjt)
   subst hqA
   obtain ⟨sb, hsb⟩ : ∃ sb, sb = l[k].subs[j] := ⟨_, rfl⟩
   rw [← hsb] at hq
   obtain ⟨vs1, vs2⟩ := hvk.2.2.2.2.2 _ (List.getElem_mem hjt)
   rw [← hsb] at vs1 vs2
   have hcd := cd_le vs1
   have hsj := subs_len (take_all hvk.2.2.2.2.2 j)
   rw [List.length_take] at hsj
   have hsub20 := hvk.2.2.2.2.1
   have hlx : (wdat (l.take k) ++ [UInt8.ofNat l[k].i0.toNat, UInt8.ofNat l[k].i1.toNat] ++ (l[k].subs.take j).flatMap sdat).length ≤ 500000 := by simp only [List.length_append, List.length_cons, List.length_nil]; omega
   have hvt := vs2.2.1
   refine wp_skip (then_n (wp_seq (wp_block (wp_seq (c_reg (s_iaE el51 rfl rfl rfl rfl rfl rfl (by omega) (s_ldA ag50 rfl rfl rfl (hq.kp K (fun e => e)) rfl (s_alloc z50 rfl rfl ?_))))))))
   intro b10 w6 eb10 o10 kb10 zb10
   have gb10_K : W.heap.size ≤ b10 := by have := K.size; omega
   have gb10_kz2 : w2.heap.size ≤ b10 := by have := kz2.size; omega
   replace o1 := o1.kp kb10 (fun e => e)
   replace o7 := o7.kp kb10 (fun e => e)
   replace K := K.transN kb10
   replace kz2 := kz2.transN kb10
   replace hd := hd.kp kb10 (fun _ _ e => e)
   replace hx := hx.kp kb10 (fun _ _ e => e)
   refine s_st 0 sz50 (v := .agg _) rfl rfl rfl rfl rfl rfl rfl o10 rfl rfl rfl ?_
   clear o10; intro w7 o10 ksw7 zsw7
   replace o1 := o1.kp ksw7 (show ¬ (_ = _) by omega)
   replace o7 := o7.kp ksw7 (show ¬ (_ = _) by omega)
   replace K := K.trans' ksw7 (fun i hi (e : i = b10) => by omega)
   replace kz2 := kz2.trans' ksw7 (fun i hi (e : i = b10) => by omega)
   replace hd := hd.kp ksw7 (fun b hb (e : b = b10) => by first | (have := ltD b hb; omega) | (have := ltD2 b hb; omega))
   replace hx := hx.kp ksw7 (fun b hb (e : b = b10) => by have := ltX b hb; omega)
   refine w_nil (then_n ?_)
   have hx10 : rx ≠ some b10 := fun e => by have := ltX b10 e; have := kz2.size; omega
   have hb10 := o10.lt
   have kd : New w7 w7.drew := (Kp.refl _ _).drew
   have hdw : w7.drew.heap.size = w7.heap.size := rfl
   replace o1 := o1.kp kd (fun e => e)
   replace o7 := o7.kp kd (fun e => e)
   replace o10 := o10.kp kd (fun e => e)
   replace K := K.transN kd
   replace kz2 := kz2.transN kd
   replace hd := hd.kp kd (fun _ _ e => e)
   replace hx := hx.kp kd (fun _ _ e => e)
   have q_o10 := o10
   refine c_drawG (fun u => Kp (fun k => some k = rx) (w7.drew) u) [false, false, false, true, true, false, false, true, false] [[], [], [1], [2], [0, 3], [], [5], [3, 4, 6], [0, 7]] (fun i => i) (rank_back (by kernel_rfl)) rfl (by kernel_rfl) (Kp.refl _ _) ?_
   have kR : Kp (fun k => some k = rx) (w7.drew) (w7.drew) := Kp.refl _ _
   refine t_q rfl rfl rfl (fun u hF => s_mv (v := vx) rfl rfl rfl (w_nil ⟨rfl, rfl, rfl⟩)) ?_
   refine t_q rfl rfl rfl (fun u hF => s_fa fi50_0 rfl rfl rfl (w_nil ⟨rfl, rfl, rfl⟩)) ?_
   refine t_q rfl rfl rfl (fun u hF => s_ld1 (v := .int .u8 _) on5 rfl rfl rfl ((q_o10.kp hF (fun e => hx10 e.symm)).get 0 rfl) (w_nil ⟨rfl, rfl, rfl⟩)) ?_
   refine t_l rfl (s_bs2 (v0 := .int .u8 31) (v1 := .int .u8 sb.code) el38 rfl rfl rfl rfl rfl rfl rfl ?_)
   intro b44 w8 eb44 o44 k44 z44
   replace o1 := o1.kp k44 (fun e => e)
   replace o7 := o7.kp k44 (fun e => e)
   replace o10 := o10.kp k44 (fun e => e)
   replace K := K.transN k44
   replace kz2 := kz2.transN k44
   replace kR := kR.transN k44
   replace hd := hd.kp k44 (fun _ _ e => e)
   replace hx := hx.kp k44 (fun _ _ e => e)
   rw [← bc2' (b := sb.code) (by omega)] at o44
   have hk44 := k44.size
   have hkR1 := kR.size
   refine w_nil ⟨rfl, _, rfl, kR, ?_⟩
   refine t_l rfl ?_
   refine s_appB el38 rfl rfl rfl rfl rfl hx (rb_own (s := [31, UInt8.ofNat sb.code.toNat]) o44 (by simp)) (by simp [List.length_append] at hlx ⊢; omega) ?_
   intro vy wB ry hy kB hry
   have hwB := kB.size
   have hgy := row_fresh hgx (show B1 ≤ _ by omega) hry
   have hy7 : ry ≠ some b7 := by intro e; rcases hry with h | h; (exact hx7 (h ▸ e)); (have := Option.some.inj (h.symm.trans e); omega)
   have hy10 : ry ≠ some b10 := by intro e; rcases hry with h | h; (exact hx10 (h ▸ e)); (have := Option.some.inj (h.symm.trans e); omega)
   have hdy : ∀ b, rd = some b → ry ≠ some b := by intro b hb e; rcases hry with h | h; (exact hdx b hb (h ▸ e)); (have := ltD2 b hb; have := kz2.size; have := Option.some.inj (h.symm.trans e); omega)
   replace o1 := o1.kp kB (fun e => by have := hgx b1 e.symm; omega)
   replace o7 := o7.kp kB (fun e => hx7 e.symm)
   replace o10 := o10.kp kB (fun e => hx10 e.symm)
   replace hd := hd.kp kB (fun b hb e => hdx b hb e.symm)
   have ltY := hy.lt
   replace K := New.row K (fun b hb => by have := hgx b hb; omega) kB
   replace kR := kR.trans kB
   refine w_nil ⟨rfl, _, rfl, kR, ?_⟩
   refine t_q rfl rfl rfl (fun u hF => s_fa fi50_1 rfl rfl rfl (w_nil ⟨rfl, rfl, rfl⟩)) ?_
   refine t_q rfl rfl rfl (fun u hF => s_ld1 (v := .string _) on9 rfl rfl rfl ((q_o10.kp hF (fun e => hx10 e.symm)).get 1 rfl) (w_nil ⟨rfl, rfl, rfl⟩)) ?_
   refine t_l rfl ?_
   refine s_appBS el38 z5 Tryz.underlying9 rfl rfl rfl rfl rfl hy (by simp [List.length_append] at hlx ⊢; omega) ?_
   intro vz wC rz hz kC hrz
   have hwC := kC.size
   have hgz := row_fresh hgy (show B1 ≤ _ by omega) hrz
   have hz7 : rz ≠ some b7 := by intro e; rcases hrz with h | h; (exact hy7 (h ▸ e)); (have := Option.some.inj (h.symm.trans e); omega)
   have hdz : ∀ b, rd = some b → rz ≠ some b := by intro b hb e; rcases hrz with h | h; (exact hdy b hb (h ▸ e)); (have := ltD2 b hb; have := kz2.size; have := Option.some.inj (h.symm.trans e); omega)
   replace o1 := o1.kp kC (fun e => by have := hgy b1 e.symm; omega)
   replace o7 := o7.kp kC (fun e => hy7 e.symm)
   replace o10 := o10.kp kC (fun e => hy10 e.symm)
   replace hd := hd.kp kC (fun b hb e => hdy b hb e.symm)
   replace K := New.row K (fun b hb => by have := hgy b hb; omega) kC
   replace kR := kR.trans' kC (fun i hi e => by rcases hry with h | h; (exact h ▸ e); (have := Option.some.inj (e.trans h); omega))
   refine w_nil ⟨rfl, _, rfl, kR, ?_⟩
   refine t_q rfl rfl rfl (fun u hF => s_as (v := vz) rfl rfl rfl (w_nil ⟨rfl, rfl, rfl⟩)) ?_
   refine t_n (inb_n (then_n (c_reg (s_add rfl rfl rfl rfl rfl (w64 (by omega)) (mvI rfl rfl rfl (w_nil (then_n ?_)))))))
   exact ⟨l[k].subs.length - (j + 1), _, by omega, rfl, _, j + 1, vz, rz, rfl, by omega, (upd_keep' (upd_keep' (upd_keep' (upd_keep' (upd_keep' (upd_keep' (upd_keep' (upd_keep' (upd_keep' (upd_keep' (upd_keep' rfl rfl) rfl) rfl) rfl) rfl) rfl) rfl) rfl) rfl) rfl) rfl), hd, (by rw [fm_succ _ _ hjt, ← hsb]; simpa [sdat, List.append_assoc] using hz), hgz, hdz, hz7, o1, o7, K⟩
  ·intro ht38
   (try simp only [Q1, Q2, Q3, Q4, Q5] at ht38)
   have hsj := subs_len (take_all hvk.2.2.2.2.2 j)
   rw [List.length_take] at hsj
   have hsub20 := hvk.2.2.2.2.1
   have hlx : (wdat (l.take k) ++ [UInt8.ofNat l[k].i0.toNat, UInt8.ofNat l[k].i1.toNat] ++ (l[k].subs.take j).flatMap sdat).length ≤ 500000 := by simp only [List.length_append, List.length_cons, List.length_nil]; omega
   refine wp_exit (then_x (then_x (inb_x (then_n (wp_seq (c_reg (s_mv (v := vx) rfl rfl rfl (s_bs1E (cs := [.int .u8 30]) el38 rfl (by decide) rfl rfl rfl rfl ?_))))))))
   intro b51 w6 eb51 o51 kb51 zb51
   have gb51_K : W.heap.size ≤ b51 := by have := K.size; omega
   have gb51_kz2 : w2.heap.size ≤ b51 := by have := kz2.size; omega
   replace o1 := o1.kp kb51 (fun e => e)
   replace o7 := o7.kp kb51 (fun e => e)
   replace K := K.transN kb51
   replace kz2 := kz2.transN kb51
   replace hd := hd.kp kb51 (fun _ _ e => e)
   replace hx := hx.kp kb51 (fun _ _ e => e)
   refine s_appB el38 rfl rfl rfl rfl rfl hx (rb_own (s := [30]) (by simpa [bc, Lib.byteCells] using o51) (by simp)) (by simp [List.length_append] at hlx ⊢; omega) ?_
   intro ve we re he ke hre
   have hwe := ke.size
   have hge := row_fresh hgx (show B1 ≤ _ by omega) hre
   have hde : ∀ b, rd = some b → re ≠ some b := by intro b hb e; rcases hre with h | h; (exact hdx b hb (h ▸ e)); (have := ltD2 b hb; have := kz2.size; have := Option.some.inj (h.symm.trans e); omega)
   have hE : wdat (l.take k) ++ [UInt8.ofNat l[k].i0.toNat, UInt8.ofNat l[k].i1.toNat] ++ (l[k].subs.take j).flatMap sdat ++ [30] = wdat (l.take (k + 1)) := by rw [show j = l[k].subs.length by omega, List.take_length, List.take_succ_eq_append_getElem hlt, wdat_app]; simp [fdat]
   rw [hE] at he
   obtain ⟨Ae, ce, rfl⟩ := he.shape
   replace o1 := o1.kp ke (fun e => by have := hgx b1 e.symm; omega)
   replace o7 := o7.kp ke (fun e => hx7 e.symm)
   replace hd := hd.kp ke (fun b hb e => hdx b hb e.symm)
   replace K := New.row K (fun b hb => by have := hgx b hb; omega) ke
   have hwl : (wdat (l.take (k + 1))).length = (wdat (l.take k)).length + (fdat l[k]).length := by rw [List.take_succ_eq_append_getElem hlt, wdat_app, List.length_append]
   have hfl := fdat_le hvk
   refine s_as (v := .slice Ae (wdat (l.take (k + 1))).length ce) rfl rfl rfl (w_nil (then_n ?_))
   have ltE := he.lt
   have ltD3 := hd.lt
   have kd : New we we.drew := (Kp.refl _ _).drew
   have hdw : we.drew.heap.size = we.heap.size := rfl
   replace o1 := o1.kp kd (fun e => e)
   replace o7 := o7.kp kd (fun e => e)
   replace K := K.transN kd
   replace hd := hd.kp kd (fun _ _ e => e)
   replace he := he.kp kd (fun _ _ e => e)
   refine c_drawH (fun f => f 4 = vd ∧ f 5 = .slice Ae (wdat (l.take (k + 1))).length ce ∧ f 7 = .pointer (some ⟨b7, 0, none⟩) ∧ f 8 = .int .i64 ((wdat (l.take k)).length : Nat) ∧ f 1 = .pointer (some ⟨b1, 0, none⟩) ∧ f 17 = .slice (some p) l.length cap ∧ f 18 = .int .i64 (l.length : Nat) ∧ f 19 = .int .i64 (k : Nat) ∧ True) (fun i v u => match i with | 0 => v = vd | 1 => v = .pointer (some (Addr.add ⟨b7, 0, none⟩ 0)) | 2 => v = .string l[k].tag | 3 => RBytes (fun _ => True) u v l[k].tag.data.toList | 4 => v = .slice Ae (wdat (l.take (k + 1))).length ce | 5 => v = .int .i64 ((wdat (l.take (k + 1))).length : Nat) | 6 => v = .int .i64 ((wdat (l.take k)).length : Nat) | 7 => v = .int .i64 ((fdat l[k]).length : Nat) | 8 => RBytes (fun _ => True) u v (digs 5 (fdat l[k]).length) | 9 => v = .int .i64 ((wdat (l.take k)).length : Nat) | 10 => RBytes (fun _ => True) u v (digs 6 (wdat (l.take k)).length) | 11 => ∃ b v3 v8 v10, v = .slice (some ⟨b, 0, none⟩) 4 4 ∧ Own u b 38 [vd, v3, v8, v10] ∧ RBytes (fun _ => True) u v3 l[k].tag.data.toList ∧ RBytes (fun _ => True) u v8 (digs 5 (fdat l[k]).length) ∧ RBytes (fun _ => True) u v10 (digs 6 (wdat (l.take k)).length) | 12 => ∃ r, BRow u v (wdir 0 (l.take (k + 1))) r ∧ ∀ b, r = some b → we.drew.heap.size ≤ b | _ => True) [[], [], [1], [2], [], [4], [], [5, 6], [7], [], [9], [0, 3, 8, 10], [11], [0, 1, 2, 3, 4, 5, 6, 7, 8, 9, 10, 11, 12]] (fun i => i) (rank_back (by kernel_rfl)) (by kernel_rfl) (by kernel_rfl) ⟨rfl, rfl, rfl, rfl, rfl, rfl, rfl, rfl, trivial⟩ ?_ ?_ ?_ ?_
   ·intro i o v f ho hi hL
    obtain ⟨h4, h5, h7, h8, h1, h17, h18, h19, -⟩ := hL
    match i, ho with
    | 0, ho => cases ho; exact ⟨(upd_ne _ _ (by decide)).trans h4, (upd_ne _ _ (by decide)).trans h5, (upd_ne _ _ (by decide)).trans h7, (upd_ne _ _ (by decide)).trans h8, (upd_ne _ _ (by decide)).trans h1, (upd_ne _ _ (by decide)).trans h17, (upd_ne _ _ (by decide)).trans h18, (upd_ne _ _ (by decide)).trans h19, trivial⟩
    | 1, ho => cases ho; exact ⟨(upd_ne _ _ (by decide)).trans h4, (upd_ne _ _ (by decide)).trans h5, (upd_ne _ _ (by decide)).trans h7, (upd_ne _ _ (by decide)).trans h8, (upd_ne _ _ (by decide)).trans h1, (upd_ne _ _ (by decide)).trans h17, (upd_ne _ _ (by decide)).trans h18, (upd_ne _ _ (by decide)).trans h19, trivial⟩
    | 2, ho => cases ho; exact ⟨(upd_ne _ _ (by decide)).trans h4, (upd_ne _ _ (by decide)).trans h5, (upd_ne _ _ (by decide)).trans h7, (upd_ne _ _ (by decide)).trans h8, (upd_ne _ _ (by decide)).trans h1, (upd_ne _ _ (by decide)).trans h17, (upd_ne _ _ (by decide)).trans h18, (upd_ne _ _ (by decide)).trans h19, trivial⟩
    | 3, ho => cases ho; exact ⟨(upd_ne _ _ (by decide)).trans h4, (upd_ne _ _ (by decide)).trans h5, (upd_ne _ _ (by decide)).trans h7, (upd_ne _ _ (by decide)).trans h8, (upd_ne _ _ (by decide)).trans h1, (upd_ne _ _ (by decide)).trans h17, (upd_ne _ _ (by decide)).trans h18, (upd_ne _ _ (by decide)).trans h19, trivial⟩
    | 4, ho => cases ho; exact ⟨(upd_ne _ _ (by decide)).trans h4, (upd_ne _ _ (by decide)).trans h5, (upd_ne _ _ (by decide)).trans h7, (upd_ne _ _ (by decide)).trans h8, (upd_ne _ _ (by decide)).trans h1, (upd_ne _ _ (by decide)).trans h17, (upd_ne _ _ (by decide)).trans h18, (upd_ne _ _ (by decide)).trans h19, trivial⟩
    | 5, ho => cases ho; exact ⟨(upd_ne _ _ (by decide)).trans h4, (upd_ne _ _ (by decide)).trans h5, (upd_ne _ _ (by decide)).trans h7, (upd_ne _ _ (by decide)).trans h8, (upd_ne _ _ (by decide)).trans h1, (upd_ne _ _ (by decide)).trans h17, (upd_ne _ _ (by decide)).trans h18, (upd_ne _ _ (by decide)).trans h19, trivial⟩
    | 6, ho => cases ho; exact ⟨(upd_ne _ _ (by decide)).trans h4, (upd_ne _ _ (by decide)).trans h5, (upd_ne _ _ (by decide)).trans h7, (upd_ne _ _ (by decide)).trans h8, (upd_ne _ _ (by decide)).trans h1, (upd_ne _ _ (by decide)).trans h17, (upd_ne _ _ (by decide)).trans h18, (upd_ne _ _ (by decide)).trans h19, trivial⟩
    | 7, ho => cases ho; exact ⟨(upd_ne _ _ (by decide)).trans h4, (upd_ne _ _ (by decide)).trans h5, (upd_ne _ _ (by decide)).trans h7, (upd_ne _ _ (by decide)).trans h8, (upd_ne _ _ (by decide)).trans h1, (upd_ne _ _ (by decide)).trans h17, (upd_ne _ _ (by decide)).trans h18, (upd_ne _ _ (by decide)).trans h19, trivial⟩
    | 8, ho => cases ho; exact ⟨(upd_ne _ _ (by decide)).trans h4, (upd_ne _ _ (by decide)).trans h5, (upd_ne _ _ (by decide)).trans h7, (upd_ne _ _ (by decide)).trans h8, (upd_ne _ _ (by decide)).trans h1, (upd_ne _ _ (by decide)).trans h17, (upd_ne _ _ (by decide)).trans h18, (upd_ne _ _ (by decide)).trans h19, trivial⟩
    | 9, ho => cases ho; exact ⟨(upd_ne _ _ (by decide)).trans h4, (upd_ne _ _ (by decide)).trans h5, (upd_ne _ _ (by decide)).trans h7, (upd_ne _ _ (by decide)).trans h8, (upd_ne _ _ (by decide)).trans h1, (upd_ne _ _ (by decide)).trans h17, (upd_ne _ _ (by decide)).trans h18, (upd_ne _ _ (by decide)).trans h19, trivial⟩
    | 10, ho => cases ho; exact ⟨(upd_ne _ _ (by decide)).trans h4, (upd_ne _ _ (by decide)).trans h5, (upd_ne _ _ (by decide)).trans h7, (upd_ne _ _ (by decide)).trans h8, (upd_ne _ _ (by decide)).trans h1, (upd_ne _ _ (by decide)).trans h17, (upd_ne _ _ (by decide)).trans h18, (upd_ne _ _ (by decide)).trans h19, trivial⟩
    | 11, ho => cases ho; exact ⟨(upd_ne _ _ (by decide)).trans h4, (upd_ne _ _ (by decide)).trans h5, (upd_ne _ _ (by decide)).trans h7, (upd_ne _ _ (by decide)).trans h8, (upd_ne _ _ (by decide)).trans h1, (upd_ne _ _ (by decide)).trans h17, (upd_ne _ _ (by decide)).trans h18, (upd_ne _ _ (by decide)).trans h19, trivial⟩
    | 12, ho => cases ho; exact ⟨(upd_ne _ _ (by decide)).trans h4, (upd_ne _ _ (by decide)).trans h5, (upd_ne _ _ (by decide)).trans h7, (upd_ne _ _ (by decide)).trans h8, (upd_ne _ _ (by decide)).trans h1, (upd_ne _ _ (by decide)).trans h17, (upd_ne _ _ (by decide)).trans h18, (upd_ne _ _ (by decide)).trans h19, trivial⟩
    | 13, ho => exact absurd hi (by decide)
    | k + 14, ho => exact absurd ho (by simp)
   ·intro i v u u' h k
    match i, h with
    | 0, h => exact h
    | 1, h => exact h
    | 2, h => exact h
    | 3, h => exact h.kp k (fun _ _ _ e => e)
    | 4, h => exact h
    | 5, h => exact h
    | 6, h => exact h
    | 7, h => exact h
    | 8, h => exact h.kp k (fun _ _ _ e => e)
    | 9, h => exact h
    | 10, h => exact h.kp k (fun _ _ _ e => e)
    | 11, h => exact (by obtain ⟨b, v3, v8, v10, e, h0, h1, h2, h3⟩ := h; exact ⟨b, v3, v8, v10, e, h0.kp k (fun e => e), h1.kp k (fun _ _ _ e => e), h2.kp k (fun _ _ _ e => e), h3.kp k (fun _ _ _ e => e)⟩)
    | 12, h => exact (by obtain ⟨r, h0, h1⟩ := h; exact ⟨r, h0.kp k (fun _ _ e => e), h1⟩)
    | k + 13, h => trivial
   ·intro i o ho hi f u hN hL hA
    obtain ⟨h4, h5, h7, h8, h1, h17, h18, h19, -⟩ := hL
    match i, ho with
    | 0, ho =>
     cases ho
     obtain ⟨g, rfl⟩ : ∃ g, f = upd (g) 4 (vd) := ⟨f, upd_keep' (rfl) h4⟩
     clear hA
     refine s_mv (v := vd) rfl rfl rfl ?_
     exact w_nil ⟨rfl, _, rfl, Kp.refl _ _, rfl⟩
    | 1, ho =>
     cases ho
     obtain ⟨g, rfl⟩ : ∃ g, f = upd (g) 7 (.pointer (some ⟨b7, 0, none⟩)) := ⟨f, upd_keep' (rfl) h7⟩
     clear hA
     refine s_fa fi53_0 rfl rfl rfl ?_
     exact w_nil ⟨rfl, _, rfl, Kp.refl _ _, rfl⟩
    | 2, ho =>
     cases ho
     have p1 := hA 1 (by decide) _ _ rfl rfl
     obtain ⟨g, rfl⟩ : ∃ g, f = upd (g) 54 (.pointer (some (Addr.add ⟨b7, 0, none⟩ 0))) := ⟨f, upd_keep' (rfl) p1⟩
     clear hA
     refine s_ld1 (v := .string _) on9 rfl rfl rfl ((o7.kp hN (fun e => e)).get 0 rfl) ?_
     exact w_nil ⟨rfl, _, rfl, Kp.refl _ _, rfl⟩
    | 3, ho =>
     cases ho
     have p2 := hA 2 (by decide) _ _ rfl rfl
     obtain ⟨g, rfl⟩ : ∃ g, f = upd (g) 55 (.string l[k].tag) := ⟨f, upd_keep' (rfl) p2⟩
     clear hA
     refine s_cvSB Tryz.underlying9 Tryz.underlying38 Tryz.underlying5 rfl rfl rfl (by have := (tag_len hvk.1).2; omega) ?_
     intro vq uq hq kq zq
     exact w_nil ⟨rfl, _, rfl, kq, hq.weak (fun _ _ => trivial)⟩
    | 4, ho =>
     cases ho
     obtain ⟨g, rfl⟩ : ∃ g, f = upd (g) 5 (.slice Ae (wdat (l.take (k + 1))).length ce) := ⟨f, upd_keep' (rfl) h5⟩
     clear hA
     refine s_mv (v := .slice Ae (wdat (l.take (k + 1))).length ce) rfl rfl rfl ?_
     exact w_nil ⟨rfl, _, rfl, Kp.refl _ _, rfl⟩
    | 5, ho =>
     cases ho
     have p4 := hA 4 (by decide) _ _ rfl rfl
     obtain ⟨g, rfl⟩ : ∃ g, f = upd (g) 57 (.slice Ae (wdat (l.take (k + 1))).length ce) := ⟨f, upd_keep' (rfl) p4⟩
     clear hA
     refine s_lenL Tryz.underlying38 rfl rfl rfl ?_
     exact w_nil ⟨rfl, _, rfl, Kp.refl _ _, rfl⟩
    | 6, ho =>
     cases ho
     obtain ⟨g, rfl⟩ : ∃ g, f = upd (g) 8 (.int .i64 ((wdat (l.take k)).length : Nat)) := ⟨f, upd_keep' (rfl) h8⟩
     clear hA
     refine mvI rfl rfl rfl ?_
     exact w_nil ⟨rfl, _, rfl, Kp.refl _ _, rfl⟩
    | 7, ho =>
     cases ho
     have p5 := hA 5 (by decide) _ _ rfl rfl
     have p6 := hA 6 (by decide) _ _ rfl rfl
     obtain ⟨g, rfl⟩ : ∃ g, f = upd (upd (g) 58 (.int .i64 ((wdat (l.take (k + 1))).length : Nat))) 59 (.int .i64 ((wdat (l.take k)).length : Nat)) := ⟨f, upd_keep' (upd_keep' (rfl) p5) p6⟩
     clear hA
     refine s_sub (c := (((fdat l[k]).length : Nat) : Int)) rfl rfl rfl rfl rfl (w64c (by omega)) ?_
     exact w_nil ⟨rfl, _, rfl, Kp.refl _ _, rfl⟩
    | 8, ho =>
     cases ho
     have p7 := hA 7 (by decide) _ _ rfl rfl
     obtain ⟨g, rfl⟩ : ∃ g, f = upd (g) 60 (.int .i64 ((fdat l[k]).length : Nat)) := ⟨f, upd_keep' (rfl) p7⟩
     clear hA
     refine s_call2 go31 rfl (c31 (fdat l[k]).length 5 _ (by omega) (by omega)) rfl rfl rfl rfl ?_
     rintro _ uq ⟨vq, bq, rfl, hq, _, kq⟩
     refine ⟨_, rfl, ?_⟩
     exact w_nil ⟨rfl, _, rfl, kq, (hq.rbytes (by rw [digs_len]; omega)).weak (fun _ _ => trivial)⟩
    | 9, ho =>
     cases ho
     obtain ⟨g, rfl⟩ : ∃ g, f = upd (g) 8 (.int .i64 ((wdat (l.take k)).length : Nat)) := ⟨f, upd_keep' (rfl) h8⟩
     clear hA
     refine mvI rfl rfl rfl ?_
     exact w_nil ⟨rfl, _, rfl, Kp.refl _ _, rfl⟩
    | 10, ho =>
     cases ho
     have p9 := hA 9 (by decide) _ _ rfl rfl
     obtain ⟨g, rfl⟩ : ∃ g, f = upd (g) 62 (.int .i64 ((wdat (l.take k)).length : Nat)) := ⟨f, upd_keep' (rfl) p9⟩
     clear hA
     refine s_call2 go31 rfl (c31 (wdat (l.take k)).length 6 _ (by omega) (by omega)) rfl rfl rfl rfl ?_
     rintro _ uq ⟨vq, bq, rfl, hq, _, kq⟩
     refine ⟨_, rfl, ?_⟩
     exact w_nil ⟨rfl, _, rfl, kq, (hq.rbytes (by rw [digs_len]; omega)).weak (fun _ _ => trivial)⟩
    | 11, ho =>
     cases ho
     have p0 := hA 0 (by decide) _ _ rfl rfl
     have p3 := hA 3 (by decide) _ _ rfl rfl
     obtain ⟨v56, e56⟩ : ∃ v, f 56 = v := ⟨_, rfl⟩
     rw [e56] at p3
     have p8 := hA 8 (by decide) _ _ rfl rfl
     obtain ⟨v61, e61⟩ : ∃ v, f 61 = v := ⟨_, rfl⟩
     rw [e61] at p8
     have p10 := hA 10 (by decide) _ _ rfl rfl
     obtain ⟨v63, e63⟩ : ∃ v, f 63 = v := ⟨_, rfl⟩
     rw [e63] at p10
     have hd0 := (hd.kp hN (fun _ _ e => e)).shape
     have hcd : vd.cells = #[vd] := by obtain ⟨_, _, e⟩ := hd0; rw [e]; rfl
     have hc3 : v56.cells = #[v56] := (by obtain ⟨_, _, e, _⟩ := p3; rw [e]; rfl)
     have hc8 : v61.cells = #[v61] := (by obtain ⟨_, _, e, _⟩ := p8; rw [e]; rfl)
     have hc10 : v63.cells = #[v63] := (by obtain ⟨_, _, e, _⟩ := p10; rw [e]; rfl)
     obtain ⟨g, rfl⟩ : ∃ g, f = upd (upd (upd (upd (g) 53 (vd)) 56 (v56)) 61 (v61)) 63 (v63) := ⟨f, upd_keep' (upd_keep' (upd_keep' (upd_keep' (rfl) p0) e56) e61) e63⟩
     clear hA
     refine s_bs4 el100 rfl rfl rfl rfl rfl rfl rfl rfl rfl hcd hc3 hc8 hc10 ?_
     intro bq uq ebq oq kq zq
     exact w_nil ⟨rfl, _, rfl, kq, ⟨bq, v56, v61, v63, rfl, oq, p3.kp kq (fun _ _ _ e => e), p8.kp kq (fun _ _ _ e => e), p10.kp kq (fun _ _ _ e => e)⟩⟩
    | 12, ho =>
     cases ho
     have p11 := hA 11 (by decide) _ _ rfl rfl
     obtain ⟨v64, e64⟩ : ∃ v, f 64 = v := ⟨_, rfl⟩
     rw [e64] at p11
     obtain ⟨bq, v3, v8, v10, rfl, oq, q3, q8, q10⟩ := p11
     have hL4 : ∀ x ∈ [(vd, wdir 0 (l.take k)), (v3, l[k].tag.data.toList), (v8, digs 5 (fdat l[k]).length), (v10, digs 6 (wdat (l.take k)).length)], RBytes (fun _ => True) u x.1 x.2 := by
      intro x hx
      simp only [List.mem_cons, List.not_mem_nil, or_false] at hx
      rcases hx with rfl | rfl | rfl | rfl
      ·exact ((hd.kp hN (fun _ _ e => e)).rbytes (by omega)).weak (fun _ _ => trivial)
      ·exact q3
      ·exact q8
      ·exact q10
     obtain ⟨g, rfl⟩ : ∃ g, f = upd (g) 64 (.slice (some ⟨bq, 0, none⟩) 4 4) := ⟨f, upd_keep' (rfl) e64⟩
     clear hA
     refine s_call1 go30 rfl (c30 (G := fun _ => True) ⟨bq, 0, none⟩ 4 [(vd, wdir 0 (l.take k)), (v3, l[k].tag.data.toList), (v8, digs 5 (fdat l[k]).length), (v10, digs 6 (wdat (l.take k)).length)] _ oq.cells hL4 (by simp [digs_len, (tag_len hvk.1).1]; omega) (by simp)) rfl rfl ?_
     rintro _ uq ⟨vq, rq, rfl, hq, gq, kq⟩
     refine ⟨_, rfl, ?_⟩
     exact w_nil ⟨rfl, _, rfl, kq, ⟨rq, by rw [List.take_succ_eq_append_getElem hlt, wdir_app]; simpa [List.append_assoc] using hq, fun b hb => Nat.le_trans hN.size (gq b hb)⟩⟩
    | 13, ho => exact absurd hi (by decide)
    | k + 14, ho => exact absurd ho (by simp)
   ·intro i o ho hi f u hN hL hA
    obtain ⟨h4, h5, h7, h8, h1, h17, h18, h19, -⟩ := hL
    obtain rfl : i = 13 := by simpa using hi
    cases ho
    have p12 := hA 12 _ _ (by decide) rfl rfl
    obtain ⟨v65, e65⟩ : ∃ v, f 65 = v := ⟨_, rfl⟩
    rw [e65] at p12
    obtain ⟨rq, hq, gq⟩ := p12
    obtain ⟨g, rfl⟩ : ∃ g, f = upd (upd (upd (upd (upd (upd (upd (upd (upd (g) 65 (v65)) 4 (vd)) 5 (.slice Ae (wdat (l.take (k + 1))).length ce)) 7 (.pointer (some ⟨b7, 0, none⟩))) 8 (.int .i64 ((wdat (l.take k)).length : Nat))) 1 (.pointer (some ⟨b1, 0, none⟩))) 17 (.slice (some p) l.length cap)) 18 (.int .i64 (l.length : Nat))) 19 (.int .i64 (k : Nat)) := ⟨f, upd_keep' (upd_keep' (upd_keep' (upd_keep' (upd_keep' (upd_keep' (upd_keep' (upd_keep' (upd_keep' (rfl) e65) h4) h5) h7) h8) h1) h17) h18) h19⟩
    clear hA
    replace o1 := o1.kp hN (fun e => e)
    replace o7 := o7.kp hN (fun e => e)
    replace K := K.transN hN
    replace hd := hd.kp hN (fun _ _ e => e)
    replace he := he.kp hN (fun _ _ e => e)
    refine s_as (v := v65) rfl rfl rfl ?_
    refine w_nil ⟨rfl, _, rfl, ?_⟩
    refine inb_n (then_n (c_reg (s_add rfl rfl rfl rfl rfl (w64 (by omega)) (mvI rfl rfl rfl (w_nil (then_n ?_))))))
    have hq9 := hq.lt
    exact ⟨l.length - (k + 1), _, by omega, rfl, _, k + 1, v65, _, rq, re, rfl, by omega, (upd_keep' (upd_keep' (upd_keep' (upd_keep' (upd_keep' (upd_keep' rfl rfl) rfl) rfl) rfl) rfl) rfl), hq, he, (fun b hb => by have := gq b hb; simp at this; omega), hge, (fun b hb e => by have := gq b hb; have := ltE b e; simp at *; omega), o1, (by have := hN.size; simp at this; omega), K⟩
 ·intro ht20
  (try simp only [Q1, Q2, Q3, Q4, Q5] at ht20)
  obtain rfl : k = l.length := by omega
  rw [List.take_length] at hd ha hdl hal ⊢
  obtain ⟨Ad, cd2, rfl⟩ := hd.shape
  refine wp_exit (then_x (then_x (inb_x (then_n (wp_seq (c_reg (s_mv (v := .slice Ad (wdir 0 l).length cd2) rfl rfl rfl (s_lenL Tryz.underlying38 rfl rfl rfl (s_add rfl rfl rfl rfl rfl (w64 (by omega)) ?_)))))))))
  refine s_add rfl rfl rfl rfl rfl (w64 (by omega)) (asI rfl rfl rfl (w_nil (then_n (wp_seq ?_))))
  have kd : New w0 w0.drew := (Kp.refl _ _).drew
  have hdw : w0.drew.heap.size = w0.heap.size := rfl
  replace o1 := o1.kp kd (fun e => e)
  replace K := K.transN kd
  replace kz0 := kz0.transN kd
  replace hd := hd.kp kd (fun _ _ e => e)
  replace ha := ha.kp kd (fun _ _ e => e)
  have q_o1 := o1
  refine c_drawG (fun u => Kp (fun _ => False) (w0.drew) u) [false, false, false, false, false, true, false, true, false, false, true, false, true, true, false] [[], [], [1], [0, 2], [3], [4], [], [5, 6], [], [8], [5, 7, 9], [], [5, 7, 10, 11], [5, 7, 10, 12], [13]] (fun i => i) (rank_back (by kernel_rfl)) rfl (by kernel_rfl) (Kp.refl _ _) ?_
  have kR : Kp (fun _ => False) (w0.drew) (w0.drew) := Kp.refl _ _
  refine t_q rfl rfl rfl (fun u hF => mvI rfl rfl rfl (w_nil ⟨rfl, rfl, rfl⟩)) ?_
  refine t_q rfl rfl rfl (fun u hF => s_mv (v := .slice Aa (wdat l).length ca) rfl rfl rfl (w_nil ⟨rfl, rfl, rfl⟩)) ?_
  refine t_q rfl rfl rfl (fun u hF => s_lenL Tryz.underlying38 rfl rfl rfl (w_nil ⟨rfl, rfl, rfl⟩)) ?_
  refine t_q rfl rfl rfl (fun u hF => s_add rfl rfl rfl rfl rfl (w64 (by omega)) (w_nil ⟨rfl, rfl, rfl⟩)) ?_
  refine t_q rfl rfl rfl (fun u hF => s_add rfl rfl rfl rfl rfl (w64 (by omega)) (w_nil ⟨rfl, rfl, rfl⟩)) ?_
  refine t_l rfl (s_call2 go31 rfl (c31 ((22 + (wdir 0 l).length + 1) + (wdat l).length + 1) 6 _ (by omega) (by omega)) rfl rfl (iv (by omega)) rfl ?_)
  rintro _ w3 ⟨v76, q76, rfl, h76, g76, k76⟩
  replace o1 := o1.kp k76 (fun e => e)
  replace K := K.transN k76
  replace kz0 := kz0.transN k76
  replace kR := kR.transN k76
  replace hd := hd.kp k76 (fun _ _ e => e)
  replace ha := ha.kp k76 (fun _ _ e => e)
  refine ⟨_, rfl, ?_⟩
  refine w_nil ⟨rfl, _, rfl, kR, ?_⟩
  refine t_q rfl rfl rfl (fun u hF => mvI rfl rfl rfl (w_nil ⟨rfl, rfl, rfl⟩)) ?_
  refine t_l rfl (s_call2 go31 rfl (c31 ((22 + (wdir 0 l).length + 1)) 6 _ (by omega) (by omega)) rfl rfl (iv (by omega)) rfl ?_)
  rintro _ w4 ⟨v78, q78, rfl, h78, g78, k78⟩
  replace o1 := o1.kp k78 (fun e => e)
  replace K := K.transN k78
  replace kz0 := kz0.transN k78
  replace kR := kR.transN k78
  replace hd := hd.kp k78 (fun _ _ e => e)
  replace ha := ha.kp k78 (fun _ _ e => e)
  replace h76 := h76.kp k78 (fun _ _ e => e)
  refine ⟨_, rfl, ?_⟩
  refine w_nil ⟨rfl, _, rfl, kR, ?_⟩
  refine t_q rfl rfl rfl (fun u hF => s_fa fi24_0 rfl rfl rfl (w_nil ⟨rfl, rfl, rfl⟩)) ?_
  refine t_q rfl rfl rfl (fun u hF => s_ld1 (v := .int .i64 _) on3 rfl rfl rfl ((q_o1.kp hF (fun e => e)).get 0 rfl) (w_nil ⟨rfl, rfl, rfl⟩)) ?_
  refine t_l rfl (s_call2 go31 rfl (c31 (id.toNat) 10 _ (by omega) (by omega)) rfl rfl (iv (by omega)) rfl ?_)
  rintro _ w5 ⟨v81, q81, rfl, h81, g81, k81⟩
  replace o1 := o1.kp k81 (fun e => e)
  replace K := K.transN k81
  replace kz0 := kz0.transN k81
  replace kR := kR.transN k81
  replace hd := hd.kp k81 (fun _ _ e => e)
  replace ha := ha.kp k81 (fun _ _ e => e)
  replace h76 := h76.kp k81 (fun _ _ e => e)
  replace h78 := h78.kp k81 (fun _ _ e => e)
  refine ⟨_, rfl, ?_⟩
  refine w_nil ⟨rfl, _, rfl, kR, ?_⟩
  refine t_q rfl rfl rfl (fun u hF => s_mv (v := .slice Ad (wdir 0 l).length cd2) rfl rfl rfl (w_nil ⟨rfl, rfl, rfl⟩)) ?_
  refine t_l rfl ?_
  refine s_bs4 (v0 := v76) (v1 := v78) (v2 := v81) (v3 := .slice Ad (wdir 0 l).length cd2) el100 rfl rfl rfl rfl rfl rfl rfl rfl rfl (by obtain ⟨_, _, e⟩ := h76.shape; rw [e]; rfl) (by obtain ⟨_, _, e⟩ := h78.shape; rw [e]; rfl) (by obtain ⟨_, _, e⟩ := h81.shape; rw [e]; rfl) rfl ?_
  intro b83 w6 eb83 o83 k83 z83
  replace o1 := o1.kp k83 (fun e => e)
  replace K := K.transN k83
  replace kz0 := kz0.transN k83
  replace kR := kR.transN k83
  replace hd := hd.kp k83 (fun _ _ e => e)
  replace ha := ha.kp k83 (fun _ _ e => e)
  replace h76 := h76.kp k83 (fun _ _ e => e)
  replace h78 := h78.kp k83 (fun _ _ e => e)
  replace h81 := h81.kp k83 (fun _ _ e => e)
  refine w_nil ⟨rfl, _, rfl, kR, ?_⟩
  refine t_l rfl ?_
  have hL4 : ∀ x ∈ [(v76, digs 6 ((22 + (wdir 0 l).length + 1) + (wdat l).length + 1)), (v78, digs 6 (22 + (wdir 0 l).length + 1)), (v81, digs 10 id.toNat), (.slice Ad (wdir 0 l).length cd2, wdir 0 l)], RBytes (fun _ => True) w6 x.1 x.2 := by
   intro x hx
   simp only [List.mem_cons, List.not_mem_nil, or_false] at hx
   rcases hx with rfl | rfl | rfl | rfl
   ·exact (h76.rbytes (by rw [digs_len]; omega)).weak (fun _ _ => trivial)
   ·exact (h78.rbytes (by rw [digs_len]; omega)).weak (fun _ _ => trivial)
   ·exact (h81.rbytes (by rw [digs_len]; omega)).weak (fun _ _ => trivial)
   ·exact (hd.rbytes (by omega)).weak (fun _ _ => trivial)
  refine s_call1 go30 rfl (c30 (G := fun _ => True) ⟨b83, 0, none⟩ 4 [(v76, digs 6 ((22 + (wdir 0 l).length + 1) + (wdat l).length + 1)), (v78, digs 6 (22 + (wdir 0 l).length + 1)), (v81, digs 10 id.toNat), (.slice Ad (wdir 0 l).length cd2, wdir 0 l)] _ o83.cells hL4 (by simp [digs_len]; omega) (by simp)) rfl rfl ?_
  rintro _ w7 ⟨v84, r84, rfl, h84, g84, k84⟩
  replace o1 := o1.kp k84 (fun e => e)
  replace K := K.transN k84
  replace kz0 := kz0.transN k84
  replace kR := kR.transN k84
  replace hd := hd.kp k84 (fun _ _ e => e)
  replace ha := ha.kp k84 (fun _ _ e => e)
  replace h76 := h76.kp k84 (fun _ _ e => e)
  replace h78 := h78.kp k84 (fun _ _ e => e)
  replace h81 := h81.kp k84 (fun _ _ e => e)
  refine ⟨_, rfl, ?_⟩
  refine w_nil ⟨rfl, _, rfl, kR, ?_⟩
  refine t_q rfl rfl rfl (fun u hF => s_as (v := v84) rfl rfl rfl (w_nil ⟨rfl, rfl, rfl⟩)) ?_
  refine t_n (then_n (wp_seq (c_reg (s_mv (v := v84) rfl rfl rfl (s_bs1E (cs := [.int .u8 30]) el38 rfl (by decide) rfl rfl rfl rfl ?_)))))
  intro b86 w8 eb86 o86 kb86 zb86
  have gb86_K : W.heap.size ≤ b86 := by have := K.size; omega
  have gb86_kz0 : w0.heap.size ≤ b86 := by have := kz0.size; omega
  replace o1 := o1.kp kb86 (fun e => e)
  replace K := K.transN kb86
  replace kz0 := kz0.transN kb86
  replace hd := hd.kp kb86 (fun _ _ e => e)
  replace ha := ha.kp kb86 (fun _ _ e => e)
  replace h76 := h76.kp kb86 (fun _ _ e => e)
  replace h78 := h78.kp kb86 (fun _ _ e => e)
  replace h81 := h81.kp kb86 (fun _ _ e => e)
  replace h84 := h84.kp kb86 (fun _ _ e => e)
  refine s_mv (v := .slice Aa (wdat l).length ca) rfl rfl rfl (s_bs1E (cs := [.int .u8 29]) el38 rfl (by decide) rfl rfl rfl rfl ?_)
  intro b88 w9 eb88 o88 kb88 zb88
  have gb88_K : W.heap.size ≤ b88 := by have := K.size; omega
  have gb88_kz0 : w0.heap.size ≤ b88 := by have := kz0.size; omega
  replace o1 := o1.kp kb88 (fun e => e)
  replace o86 := o86.kp kb88 (fun e => e)
  replace K := K.transN kb88
  replace kz0 := kz0.transN kb88
  replace hd := hd.kp kb88 (fun _ _ e => e)
  replace ha := ha.kp kb88 (fun _ _ e => e)
  replace h76 := h76.kp kb88 (fun _ _ e => e)
  replace h78 := h78.kp kb88 (fun _ _ e => e)
  replace h81 := h81.kp kb88 (fun _ _ e => e)
  replace h84 := h84.kp kb88 (fun _ _ e => e)
  refine s_bs4 (v0 := v84) (v1 := .slice (some ⟨b86, 0, none⟩) 1 1) (v2 := .slice Aa (wdat l).length ca) (v3 := .slice (some ⟨b88, 0, none⟩) 1 1) el100 rfl rfl rfl rfl rfl rfl rfl rfl rfl (by obtain ⟨_, _, e⟩ := h84.shape; rw [e]; rfl) rfl rfl rfl ?_
  intro b89 w10 eb89 o89 k89 z89
  replace o1 := o1.kp k89 (fun e => e)
  replace o86 := o86.kp k89 (fun e => e)
  replace o88 := o88.kp k89 (fun e => e)
  replace K := K.transN k89
  replace kz0 := kz0.transN k89
  replace hd := hd.kp k89 (fun _ _ e => e)
  replace ha := ha.kp k89 (fun _ _ e => e)
  replace h76 := h76.kp k89 (fun _ _ e => e)
  replace h78 := h78.kp k89 (fun _ _ e => e)
  replace h81 := h81.kp k89 (fun _ _ e => e)
  replace h84 := h84.kp k89 (fun _ _ e => e)
  have K9 := K
  have hL4 : ∀ x ∈ [(v84, digs 6 ((22 + (wdir 0 l).length + 1) + (wdat l).length + 1) ++ (digs 6 (22 + (wdir 0 l).length + 1) ++ (digs 10 id.toNat ++ wdir 0 l))), (.slice (some ⟨b86, 0, none⟩) 1 1, [30]), (.slice Aa (wdat l).length ca, wdat l), (.slice (some ⟨b88, 0, none⟩) 1 1, [29])], RBytes (fun _ => True) w10 x.1 x.2 := by
   intro x hx
   simp only [List.mem_cons, List.not_mem_nil, or_false] at hx
   rcases hx with rfl | rfl | rfl | rfl
   ·exact ((show BRow _ v84 _ r84 by simpa using h84).rbytes (by simp [digs_len]; omega)).weak (fun _ _ => trivial)
   ·exact (rb_own (s := [30]) (by simpa [bc, Lib.byteCells] using o86) (by simp)).weak (fun _ _ => trivial)
   ·exact (ha.rbytes (by omega)).weak (fun _ _ => trivial)
   ·exact (rb_own (s := [29]) (by simpa [bc, Lib.byteCells] using o88) (by simp)).weak (fun _ _ => trivial)
  refine s_call1 go30 rfl (c30 (G := fun _ => True) ⟨b89, 0, none⟩ 4 [(v84, digs 6 ((22 + (wdir 0 l).length + 1) + (wdat l).length + 1) ++ (digs 6 (22 + (wdir 0 l).length + 1) ++ (digs 10 id.toNat ++ wdir 0 l))), (.slice (some ⟨b86, 0, none⟩) 1 1, [30]), (.slice Aa (wdat l).length ca, wdat l), (.slice (some ⟨b88, 0, none⟩) 1 1, [29])] _ o89.cells hL4 (by simp [digs_len]; omega) (by simp)) rfl rfl ?_
  rintro _ w11 ⟨v90, r90, rfl, h90, g90, k90⟩
  replace o1 := o1.kp k90 (fun e => e)
  replace o86 := o86.kp k90 (fun e => e)
  replace o88 := o88.kp k90 (fun e => e)
  replace K := K.transN k90
  replace kz0 := kz0.transN k90
  replace hd := hd.kp k90 (fun _ _ e => e)
  replace ha := ha.kp k90 (fun _ _ e => e)
  replace h76 := h76.kp k90 (fun _ _ e => e)
  replace h78 := h78.kp k90 (fun _ _ e => e)
  replace h81 := h81.kp k90 (fun _ _ e => e)
  replace h84 := h84.kp k90 (fun _ _ e => e)
  refine ⟨_, rfl, ?_⟩
  refine s_as (v := v90) rfl rfl rfl (asI rfl rfl rfl (w_nil (then_n (wp_ret ?_))))
  refine ret2 (t := 2) (u := 3) (v := v90) (v' := .int .i64 0) rfl rfl rfl rfl rfl ⟨v90, r90, rfl, by simpa [wex, List.append_assoc] using h90, (fun b hb => by have := g90 b hb; have := K9.size; omega), K⟩
end
end Go.Proofs.YtkabfelhicohnaaGreatDoor.V
