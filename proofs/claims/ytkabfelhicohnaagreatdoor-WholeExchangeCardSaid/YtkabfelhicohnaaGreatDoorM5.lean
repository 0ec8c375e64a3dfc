/- Walks: texts. No condition. -/
import Derived.Test.YtkabfelhicohnaaGreatDoorM4
set_option linter.unusedSimpArgs false
set_option linter.unusedVariables false
set_option maxRecDepth 4000
set_option maxHeartbeats 2000000
namespace Go.Proofs.YtkabfelhicohnaaGreatDoor.V
open Go.RowKit
section
def inn (c lo hi : Int) : Bool := decide (lo ≤ c) && decide (c ≤ hi)
theorem c150 (c lo hi : Int) (w : World) : Calls Tryz.prog 150 #[.int .i64 c, .int .i64 lo, .int .i64 hi] w fun e w' => e = .returned (.bool (inn c lo hi)) ∧ New w w' := by
 obtain ⟨W, hW⟩ : ∃ W, W = w := ⟨_, rfl⟩
 subst hW
 have K : New W W := Kp.refl _ _
 refine enter (n := 15) Tryz.func150 rfl rfl (by simp) ?_
 refine wp_seq (c_reg (asB rfl rfl rfl (w_nil (then_n (wp_seq (c_reg (mvI rfl rfl rfl (mvI rfl rfl rfl (s_geq rfl rfl rfl rfl rfl rfl ?_)))))))))
 refine mvB rfl rfl rfl ?_
 refine w_split (t := 10) rfl ?_ ?_
 ·intro hs10
  (try simp only [Q1, Q2, Q3, Q4, Q5] at hs10)
  refine mvI rfl rfl rfl (mvI rfl rfl rfl (s_leq rfl rfl rfl rfl rfl rfl (pTB rfl rfl rfl rfl rfl (asB rfl rfl rfl (w_nil (then_n (wp_ret ?_)))))))
  refine ret1 (t := 6) (v := .bool _) rfl rfl rfl ⟨by simp [inn, hs10], K⟩
 ·intro hs10
  (try simp only [Q1, Q2, Q3, Q4, Q5] at hs10)
  refine st_skip rfl (st_skip rfl (st_skip rfl (pFB rfl rfl rfl rfl rfl (asB rfl rfl rfl (w_nil (then_n (wp_ret ?_)))))))
  refine ret1 (t := 6) (v := .bool _) rfl rfl rfl ⟨by simp [inn, hs10], K⟩
theorem c152 (c lo hi : Int) (w : World) : Calls Tryz.prog 152 #[.int .i64 c, .int .i64 lo, .int .i64 hi] w fun e w' => e = .returned (.bool (inn c lo hi)) ∧ New w w' := by
 obtain ⟨W, hW⟩ : ∃ W, W = w := ⟨_, rfl⟩
 subst hW
 have K : New W W := Kp.refl _ _
 refine enter (n := 15) Tryz.func152 rfl rfl (by simp) ?_
 refine wp_seq (c_reg (asB rfl rfl rfl (w_nil (then_n (wp_seq (c_reg (mvI rfl rfl rfl (mvI rfl rfl rfl (s_geq rfl rfl rfl rfl rfl rfl ?_)))))))))
 refine mvB rfl rfl rfl ?_
 refine w_split (t := 10) rfl ?_ ?_
 ·intro hs10
  (try simp only [Q1, Q2, Q3, Q4, Q5] at hs10)
  refine mvI rfl rfl rfl (mvI rfl rfl rfl (s_leq rfl rfl rfl rfl rfl rfl (pTB rfl rfl rfl rfl rfl (asB rfl rfl rfl (w_nil (then_n (wp_ret ?_)))))))
  refine ret1 (t := 6) (v := .bool _) rfl rfl rfl ⟨by simp [inn, hs10], K⟩
 ·intro hs10
  (try simp only [Q1, Q2, Q3, Q4, Q5] at hs10)
  refine st_skip rfl (st_skip rfl (st_skip rfl (pFB rfl rfl rfl rfl rfl (asB rfl rfl rfl (w_nil (then_n (wp_ret ?_)))))))
  refine ret1 (t := 6) (v := .bool _) rfl rfl rfl ⟨by simp [inn, hs10], K⟩
theorem c103 (s : ByteArray) (i : Nat) (w : World) (hi : i < s.size) (hs : s.size ≤ 1000) : Calls Tryz.prog 103 #[.string s, .int .i64 (i : Nat)] w fun e w' => e = .returned (.tuple #[.int .i64 (atF s i).1, .int .i64 (atF s i).2]) ∧ New w w' := by
 obtain ⟨W, hW⟩ : ∃ W, W = w := ⟨_, rfl⟩
 subst hW
 have K : New W W := Kp.refl _ _
 obtain ⟨u0, hu0, e0, g0, l0⟩ := bt_get hi
 refine enter (n := 96) Tryz.func103 rfl rfl (by simp) ?_
 refine wp_seq (c_reg (asI rfl rfl rfl (asI rfl rfl rfl (w_nil (then_n (wp_seq (c_reg (s_mv (v := .string _) rfl rfl rfl (mvI rfl rfl rfl ?_)))))))))
 refine s_ixS Tryz.underlying9 rfl rfl rfl rfl rfl (by omega) hu0 (s_conv (by decide) Tryz.underlying3 rfl rfl rfl (w64 (by omega)) (asI rfl rfl rfl (w_nil (then_n (wp_seq (wp_seq (c_reg (mvI rfl rfl rfl (s_lss rfl rfl rfl rfl rfl rfl ?_)))))))))
 refine w_nil (then_n ?_)
 refine c_if rfl rfl ?_ ?_
 ·intro ht13
  (try simp only [Q1, Q2, Q3, Q4, Q5] at ht13)
  refine wp_seq (c_reg (mvI rfl rfl rfl (asI rfl rfl rfl (asI rfl rfl rfl (w_nil (then_n (wp_ret (then_r ?_))))))))
  refine ret2 (t := 4) (u := 5) (v := .int .i64 _) (v' := .int .i64 _) rfl rfl rfl rfl rfl ⟨?_, K⟩
  (try simp only [Q1, Q2, Q3] at *)
  unfold atF
  simp only [e0]
  try simp only [e1]
  try simp only [e2]
  repeat' (first | rfl | split | (simp only [Int.lt_irrefl]; done))
  all_goals first | rfl | omega
 ·intro ht13
  (try simp only [Q1, Q2, Q3, Q4, Q5] at ht13)
  refine wp_skip (then_n (wp_seq (wp_seq (c_reg (mvI rfl rfl rfl (s_geq rfl rfl rfl rfl rfl rfl (mvB rfl rfl rfl ?_)))))))
  refine w_split (t := 17) rfl ?_ ?_
  ·intro hs17
   (try simp only [Q1, Q2, Q3, Q4, Q5] at hs17)
   refine mvI rfl rfl rfl (s_lss rfl rfl rfl rfl rfl rfl (pTB rfl rfl rfl rfl rfl (mvB rfl rfl rfl ?_)))
   refine w_split (t := 21) rfl ?_ ?_
   ·intro hs21
    (try simp only [Q1, Q2, Q3, Q4, Q5] at hs21)
    refine mvI rfl rfl rfl (s_add rfl rfl rfl rfl rfl (w64 (by omega)) (s_mv (v := .string _) rfl rfl rfl (s_lenS Tryz.underlying9 rfl rfl rfl (s_lss rfl rfl rfl rfl rfl rfl (pTB rfl rfl rfl rfl rfl (mvB rfl rfl rfl ?_))))))
    refine w_split (t := 28) rfl ?_ ?_
    ·intro hs28
     (try simp only [Q1, Q2, Q3, Q4, Q5] at hs28)
     obtain ⟨u1, hu1, e1, g1, l1⟩ := bt_get (s := s) (i := i + 1) (by omega)
     refine s_mv (v := .string _) rfl rfl rfl (mvI rfl rfl rfl (s_add rfl rfl rfl rfl rfl (w64 (by omega)) (s_ixS Tryz.underlying9 rfl rfl rfl rfl rfl (by omega) (by rw [show ((i : Nat) + 1 : Int).toNat = i + 1 by omega]; exact hu1) (s_shr (c := _ / 64) rfl rfl rfl rfl rfl (by decide) (by decide) rfl (s_eq rfl rfl rfl rfl rfl rfl (pTB rfl rfl rfl rfl rfl (w_nil (then_n ?_))))))))
     refine c_if rfl rfl ?_ ?_
     ·intro ht35
      (try simp only [Q1, Q2, Q3, Q4, Q5] at ht35)
      refine wp_seq (c_reg (mvI rfl rfl rfl (s_sub rfl rfl rfl rfl rfl (w64 (by omega)) (s_mul rfl rfl rfl rfl rfl (w64 (by omega)) (s_mv (v := .string _) rfl rfl rfl (mvI rfl rfl rfl (s_add rfl rfl rfl rfl rfl (w64 (by omega)) (s_ixS Tryz.underlying9 rfl rfl rfl rfl rfl (by omega) (by rw [show ((i : Nat) + 1 : Int).toNat = i + 1 by omega]; exact hu1) (s_sub rfl rfl rfl rfl rfl (w8 (by omega)) ?_)))))))))
      refine s_conv (by decide) Tryz.underlying3 rfl rfl rfl (w64 (by omega)) (s_add rfl rfl rfl rfl rfl (w64 (by omega)) (asI rfl rfl rfl (asI rfl rfl rfl (w_nil (then_n (wp_ret (then_r ?_)))))))
      refine ret2 (t := 4) (u := 5) (v := .int .i64 _) (v' := .int .i64 _) rfl rfl rfl rfl rfl ⟨?_, K⟩
      (try simp only [Q1, Q2, Q3] at *)
      unfold atF
      simp only [e0]
      try simp only [e1]
      try simp only [e2]
      repeat' (first | rfl | split | (simp only [Int.lt_irrefl]; done))
      all_goals first | rfl | omega
     ·intro ht35
      (try simp only [Q1, Q2, Q3, Q4, Q5] at ht35)
      refine wp_skip (then_n (wp_seq (wp_seq (c_reg (mvI rfl rfl rfl (s_geq rfl rfl rfl rfl rfl rfl (mvB rfl rfl rfl ?_)))))))
      refine w_split (t := 48) rfl ?_ ?_
      ·intro hs48
       (try simp only [Q1, Q2, Q3, Q4, Q5] at hs48)
       refine mvI rfl rfl rfl (s_lss rfl rfl rfl rfl rfl rfl (pTB rfl rfl rfl rfl rfl (mvB rfl rfl rfl ?_)))
       refine w_split (t := 52) rfl ?_ ?_
       ·intro hs52
        (try simp only [Q1, Q2, Q3, Q4, Q5] at hs52)
        refine mvI rfl rfl rfl (s_add rfl rfl rfl rfl rfl (w64 (by omega)) (s_mv (v := .string _) rfl rfl rfl (s_lenS Tryz.underlying9 rfl rfl rfl (s_lss rfl rfl rfl rfl rfl rfl (pTB rfl rfl rfl rfl rfl (mvB rfl rfl rfl ?_))))))
        refine w_split (t := 59) rfl ?_ ?_
        ·intro hs59
         (try simp only [Q1, Q2, Q3, Q4, Q5] at hs59)
         obtain ⟨u1, hu1, e1, g1, l1⟩ := bt_get (s := s) (i := i + 1) (by omega)
         obtain ⟨u2, hu2, e2, g2, l2⟩ := bt_get (s := s) (i := i + 2) (by omega)
         refine s_mv (v := .string _) rfl rfl rfl (mvI rfl rfl rfl (s_add rfl rfl rfl rfl rfl (w64 (by omega)) (s_ixS Tryz.underlying9 rfl rfl rfl rfl rfl (by omega) (by rw [show ((i : Nat) + 1 : Int).toNat = i + 1 by omega]; exact hu1) (s_shr (c := _ / 64) rfl rfl rfl rfl rfl (by decide) (by decide) rfl (s_eq rfl rfl rfl rfl rfl rfl (pTB rfl rfl rfl rfl rfl (mvB rfl rfl rfl ?_)))))))
         refine w_split (t := 67) rfl ?_ ?_
         ·intro hs67
          (try simp only [Q1, Q2, Q3, Q4, Q5] at hs67)
          refine s_mv (v := .string _) rfl rfl rfl (mvI rfl rfl rfl (s_add rfl rfl rfl rfl rfl (w64 (by omega)) (s_ixS Tryz.underlying9 rfl rfl rfl rfl rfl (by omega) (by rw [show ((i : Nat) + 2 : Int).toNat = i + 2 by omega]; exact hu2) (s_shr (c := _ / 64) rfl rfl rfl rfl rfl (by decide) (by decide) rfl (s_eq rfl rfl rfl rfl rfl rfl (pTB rfl rfl rfl rfl rfl (w_nil (then_n ?_))))))))
          refine c_if rfl rfl ?_ ?_
          ·intro ht74
           (try simp only [Q1, Q2, Q3, Q4, Q5] at ht74)
           refine wp_seq ?_
           refine c_draw' (fun S f w => New W w ∧ f 0 = .string s ∧ f 1 = .int .i64 (i : Nat) ∧ f 6 = .int .i64 (u0.toNat : Int) ∧ (S 0 = true → f 75 = .int .i64 (u0.toNat : Int)) ∧ (S 1 = true → f 76 = .int .i64 ((u0.toNat : Int) - 224)) ∧ (S 2 = true → f 77 = .int .i64 (((u0.toNat : Int) - 224) * 4096)) ∧ (S 3 = true → f 78 = .string s) ∧ (S 4 = true → f 79 = .int .i64 (i : Nat)) ∧ (S 5 = true → f 80 = .int .i64 ((i : Nat) + 1 : Int)) ∧ (S 6 = true → f 81 = .int .u8 (u1.toNat : Int)) ∧ (S 7 = true → f 82 = .int .u8 ((u1.toNat : Int) - 128)) ∧ (S 8 = true → f 83 = .int .i64 ((u1.toNat : Int) - 128)) ∧ (S 9 = true → f 84 = .int .i64 (((u1.toNat : Int) - 128) * 64)) ∧ (S 10 = true → f 85 = .int .i64 (((u0.toNat : Int) - 224) * 4096 + ((u1.toNat : Int) - 128) * 64)) ∧ (S 11 = true → f 86 = .string s) ∧ (S 12 = true → f 87 = .int .i64 (i : Nat)) ∧ (S 13 = true → f 88 = .int .i64 ((i : Nat) + 2 : Int)) ∧ (S 14 = true → f 89 = .int .u8 (u2.toNat : Int)) ∧ (S 15 = true → f 90 = .int .u8 ((u2.toNat : Int) - 128)) ∧ (S 16 = true → f 91 = .int .i64 ((u2.toNat : Int) - 128)) ∧ (S 17 = true → f 92 = .int .i64 ((((u0.toNat : Int) - 224) * 4096 + ((u1.toNat : Int) - 128) * 64) + ((u2.toNat : Int) - 128))) ∧ (S 18 = true → f 7 = .int .i64 ((((u0.toNat : Int) - 224) * 4096 + ((u1.toNat : Int) - 128) * 64) + ((u2.toNat : Int) - 128))) ∧ True) (by kernel_rfl) ⟨(Kp.refl _ _).drew, rfl, rfl, rfl, (fun h => by cases h), (fun h => by cases h), (fun h => by cases h), (fun h => by cases h), (fun h => by cases h), (fun h => by cases h), (fun h => by cases h), (fun h => by cases h), (fun h => by cases h), (fun h => by cases h), (fun h => by cases h), (fun h => by cases h), (fun h => by cases h), (fun h => by cases h), (fun h => by cases h), (fun h => by cases h), (fun h => by cases h), (fun h => by cases h), (fun h => by cases h), trivial⟩ ?_ ?_
           ·intro io opx hio S f w hd hI
            obtain ⟨kR, l0, l1, l6, rv0, rv1, rv2, rv3, rv4, rv5, rv6, rv7, rv8, rv9, rv10, rv11, rv12, rv13, rv14, rv15, rv16, rv17, rv18, -⟩ := hI
            match io, hio with
            | 0, hio =>
             cases hio
             obtain ⟨g, rfl⟩ : ∃ g, f = upd (g) 6 (.int .i64 (u0.toNat : Int)) := ⟨f, upd_keep' (rfl) l6⟩
             refine mvI rfl rfl rfl (w_nil ?_)
             exact ⟨_, rfl, kR, l0, l1, l6, (fun _ => rfl), rv1, rv2, rv3, rv4, rv5, rv6, rv7, rv8, rv9, rv10, rv11, rv12, rv13, rv14, rv15, rv16, rv17, rv18, trivial⟩
            | 1, hio =>
             cases hio
             have e75 := rv0 (hd ⟨0, .data⟩ (by simp) rfl)
             obtain ⟨g, rfl⟩ : ∃ g, f = upd (g) 75 (.int .i64 (u0.toNat : Int)) := ⟨f, upd_keep' (rfl) e75⟩
             refine s_sub rfl rfl rfl rfl rfl (w64 (by omega)) (w_nil ?_)
             exact ⟨_, rfl, kR, l0, l1, l6, rv0, (fun _ => rfl), rv2, rv3, rv4, rv5, rv6, rv7, rv8, rv9, rv10, rv11, rv12, rv13, rv14, rv15, rv16, rv17, rv18, trivial⟩
            | 2, hio =>
             cases hio
             have e76 := rv1 (hd ⟨1, .data⟩ (by simp) rfl)
             obtain ⟨g, rfl⟩ : ∃ g, f = upd (g) 76 (.int .i64 ((u0.toNat : Int) - 224)) := ⟨f, upd_keep' (rfl) e76⟩
             refine s_mul rfl rfl rfl rfl rfl (w64 (by omega)) (w_nil ?_)
             exact ⟨_, rfl, kR, l0, l1, l6, rv0, rv1, (fun _ => rfl), rv3, rv4, rv5, rv6, rv7, rv8, rv9, rv10, rv11, rv12, rv13, rv14, rv15, rv16, rv17, rv18, trivial⟩
            | 3, hio =>
             cases hio
             obtain ⟨g, rfl⟩ : ∃ g, f = upd (g) 0 (.string s) := ⟨f, upd_keep' (rfl) l0⟩
             refine s_mv (v := .string _) rfl rfl rfl (w_nil ?_)
             exact ⟨_, rfl, kR, l0, l1, l6, rv0, rv1, rv2, (fun _ => rfl), rv4, rv5, rv6, rv7, rv8, rv9, rv10, rv11, rv12, rv13, rv14, rv15, rv16, rv17, rv18, trivial⟩
            | 4, hio =>
             cases hio
             obtain ⟨g, rfl⟩ : ∃ g, f = upd (g) 1 (.int .i64 (i : Nat)) := ⟨f, upd_keep' (rfl) l1⟩
             refine mvI rfl rfl rfl (w_nil ?_)
             exact ⟨_, rfl, kR, l0, l1, l6, rv0, rv1, rv2, rv3, (fun _ => rfl), rv5, rv6, rv7, rv8, rv9, rv10, rv11, rv12, rv13, rv14, rv15, rv16, rv17, rv18, trivial⟩
            | 5, hio =>
             cases hio
             have e79 := rv4 (hd ⟨4, .data⟩ (by simp) rfl)
             obtain ⟨g, rfl⟩ : ∃ g, f = upd (g) 79 (.int .i64 (i : Nat)) := ⟨f, upd_keep' (rfl) e79⟩
             refine s_add rfl rfl rfl rfl rfl (w64 (by omega)) (w_nil ?_)
             exact ⟨_, rfl, kR, l0, l1, l6, rv0, rv1, rv2, rv3, rv4, (fun _ => rfl), rv6, rv7, rv8, rv9, rv10, rv11, rv12, rv13, rv14, rv15, rv16, rv17, rv18, trivial⟩
            | 6, hio =>
             cases hio
             have e78 := rv3 (hd ⟨3, .data⟩ (by simp) rfl)
             have e80 := rv5 (hd ⟨5, .data⟩ (by simp) rfl)
             obtain ⟨g, rfl⟩ : ∃ g, f = upd (upd (g) 78 (.string s)) 80 (.int .i64 ((i : Nat) + 1 : Int)) := ⟨f, upd_keep' (upd_keep' (rfl) e78) e80⟩
             refine s_ixS Tryz.underlying9 rfl rfl rfl rfl rfl (by omega) (by rw [show ((i : Nat) + 1 : Int).toNat = i + 1 by omega]; exact hu1) (w_nil ?_)
             exact ⟨_, rfl, kR, l0, l1, l6, rv0, rv1, rv2, rv3, rv4, rv5, (fun _ => rfl), rv7, rv8, rv9, rv10, rv11, rv12, rv13, rv14, rv15, rv16, rv17, rv18, trivial⟩
            | 7, hio =>
             cases hio
             have e81 := rv6 (hd ⟨6, .data⟩ (by simp) rfl)
             obtain ⟨g, rfl⟩ : ∃ g, f = upd (g) 81 (.int .u8 (u1.toNat : Int)) := ⟨f, upd_keep' (rfl) e81⟩
             refine s_sub rfl rfl rfl rfl rfl (w8 (by omega)) (w_nil ?_)
             exact ⟨_, rfl, kR, l0, l1, l6, rv0, rv1, rv2, rv3, rv4, rv5, rv6, (fun _ => rfl), rv8, rv9, rv10, rv11, rv12, rv13, rv14, rv15, rv16, rv17, rv18, trivial⟩
            | 8, hio =>
             cases hio
             have e82 := rv7 (hd ⟨7, .data⟩ (by simp) rfl)
             obtain ⟨g, rfl⟩ : ∃ g, f = upd (g) 82 (.int .u8 ((u1.toNat : Int) - 128)) := ⟨f, upd_keep' (rfl) e82⟩
             refine s_conv (by decide) Tryz.underlying3 rfl rfl rfl (w64 (by omega)) (w_nil ?_)
             exact ⟨_, rfl, kR, l0, l1, l6, rv0, rv1, rv2, rv3, rv4, rv5, rv6, rv7, (fun _ => rfl), rv9, rv10, rv11, rv12, rv13, rv14, rv15, rv16, rv17, rv18, trivial⟩
            | 9, hio =>
             cases hio
             have e83 := rv8 (hd ⟨8, .data⟩ (by simp) rfl)
             obtain ⟨g, rfl⟩ : ∃ g, f = upd (g) 83 (.int .i64 ((u1.toNat : Int) - 128)) := ⟨f, upd_keep' (rfl) e83⟩
             refine s_mul rfl rfl rfl rfl rfl (w64 (by omega)) (w_nil ?_)
             exact ⟨_, rfl, kR, l0, l1, l6, rv0, rv1, rv2, rv3, rv4, rv5, rv6, rv7, rv8, (fun _ => rfl), rv10, rv11, rv12, rv13, rv14, rv15, rv16, rv17, rv18, trivial⟩
            | 10, hio =>
             cases hio
             have e77 := rv2 (hd ⟨2, .data⟩ (by simp) rfl)
             have e84 := rv9 (hd ⟨9, .data⟩ (by simp) rfl)
             obtain ⟨g, rfl⟩ : ∃ g, f = upd (upd (g) 77 (.int .i64 (((u0.toNat : Int) - 224) * 4096))) 84 (.int .i64 (((u1.toNat : Int) - 128) * 64)) := ⟨f, upd_keep' (upd_keep' (rfl) e77) e84⟩
             refine s_add rfl rfl rfl rfl rfl (w64 (by omega)) (w_nil ?_)
             exact ⟨_, rfl, kR, l0, l1, l6, rv0, rv1, rv2, rv3, rv4, rv5, rv6, rv7, rv8, rv9, (fun _ => rfl), rv11, rv12, rv13, rv14, rv15, rv16, rv17, rv18, trivial⟩
            | 11, hio =>
             cases hio
             obtain ⟨g, rfl⟩ : ∃ g, f = upd (g) 0 (.string s) := ⟨f, upd_keep' (rfl) l0⟩
             refine s_mv (v := .string _) rfl rfl rfl (w_nil ?_)
             exact ⟨_, rfl, kR, l0, l1, l6, rv0, rv1, rv2, rv3, rv4, rv5, rv6, rv7, rv8, rv9, rv10, (fun _ => rfl), rv12, rv13, rv14, rv15, rv16, rv17, rv18, trivial⟩
            | 12, hio =>
             cases hio
             obtain ⟨g, rfl⟩ : ∃ g, f = upd (g) 1 (.int .i64 (i : Nat)) := ⟨f, upd_keep' (rfl) l1⟩
             refine mvI rfl rfl rfl (w_nil ?_)
             exact ⟨_, rfl, kR, l0, l1, l6, rv0, rv1, rv2, rv3, rv4, rv5, rv6, rv7, rv8, rv9, rv10, rv11, (fun _ => rfl), rv13, rv14, rv15, rv16, rv17, rv18, trivial⟩
            | 13, hio =>
             cases hio
             have e87 := rv12 (hd ⟨12, .data⟩ (by simp) rfl)
             obtain ⟨g, rfl⟩ : ∃ g, f = upd (g) 87 (.int .i64 (i : Nat)) := ⟨f, upd_keep' (rfl) e87⟩
             refine s_add rfl rfl rfl rfl rfl (w64 (by omega)) (w_nil ?_)
             exact ⟨_, rfl, kR, l0, l1, l6, rv0, rv1, rv2, rv3, rv4, rv5, rv6, rv7, rv8, rv9, rv10, rv11, rv12, (fun _ => rfl), rv14, rv15, rv16, rv17, rv18, trivial⟩
            | 14, hio =>
             cases hio
             have e86 := rv11 (hd ⟨11, .data⟩ (by simp) rfl)
             have e88 := rv13 (hd ⟨13, .data⟩ (by simp) rfl)
             obtain ⟨g, rfl⟩ : ∃ g, f = upd (upd (g) 86 (.string s)) 88 (.int .i64 ((i : Nat) + 2 : Int)) := ⟨f, upd_keep' (upd_keep' (rfl) e86) e88⟩
             refine s_ixS Tryz.underlying9 rfl rfl rfl rfl rfl (by omega) (by rw [show ((i : Nat) + 2 : Int).toNat = i + 2 by omega]; exact hu2) (w_nil ?_)
             exact ⟨_, rfl, kR, l0, l1, l6, rv0, rv1, rv2, rv3, rv4, rv5, rv6, rv7, rv8, rv9, rv10, rv11, rv12, rv13, (fun _ => rfl), rv15, rv16, rv17, rv18, trivial⟩
            | 15, hio =>
             cases hio
             have e89 := rv14 (hd ⟨14, .data⟩ (by simp) rfl)
             obtain ⟨g, rfl⟩ : ∃ g, f = upd (g) 89 (.int .u8 (u2.toNat : Int)) := ⟨f, upd_keep' (rfl) e89⟩
             refine s_sub rfl rfl rfl rfl rfl (w8 (by omega)) (w_nil ?_)
             exact ⟨_, rfl, kR, l0, l1, l6, rv0, rv1, rv2, rv3, rv4, rv5, rv6, rv7, rv8, rv9, rv10, rv11, rv12, rv13, rv14, (fun _ => rfl), rv16, rv17, rv18, trivial⟩
            | 16, hio =>
             cases hio
             have e90 := rv15 (hd ⟨15, .data⟩ (by simp) rfl)
             obtain ⟨g, rfl⟩ : ∃ g, f = upd (g) 90 (.int .u8 ((u2.toNat : Int) - 128)) := ⟨f, upd_keep' (rfl) e90⟩
             refine s_conv (by decide) Tryz.underlying3 rfl rfl rfl (w64 (by omega)) (w_nil ?_)
             exact ⟨_, rfl, kR, l0, l1, l6, rv0, rv1, rv2, rv3, rv4, rv5, rv6, rv7, rv8, rv9, rv10, rv11, rv12, rv13, rv14, rv15, (fun _ => rfl), rv17, rv18, trivial⟩
            | 17, hio =>
             cases hio
             have e85 := rv10 (hd ⟨10, .data⟩ (by simp) rfl)
             have e91 := rv16 (hd ⟨16, .data⟩ (by simp) rfl)
             obtain ⟨g, rfl⟩ : ∃ g, f = upd (upd (g) 85 (.int .i64 (((u0.toNat : Int) - 224) * 4096 + ((u1.toNat : Int) - 128) * 64))) 91 (.int .i64 ((u2.toNat : Int) - 128)) := ⟨f, upd_keep' (upd_keep' (rfl) e85) e91⟩
             refine s_add rfl rfl rfl rfl rfl (w64 (by omega)) (w_nil ?_)
             exact ⟨_, rfl, kR, l0, l1, l6, rv0, rv1, rv2, rv3, rv4, rv5, rv6, rv7, rv8, rv9, rv10, rv11, rv12, rv13, rv14, rv15, rv16, (fun _ => rfl), rv18, trivial⟩
            | 18, hio =>
             cases hio
             have e92 := rv17 (hd ⟨17, .data⟩ (by simp) rfl)
             obtain ⟨g, rfl⟩ : ∃ g, f = upd (g) 92 (.int .i64 ((((u0.toNat : Int) - 224) * 4096 + ((u1.toNat : Int) - 128) * 64) + ((u2.toNat : Int) - 128))) := ⟨f, upd_keep' (rfl) e92⟩
             refine asI rfl rfl rfl (w_nil ?_)
             exact ⟨_, rfl, kR, l0, l1, l6, rv0, rv1, rv2, rv3, rv4, rv5, rv6, rv7, rv8, rv9, rv10, rv11, rv12, rv13, rv14, rv15, rv16, rv17, (fun _ => rfl), trivial⟩
            | k + 19, hio => exact absurd hio (by simp)
           ·intro S f w1 hS hI
            obtain ⟨kR, l0, l1, l6, rv0, rv1, rv2, rv3, rv4, rv5, rv6, rv7, rv8, rv9, rv10, rv11, rv12, rv13, rv14, rv15, rv16, rv17, rv18, -⟩ := hI
            obtain ⟨g, rfl⟩ : ∃ g, f = upd (upd (upd (upd (g) 0 (.string s)) 1 (.int .i64 (i : Nat))) 6 (.int .i64 (u0.toNat : Int))) 7 (.int .i64 ((((u0.toNat : Int) - 224) * 4096 + ((u1.toNat : Int) - 128) * 64) + ((u2.toNat : Int) - 128))) := ⟨f, upd_keep' (upd_keep' (upd_keep' (upd_keep' (rfl) l0) l1) l6) (rv18 (hS 18 (by decide)))⟩
            clear hS l0 l1 l6 rv0 rv1 rv2 rv3 rv4 rv5 rv6 rv7 rv8 rv9 rv10 rv11 rv12 rv13 rv14 rv15 rv16 rv17 rv18
            replace K := K.transN kR
            refine then_n (wp_seq (c_reg (mvI rfl rfl rfl (s_geq rfl rfl rfl rfl rfl rfl (w_nil (then_n ?_))))))
            refine c_if rfl rfl ?_ ?_
            ·intro ht94
             (try simp only [Q1, Q2, Q3, Q4, Q5] at ht94)
             refine wp_seq (c_reg (mvI rfl rfl rfl (asI rfl rfl rfl (asI rfl rfl rfl (w_nil (then_n (wp_ret (then_r ?_))))))))
             refine ret2 (t := 4) (u := 5) (v := .int .i64 _) (v' := .int .i64 _) rfl rfl rfl rfl rfl ⟨?_, K⟩
             (try simp only [Q1, Q2, Q3] at *)
             unfold atF
             simp only [e0]
             try simp only [e1]
             try simp only [e2]
             repeat' (first | rfl | split | (simp only [Int.lt_irrefl]; done))
             all_goals first | rfl | omega
            ·intro ht94
             (try simp only [Q1, Q2, Q3, Q4, Q5] at ht94)
             refine wp_skip (then_n (wp_seq (c_reg (asI rfl rfl rfl (asI rfl rfl rfl (w_nil (then_n (wp_ret ?_))))))))
             refine ret2 (t := 4) (u := 5) (v := .int .i64 _) (v' := .int .i64 _) rfl rfl rfl rfl rfl ⟨?_, K⟩
             (try simp only [Q1, Q2, Q3] at *)
             unfold atF
             simp only [e0]
             try simp only [e1]
             try simp only [e2]
             repeat' (first | rfl | split | (simp only [Int.lt_irrefl]; done))
             all_goals first | rfl | omega
          ·intro ht74
           (try simp only [Q1, Q2, Q3, Q4, Q5] at ht74)
           refine wp_skip (then_n (wp_seq (c_reg (asI rfl rfl rfl (asI rfl rfl rfl (w_nil (then_n (wp_ret ?_))))))))
           refine ret2 (t := 4) (u := 5) (v := .int .i64 _) (v' := .int .i64 _) rfl rfl rfl rfl rfl ⟨?_, K⟩
           (try simp only [Q1, Q2, Q3] at *)
           unfold atF
           simp only [e0]
           try simp only [e1]
           try simp only [e2]
           repeat' (first | rfl | split | (simp only [Int.lt_irrefl]; done))
           all_goals first | rfl | omega
         ·intro hs67
          (try simp only [Q1, Q2, Q3, Q4, Q5] at hs67)
          refine st_skip rfl (st_skip rfl (st_skip rfl (st_skip rfl (st_skip rfl (st_skip rfl (pFB rfl rfl rfl rfl rfl (w_nil (then_n (c_F rfl rfl ?_)))))))))
          refine wp_skip (then_n (wp_seq (c_reg (asI rfl rfl rfl (asI rfl rfl rfl (w_nil (then_n (wp_ret ?_))))))))
          refine ret2 (t := 4) (u := 5) (v := .int .i64 _) (v' := .int .i64 _) rfl rfl rfl rfl rfl ⟨?_, K⟩
          (try simp only [Q1, Q2, Q3] at *)
          unfold atF
          simp only [e0]
          try simp only [e1]
          try simp only [e2]
          repeat' (first | rfl | split | (simp only [Int.lt_irrefl]; done))
          all_goals first | rfl | omega
        ·intro hs59
         (try simp only [Q1, Q2, Q3, Q4, Q5] at hs59)
         refine st_skip rfl (st_skip rfl (st_skip rfl (st_skip rfl (st_skip rfl (st_skip rfl (pFB rfl rfl rfl rfl rfl (mvB rfl rfl rfl (st_skip rfl (st_skip rfl ?_)))))))))
         refine st_skip rfl (st_skip rfl (st_skip rfl (st_skip rfl (pFB rfl rfl rfl rfl rfl (w_nil (then_n (c_F rfl rfl (wp_skip (then_n ?_)))))))))
         refine wp_seq (c_reg (asI rfl rfl rfl (asI rfl rfl rfl (w_nil (then_n (wp_ret ?_))))))
         refine ret2 (t := 4) (u := 5) (v := .int .i64 _) (v' := .int .i64 _) rfl rfl rfl rfl rfl ⟨?_, K⟩
         (try simp only [Q1, Q2, Q3] at *)
         unfold atF
         simp only [e0]
         try simp only [e1]
         try simp only [e2]
         repeat' (first | rfl | split | (simp only [Int.lt_irrefl]; done))
         all_goals first | rfl | omega
       ·intro hs52
        (try simp only [Q1, Q2, Q3, Q4, Q5] at hs52)
        refine st_skip rfl (st_skip rfl (st_skip rfl (st_skip rfl (st_skip rfl (pFB rfl rfl rfl rfl rfl (mvB rfl rfl rfl (st_skip rfl (st_skip rfl (st_skip rfl ?_)))))))))
        refine st_skip rfl (st_skip rfl (st_skip rfl (pFB rfl rfl rfl rfl rfl (mvB rfl rfl rfl (st_skip rfl (st_skip rfl (st_skip rfl (st_skip rfl (st_skip rfl ?_)))))))))
        refine st_skip rfl (pFB rfl rfl rfl rfl rfl (w_nil (then_n (c_F rfl rfl (wp_skip (then_n (wp_seq (c_reg (asI rfl rfl rfl ?_)))))))))
        refine asI rfl rfl rfl (w_nil (then_n (wp_ret ?_)))
        refine ret2 (t := 4) (u := 5) (v := .int .i64 _) (v' := .int .i64 _) rfl rfl rfl rfl rfl ⟨?_, K⟩
        (try simp only [Q1, Q2, Q3] at *)
        unfold atF
        simp only [e0]
        try simp only [e1]
        try simp only [e2]
        repeat' (first | rfl | split | (simp only [Int.lt_irrefl]; done))
        all_goals first | rfl | omega
      ·intro hs48
       (try simp only [Q1, Q2, Q3, Q4, Q5] at hs48)
       refine st_skip rfl (st_skip rfl (pFB rfl rfl rfl rfl rfl (mvB rfl rfl rfl (st_skip rfl (st_skip rfl (st_skip rfl (st_skip rfl (st_skip rfl (pFB rfl rfl rfl rfl rfl ?_)))))))))
       refine mvB rfl rfl rfl (st_skip rfl (st_skip rfl (st_skip rfl (st_skip rfl (st_skip rfl (st_skip rfl (pFB rfl rfl rfl rfl rfl (mvB rfl rfl rfl (st_skip rfl ?_)))))))))
       refine st_skip rfl (st_skip rfl (st_skip rfl (st_skip rfl (st_skip rfl (pFB rfl rfl rfl rfl rfl (w_nil (then_n (c_F rfl rfl (wp_skip ?_)))))))))
       refine then_n (wp_seq (c_reg (asI rfl rfl rfl (asI rfl rfl rfl (w_nil (then_n (wp_ret ?_)))))))
       refine ret2 (t := 4) (u := 5) (v := .int .i64 _) (v' := .int .i64 _) rfl rfl rfl rfl rfl ⟨?_, K⟩
       (try simp only [Q1, Q2, Q3] at *)
       unfold atF
       simp only [e0]
       try simp only [e1]
       try simp only [e2]
       repeat' (first | rfl | split | (simp only [Int.lt_irrefl]; done))
       all_goals first | rfl | omega
    ·intro hs28
     (try simp only [Q1, Q2, Q3, Q4, Q5] at hs28)
     refine st_skip rfl (st_skip rfl (st_skip rfl (st_skip rfl (st_skip rfl (st_skip rfl (pFB rfl rfl rfl rfl rfl (w_nil (then_n (c_F rfl rfl ?_)))))))))
     refine wp_skip (then_n (wp_seq (wp_seq (c_reg (mvI rfl rfl rfl (s_geq rfl rfl rfl rfl rfl rfl (mvB rfl rfl rfl ?_)))))))
     refine w_split (t := 48) rfl ?_ ?_
     ·intro hs48
      (try simp only [Q1, Q2, Q3, Q4, Q5] at hs48)
      refine mvI rfl rfl rfl (s_lss rfl rfl rfl rfl rfl rfl (pTB rfl rfl rfl rfl rfl (mvB rfl rfl rfl ?_)))
      refine w_split (t := 52) rfl ?_ ?_
      ·intro hs52
       (try simp only [Q1, Q2, Q3, Q4, Q5] at hs52)
       refine mvI rfl rfl rfl (s_add rfl rfl rfl rfl rfl (w64 (by omega)) (s_mv (v := .string _) rfl rfl rfl (s_lenS Tryz.underlying9 rfl rfl rfl (s_lss rfl rfl rfl rfl rfl rfl (pTB rfl rfl rfl rfl rfl (mvB rfl rfl rfl ?_))))))
       refine w_split (t := 59) rfl ?_ ?_
       ·intro hs59
        (try simp only [Q1, Q2, Q3, Q4, Q5] at hs59)
        obtain ⟨u1, hu1, e1, g1, l1⟩ := bt_get (s := s) (i := i + 1) (by omega)
        obtain ⟨u2, hu2, e2, g2, l2⟩ := bt_get (s := s) (i := i + 2) (by omega)
        refine s_mv (v := .string _) rfl rfl rfl (mvI rfl rfl rfl (s_add rfl rfl rfl rfl rfl (w64 (by omega)) (s_ixS Tryz.underlying9 rfl rfl rfl rfl rfl (by omega) (by rw [show ((i : Nat) + 1 : Int).toNat = i + 1 by omega]; exact hu1) (s_shr (c := _ / 64) rfl rfl rfl rfl rfl (by decide) (by decide) rfl (s_eq rfl rfl rfl rfl rfl rfl (pTB rfl rfl rfl rfl rfl (mvB rfl rfl rfl ?_)))))))
        refine w_split (t := 67) rfl ?_ ?_
        ·intro hs67
         (try simp only [Q1, Q2, Q3, Q4, Q5] at hs67)
         refine s_mv (v := .string _) rfl rfl rfl (mvI rfl rfl rfl (s_add rfl rfl rfl rfl rfl (w64 (by omega)) (s_ixS Tryz.underlying9 rfl rfl rfl rfl rfl (by omega) (by rw [show ((i : Nat) + 2 : Int).toNat = i + 2 by omega]; exact hu2) (s_shr (c := _ / 64) rfl rfl rfl rfl rfl (by decide) (by decide) rfl (s_eq rfl rfl rfl rfl rfl rfl (pTB rfl rfl rfl rfl rfl (w_nil (then_n ?_))))))))
         refine c_if rfl rfl ?_ ?_
         ·intro ht74
          (try simp only [Q1, Q2, Q3, Q4, Q5] at ht74)
          refine wp_seq ?_
          refine c_draw' (fun S f w => New W w ∧ f 0 = .string s ∧ f 1 = .int .i64 (i : Nat) ∧ f 6 = .int .i64 (u0.toNat : Int) ∧ (S 0 = true → f 75 = .int .i64 (u0.toNat : Int)) ∧ (S 1 = true → f 76 = .int .i64 ((u0.toNat : Int) - 224)) ∧ (S 2 = true → f 77 = .int .i64 (((u0.toNat : Int) - 224) * 4096)) ∧ (S 3 = true → f 78 = .string s) ∧ (S 4 = true → f 79 = .int .i64 (i : Nat)) ∧ (S 5 = true → f 80 = .int .i64 ((i : Nat) + 1 : Int)) ∧ (S 6 = true → f 81 = .int .u8 (u1.toNat : Int)) ∧ (S 7 = true → f 82 = .int .u8 ((u1.toNat : Int) - 128)) ∧ (S 8 = true → f 83 = .int .i64 ((u1.toNat : Int) - 128)) ∧ (S 9 = true → f 84 = .int .i64 (((u1.toNat : Int) - 128) * 64)) ∧ (S 10 = true → f 85 = .int .i64 (((u0.toNat : Int) - 224) * 4096 + ((u1.toNat : Int) - 128) * 64)) ∧ (S 11 = true → f 86 = .string s) ∧ (S 12 = true → f 87 = .int .i64 (i : Nat)) ∧ (S 13 = true → f 88 = .int .i64 ((i : Nat) + 2 : Int)) ∧ (S 14 = true → f 89 = .int .u8 (u2.toNat : Int)) ∧ (S 15 = true → f 90 = .int .u8 ((u2.toNat : Int) - 128)) ∧ (S 16 = true → f 91 = .int .i64 ((u2.toNat : Int) - 128)) ∧ (S 17 = true → f 92 = .int .i64 ((((u0.toNat : Int) - 224) * 4096 + ((u1.toNat : Int) - 128) * 64) + ((u2.toNat : Int) - 128))) ∧ (S 18 = true → f 7 = .int .i64 ((((u0.toNat : Int) - 224) * 4096 + ((u1.toNat : Int) - 128) * 64) + ((u2.toNat : Int) - 128))) ∧ True) (by kernel_rfl) ⟨(Kp.refl _ _).drew, rfl, rfl, rfl, (fun h => by cases h), (fun h => by cases h), (fun h => by cases h), (fun h => by cases h), (fun h => by cases h), (fun h => by cases h), (fun h => by cases h), (fun h => by cases h), (fun h => by cases h), (fun h => by cases h), (fun h => by cases h), (fun h => by cases h), (fun h => by cases h), (fun h => by cases h), (fun h => by cases h), (fun h => by cases h), (fun h => by cases h), (fun h => by cases h), (fun h => by cases h), trivial⟩ ?_ ?_
          ·intro io opx hio S f w hd hI
           obtain ⟨kR, l0, l1, l6, rv0, rv1, rv2, rv3, rv4, rv5, rv6, rv7, rv8, rv9, rv10, rv11, rv12, rv13, rv14, rv15, rv16, rv17, rv18, -⟩ := hI
           match io, hio with
           | 0, hio =>
            cases hio
            obtain ⟨g, rfl⟩ : ∃ g, f = upd (g) 6 (.int .i64 (u0.toNat : Int)) := ⟨f, upd_keep' (rfl) l6⟩
            refine mvI rfl rfl rfl (w_nil ?_)
            exact ⟨_, rfl, kR, l0, l1, l6, (fun _ => rfl), rv1, rv2, rv3, rv4, rv5, rv6, rv7, rv8, rv9, rv10, rv11, rv12, rv13, rv14, rv15, rv16, rv17, rv18, trivial⟩
           | 1, hio =>
            cases hio
            have e75 := rv0 (hd ⟨0, .data⟩ (by simp) rfl)
            obtain ⟨g, rfl⟩ : ∃ g, f = upd (g) 75 (.int .i64 (u0.toNat : Int)) := ⟨f, upd_keep' (rfl) e75⟩
            refine s_sub rfl rfl rfl rfl rfl (w64 (by omega)) (w_nil ?_)
            exact ⟨_, rfl, kR, l0, l1, l6, rv0, (fun _ => rfl), rv2, rv3, rv4, rv5, rv6, rv7, rv8, rv9, rv10, rv11, rv12, rv13, rv14, rv15, rv16, rv17, rv18, trivial⟩
           | 2, hio =>
            cases hio
            have e76 := rv1 (hd ⟨1, .data⟩ (by simp) rfl)
            obtain ⟨g, rfl⟩ : ∃ g, f = upd (g) 76 (.int .i64 ((u0.toNat : Int) - 224)) := ⟨f, upd_keep' (rfl) e76⟩
            refine s_mul rfl rfl rfl rfl rfl (w64 (by omega)) (w_nil ?_)
            exact ⟨_, rfl, kR, l0, l1, l6, rv0, rv1, (fun _ => rfl), rv3, rv4, rv5, rv6, rv7, rv8, rv9, rv10, rv11, rv12, rv13, rv14, rv15, rv16, rv17, rv18, trivial⟩
           | 3, hio =>
            cases hio
            obtain ⟨g, rfl⟩ : ∃ g, f = upd (g) 0 (.string s) := ⟨f, upd_keep' (rfl) l0⟩
            refine s_mv (v := .string _) rfl rfl rfl (w_nil ?_)
            exact ⟨_, rfl, kR, l0, l1, l6, rv0, rv1, rv2, (fun _ => rfl), rv4, rv5, rv6, rv7, rv8, rv9, rv10, rv11, rv12, rv13, rv14, rv15, rv16, rv17, rv18, trivial⟩
           | 4, hio =>
            cases hio
            obtain ⟨g, rfl⟩ : ∃ g, f = upd (g) 1 (.int .i64 (i : Nat)) := ⟨f, upd_keep' (rfl) l1⟩
            refine mvI rfl rfl rfl (w_nil ?_)
            exact ⟨_, rfl, kR, l0, l1, l6, rv0, rv1, rv2, rv3, (fun _ => rfl), rv5, rv6, rv7, rv8, rv9, rv10, rv11, rv12, rv13, rv14, rv15, rv16, rv17, rv18, trivial⟩
           | 5, hio =>
            cases hio
            have e79 := rv4 (hd ⟨4, .data⟩ (by simp) rfl)
            obtain ⟨g, rfl⟩ : ∃ g, f = upd (g) 79 (.int .i64 (i : Nat)) := ⟨f, upd_keep' (rfl) e79⟩
            refine s_add rfl rfl rfl rfl rfl (w64 (by omega)) (w_nil ?_)
            exact ⟨_, rfl, kR, l0, l1, l6, rv0, rv1, rv2, rv3, rv4, (fun _ => rfl), rv6, rv7, rv8, rv9, rv10, rv11, rv12, rv13, rv14, rv15, rv16, rv17, rv18, trivial⟩
           | 6, hio =>
            cases hio
            have e78 := rv3 (hd ⟨3, .data⟩ (by simp) rfl)
            have e80 := rv5 (hd ⟨5, .data⟩ (by simp) rfl)
            obtain ⟨g, rfl⟩ : ∃ g, f = upd (upd (g) 78 (.string s)) 80 (.int .i64 ((i : Nat) + 1 : Int)) := ⟨f, upd_keep' (upd_keep' (rfl) e78) e80⟩
            refine s_ixS Tryz.underlying9 rfl rfl rfl rfl rfl (by omega) (by rw [show ((i : Nat) + 1 : Int).toNat = i + 1 by omega]; exact hu1) (w_nil ?_)
            exact ⟨_, rfl, kR, l0, l1, l6, rv0, rv1, rv2, rv3, rv4, rv5, (fun _ => rfl), rv7, rv8, rv9, rv10, rv11, rv12, rv13, rv14, rv15, rv16, rv17, rv18, trivial⟩
           | 7, hio =>
            cases hio
            have e81 := rv6 (hd ⟨6, .data⟩ (by simp) rfl)
            obtain ⟨g, rfl⟩ : ∃ g, f = upd (g) 81 (.int .u8 (u1.toNat : Int)) := ⟨f, upd_keep' (rfl) e81⟩
            refine s_sub rfl rfl rfl rfl rfl (w8 (by omega)) (w_nil ?_)
            exact ⟨_, rfl, kR, l0, l1, l6, rv0, rv1, rv2, rv3, rv4, rv5, rv6, (fun _ => rfl), rv8, rv9, rv10, rv11, rv12, rv13, rv14, rv15, rv16, rv17, rv18, trivial⟩
           | 8, hio =>
            cases hio
            have e82 := rv7 (hd ⟨7, .data⟩ (by simp) rfl)
            obtain ⟨g, rfl⟩ : ∃ g, f = upd (g) 82 (.int .u8 ((u1.toNat : Int) - 128)) := ⟨f, upd_keep' (rfl) e82⟩
            refine s_conv (by decide) Tryz.underlying3 rfl rfl rfl (w64 (by omega)) (w_nil ?_)
            exact ⟨_, rfl, kR, l0, l1, l6, rv0, rv1, rv2, rv3, rv4, rv5, rv6, rv7, (fun _ => rfl), rv9, rv10, rv11, rv12, rv13, rv14, rv15, rv16, rv17, rv18, trivial⟩
           | 9, hio =>
            cases hio
            have e83 := rv8 (hd ⟨8, .data⟩ (by simp) rfl)
            obtain ⟨g, rfl⟩ : ∃ g, f = upd (g) 83 (.int .i64 ((u1.toNat : Int) - 128)) := ⟨f, upd_keep' (rfl) e83⟩
            refine s_mul rfl rfl rfl rfl rfl (w64 (by omega)) (w_nil ?_)
            exact ⟨_, rfl, kR, l0, l1, l6, rv0, rv1, rv2, rv3, rv4, rv5, rv6, rv7, rv8, (fun _ => rfl), rv10, rv11, rv12, rv13, rv14, rv15, rv16, rv17, rv18, trivial⟩
           | 10, hio =>
            cases hio
            have e77 := rv2 (hd ⟨2, .data⟩ (by simp) rfl)
            have e84 := rv9 (hd ⟨9, .data⟩ (by simp) rfl)
            obtain ⟨g, rfl⟩ : ∃ g, f = upd (upd (g) 77 (.int .i64 (((u0.toNat : Int) - 224) * 4096))) 84 (.int .i64 (((u1.toNat : Int) - 128) * 64)) := ⟨f, upd_keep' (upd_keep' (rfl) e77) e84⟩
            refine s_add rfl rfl rfl rfl rfl (w64 (by omega)) (w_nil ?_)
            exact ⟨_, rfl, kR, l0, l1, l6, rv0, rv1, rv2, rv3, rv4, rv5, rv6, rv7, rv8, rv9, (fun _ => rfl), rv11, rv12, rv13, rv14, rv15, rv16, rv17, rv18, trivial⟩
           | 11, hio =>
            cases hio
            obtain ⟨g, rfl⟩ : ∃ g, f = upd (g) 0 (.string s) := ⟨f, upd_keep' (rfl) l0⟩
            refine s_mv (v := .string _) rfl rfl rfl (w_nil ?_)
            exact ⟨_, rfl, kR, l0, l1, l6, rv0, rv1, rv2, rv3, rv4, rv5, rv6, rv7, rv8, rv9, rv10, (fun _ => rfl), rv12, rv13, rv14, rv15, rv16, rv17, rv18, trivial⟩
           | 12, hio =>
            cases hio
            obtain ⟨g, rfl⟩ : ∃ g, f = upd (g) 1 (.int .i64 (i : Nat)) := ⟨f, upd_keep' (rfl) l1⟩
            refine mvI rfl rfl rfl (w_nil ?_)
            exact ⟨_, rfl, kR, l0, l1, l6, rv0, rv1, rv2, rv3, rv4, rv5, rv6, rv7, rv8, rv9, rv10, rv11, (fun _ => rfl), rv13, rv14, rv15, rv16, rv17, rv18, trivial⟩
           | 13, hio =>
            cases hio
            have e87 := rv12 (hd ⟨12, .data⟩ (by simp) rfl)
            obtain ⟨g, rfl⟩ : ∃ g, f = upd (g) 87 (.int .i64 (i : Nat)) := ⟨f, upd_keep' (rfl) e87⟩
            refine s_add rfl rfl rfl rfl rfl (w64 (by omega)) (w_nil ?_)
            exact ⟨_, rfl, kR, l0, l1, l6, rv0, rv1, rv2, rv3, rv4, rv5, rv6, rv7, rv8, rv9, rv10, rv11, rv12, (fun _ => rfl), rv14, rv15, rv16, rv17, rv18, trivial⟩
           | 14, hio =>
            cases hio
            have e86 := rv11 (hd ⟨11, .data⟩ (by simp) rfl)
            have e88 := rv13 (hd ⟨13, .data⟩ (by simp) rfl)
            obtain ⟨g, rfl⟩ : ∃ g, f = upd (upd (g) 86 (.string s)) 88 (.int .i64 ((i : Nat) + 2 : Int)) := ⟨f, upd_keep' (upd_keep' (rfl) e86) e88⟩
            refine s_ixS Tryz.underlying9 rfl rfl rfl rfl rfl (by omega) (by rw [show ((i : Nat) + 2 : Int).toNat = i + 2 by omega]; exact hu2) (w_nil ?_)
            exact ⟨_, rfl, kR, l0, l1, l6, rv0, rv1, rv2, rv3, rv4, rv5, rv6, rv7, rv8, rv9, rv10, rv11, rv12, rv13, (fun _ => rfl), rv15, rv16, rv17, rv18, trivial⟩
           | 15, hio =>
            cases hio
            have e89 := rv14 (hd ⟨14, .data⟩ (by simp) rfl)
            obtain ⟨g, rfl⟩ : ∃ g, f = upd (g) 89 (.int .u8 (u2.toNat : Int)) := ⟨f, upd_keep' (rfl) e89⟩
            refine s_sub rfl rfl rfl rfl rfl (w8 (by omega)) (w_nil ?_)
            exact ⟨_, rfl, kR, l0, l1, l6, rv0, rv1, rv2, rv3, rv4, rv5, rv6, rv7, rv8, rv9, rv10, rv11, rv12, rv13, rv14, (fun _ => rfl), rv16, rv17, rv18, trivial⟩
           | 16, hio =>
            cases hio
            have e90 := rv15 (hd ⟨15, .data⟩ (by simp) rfl)
            obtain ⟨g, rfl⟩ : ∃ g, f = upd (g) 90 (.int .u8 ((u2.toNat : Int) - 128)) := ⟨f, upd_keep' (rfl) e90⟩
            refine s_conv (by decide) Tryz.underlying3 rfl rfl rfl (w64 (by omega)) (w_nil ?_)
            exact ⟨_, rfl, kR, l0, l1, l6, rv0, rv1, rv2, rv3, rv4, rv5, rv6, rv7, rv8, rv9, rv10, rv11, rv12, rv13, rv14, rv15, (fun _ => rfl), rv17, rv18, trivial⟩
           | 17, hio =>
            cases hio
            have e85 := rv10 (hd ⟨10, .data⟩ (by simp) rfl)
            have e91 := rv16 (hd ⟨16, .data⟩ (by simp) rfl)
            obtain ⟨g, rfl⟩ : ∃ g, f = upd (upd (g) 85 (.int .i64 (((u0.toNat : Int) - 224) * 4096 + ((u1.toNat : Int) - 128) * 64))) 91 (.int .i64 ((u2.toNat : Int) - 128)) := ⟨f, upd_keep' (upd_keep' (rfl) e85) e91⟩
            refine s_add rfl rfl rfl rfl rfl (w64 (by omega)) (w_nil ?_)
            exact ⟨_, rfl, kR, l0, l1, l6, rv0, rv1, rv2, rv3, rv4, rv5, rv6, rv7, rv8, rv9, rv10, rv11, rv12, rv13, rv14, rv15, rv16, (fun _ => rfl), rv18, trivial⟩
           | 18, hio =>
            cases hio
            have e92 := rv17 (hd ⟨17, .data⟩ (by simp) rfl)
            obtain ⟨g, rfl⟩ : ∃ g, f = upd (g) 92 (.int .i64 ((((u0.toNat : Int) - 224) * 4096 + ((u1.toNat : Int) - 128) * 64) + ((u2.toNat : Int) - 128))) := ⟨f, upd_keep' (rfl) e92⟩
            refine asI rfl rfl rfl (w_nil ?_)
            exact ⟨_, rfl, kR, l0, l1, l6, rv0, rv1, rv2, rv3, rv4, rv5, rv6, rv7, rv8, rv9, rv10, rv11, rv12, rv13, rv14, rv15, rv16, rv17, (fun _ => rfl), trivial⟩
           | k + 19, hio => exact absurd hio (by simp)
          ·intro S f w1 hS hI
           obtain ⟨kR, l0, l1, l6, rv0, rv1, rv2, rv3, rv4, rv5, rv6, rv7, rv8, rv9, rv10, rv11, rv12, rv13, rv14, rv15, rv16, rv17, rv18, -⟩ := hI
           obtain ⟨g, rfl⟩ : ∃ g, f = upd (upd (upd (upd (g) 0 (.string s)) 1 (.int .i64 (i : Nat))) 6 (.int .i64 (u0.toNat : Int))) 7 (.int .i64 ((((u0.toNat : Int) - 224) * 4096 + ((u1.toNat : Int) - 128) * 64) + ((u2.toNat : Int) - 128))) := ⟨f, upd_keep' (upd_keep' (upd_keep' (upd_keep' (rfl) l0) l1) l6) (rv18 (hS 18 (by decide)))⟩
           clear hS l0 l1 l6 rv0 rv1 rv2 rv3 rv4 rv5 rv6 rv7 rv8 rv9 rv10 rv11 rv12 rv13 rv14 rv15 rv16 rv17 rv18
           replace K := K.transN kR
           refine then_n (wp_seq (c_reg (mvI rfl rfl rfl (s_geq rfl rfl rfl rfl rfl rfl (w_nil (then_n ?_))))))
           refine c_if rfl rfl ?_ ?_
           ·intro ht94
            (try simp only [Q1, Q2, Q3, Q4, Q5] at ht94)
            refine wp_seq (c_reg (mvI rfl rfl rfl (asI rfl rfl rfl (asI rfl rfl rfl (w_nil (then_n (wp_ret (then_r ?_))))))))
            refine ret2 (t := 4) (u := 5) (v := .int .i64 _) (v' := .int .i64 _) rfl rfl rfl rfl rfl ⟨?_, K⟩
            (try simp only [Q1, Q2, Q3] at *)
            unfold atF
            simp only [e0]
            try simp only [e1]
            try simp only [e2]
            repeat' (first | rfl | split | (simp only [Int.lt_irrefl]; done))
            all_goals first | rfl | omega
           ·intro ht94
            (try simp only [Q1, Q2, Q3, Q4, Q5] at ht94)
            refine wp_skip (then_n (wp_seq (c_reg (asI rfl rfl rfl (asI rfl rfl rfl (w_nil (then_n (wp_ret ?_))))))))
            refine ret2 (t := 4) (u := 5) (v := .int .i64 _) (v' := .int .i64 _) rfl rfl rfl rfl rfl ⟨?_, K⟩
            (try simp only [Q1, Q2, Q3] at *)
            unfold atF
            simp only [e0]
            try simp only [e1]
            try simp only [e2]
            repeat' (first | rfl | split | (simp only [Int.lt_irrefl]; done))
            all_goals first | rfl | omega
         ·intro ht74
          (try simp only [Q1, Q2, Q3, Q4, Q5] at ht74)
          refine wp_skip (then_n (wp_seq (c_reg (asI rfl rfl rfl (asI rfl rfl rfl (w_nil (then_n (wp_ret ?_))))))))
          refine ret2 (t := 4) (u := 5) (v := .int .i64 _) (v' := .int .i64 _) rfl rfl rfl rfl rfl ⟨?_, K⟩
          (try simp only [Q1, Q2, Q3] at *)
          unfold atF
          simp only [e0]
          try simp only [e1]
          try simp only [e2]
          repeat' (first | rfl | split | (simp only [Int.lt_irrefl]; done))
          all_goals first | rfl | omega
        ·intro hs67
         (try simp only [Q1, Q2, Q3, Q4, Q5] at hs67)
         refine st_skip rfl (st_skip rfl (st_skip rfl (st_skip rfl (st_skip rfl (st_skip rfl (pFB rfl rfl rfl rfl rfl (w_nil (then_n (c_F rfl rfl ?_)))))))))
         refine wp_skip (then_n (wp_seq (c_reg (asI rfl rfl rfl (asI rfl rfl rfl (w_nil (then_n (wp_ret ?_))))))))
         refine ret2 (t := 4) (u := 5) (v := .int .i64 _) (v' := .int .i64 _) rfl rfl rfl rfl rfl ⟨?_, K⟩
         (try simp only [Q1, Q2, Q3] at *)
         unfold atF
         simp only [e0]
         try simp only [e1]
         try simp only [e2]
         repeat' (first | rfl | split | (simp only [Int.lt_irrefl]; done))
         all_goals first | rfl | omega
       ·intro hs59
        (try simp only [Q1, Q2, Q3, Q4, Q5] at hs59)
        refine st_skip rfl (st_skip rfl (st_skip rfl (st_skip rfl (st_skip rfl (st_skip rfl (pFB rfl rfl rfl rfl rfl (mvB rfl rfl rfl (st_skip rfl (st_skip rfl ?_)))))))))
        refine st_skip rfl (st_skip rfl (st_skip rfl (st_skip rfl (pFB rfl rfl rfl rfl rfl (w_nil (then_n (c_F rfl rfl (wp_skip (then_n ?_)))))))))
        refine wp_seq (c_reg (asI rfl rfl rfl (asI rfl rfl rfl (w_nil (then_n (wp_ret ?_))))))
        refine ret2 (t := 4) (u := 5) (v := .int .i64 _) (v' := .int .i64 _) rfl rfl rfl rfl rfl ⟨?_, K⟩
        (try simp only [Q1, Q2, Q3] at *)
        unfold atF
        simp only [e0]
        try simp only [e1]
        try simp only [e2]
        repeat' (first | rfl | split | (simp only [Int.lt_irrefl]; done))
        all_goals first | rfl | omega
      ·intro hs52
       (try simp only [Q1, Q2, Q3, Q4, Q5] at hs52)
       refine st_skip rfl (st_skip rfl (st_skip rfl (st_skip rfl (st_skip rfl (pFB rfl rfl rfl rfl rfl (mvB rfl rfl rfl (st_skip rfl (st_skip rfl (st_skip rfl ?_)))))))))
       refine st_skip rfl (st_skip rfl (st_skip rfl (pFB rfl rfl rfl rfl rfl (mvB rfl rfl rfl (st_skip rfl (st_skip rfl (st_skip rfl (st_skip rfl (st_skip rfl ?_)))))))))
       refine st_skip rfl (pFB rfl rfl rfl rfl rfl (w_nil (then_n (c_F rfl rfl (wp_skip (then_n (wp_seq (c_reg (asI rfl rfl rfl ?_)))))))))
       refine asI rfl rfl rfl (w_nil (then_n (wp_ret ?_)))
       refine ret2 (t := 4) (u := 5) (v := .int .i64 _) (v' := .int .i64 _) rfl rfl rfl rfl rfl ⟨?_, K⟩
       (try simp only [Q1, Q2, Q3] at *)
       unfold atF
       simp only [e0]
       try simp only [e1]
       try simp only [e2]
       repeat' (first | rfl | split | (simp only [Int.lt_irrefl]; done))
       all_goals first | rfl | omega
     ·intro hs48
      (try simp only [Q1, Q2, Q3, Q4, Q5] at hs48)
      refine st_skip rfl (st_skip rfl (pFB rfl rfl rfl rfl rfl (mvB rfl rfl rfl (st_skip rfl (st_skip rfl (st_skip rfl (st_skip rfl (st_skip rfl (pFB rfl rfl rfl rfl rfl ?_)))))))))
      refine mvB rfl rfl rfl (st_skip rfl (st_skip rfl (st_skip rfl (st_skip rfl (st_skip rfl (st_skip rfl (pFB rfl rfl rfl rfl rfl (mvB rfl rfl rfl (st_skip rfl ?_)))))))))
      refine st_skip rfl (st_skip rfl (st_skip rfl (st_skip rfl (st_skip rfl (pFB rfl rfl rfl rfl rfl (w_nil (then_n (c_F rfl rfl (wp_skip ?_)))))))))
      refine then_n (wp_seq (c_reg (asI rfl rfl rfl (asI rfl rfl rfl (w_nil (then_n (wp_ret ?_)))))))
      refine ret2 (t := 4) (u := 5) (v := .int .i64 _) (v' := .int .i64 _) rfl rfl rfl rfl rfl ⟨?_, K⟩
      (try simp only [Q1, Q2, Q3] at *)
      unfold atF
      simp only [e0]
      try simp only [e1]
      try simp only [e2]
      repeat' (first | rfl | split | (simp only [Int.lt_irrefl]; done))
      all_goals first | rfl | omega
   ·intro hs21
    (try simp only [Q1, Q2, Q3, Q4, Q5] at hs21)
    refine st_skip rfl (st_skip rfl (st_skip rfl (st_skip rfl (st_skip rfl (pFB rfl rfl rfl rfl rfl (mvB rfl rfl rfl (st_skip rfl (st_skip rfl (st_skip rfl ?_)))))))))
    refine st_skip rfl (st_skip rfl (st_skip rfl (pFB rfl rfl rfl rfl rfl (w_nil (then_n (c_F rfl rfl (wp_skip (then_n (wp_seq ?_)))))))))
    refine wp_seq (c_reg (mvI rfl rfl rfl (s_geq rfl rfl rfl rfl rfl rfl (mvB rfl rfl rfl ?_))))
    refine w_split (t := 48) rfl ?_ ?_
    ·intro hs48
     (try simp only [Q1, Q2, Q3, Q4, Q5] at hs48)
     refine mvI rfl rfl rfl (s_lss rfl rfl rfl rfl rfl rfl (pTB rfl rfl rfl rfl rfl (mvB rfl rfl rfl ?_)))
     refine w_split (t := 52) rfl ?_ ?_
     ·intro hs52
      (try simp only [Q1, Q2, Q3, Q4, Q5] at hs52)
      refine mvI rfl rfl rfl (s_add rfl rfl rfl rfl rfl (w64 (by omega)) (s_mv (v := .string _) rfl rfl rfl (s_lenS Tryz.underlying9 rfl rfl rfl (s_lss rfl rfl rfl rfl rfl rfl (pTB rfl rfl rfl rfl rfl (mvB rfl rfl rfl ?_))))))
      refine w_split (t := 59) rfl ?_ ?_
      ·intro hs59
       (try simp only [Q1, Q2, Q3, Q4, Q5] at hs59)
       obtain ⟨u1, hu1, e1, g1, l1⟩ := bt_get (s := s) (i := i + 1) (by omega)
       obtain ⟨u2, hu2, e2, g2, l2⟩ := bt_get (s := s) (i := i + 2) (by omega)
       refine s_mv (v := .string _) rfl rfl rfl (mvI rfl rfl rfl (s_add rfl rfl rfl rfl rfl (w64 (by omega)) (s_ixS Tryz.underlying9 rfl rfl rfl rfl rfl (by omega) (by rw [show ((i : Nat) + 1 : Int).toNat = i + 1 by omega]; exact hu1) (s_shr (c := _ / 64) rfl rfl rfl rfl rfl (by decide) (by decide) rfl (s_eq rfl rfl rfl rfl rfl rfl (pTB rfl rfl rfl rfl rfl (mvB rfl rfl rfl ?_)))))))
       refine w_split (t := 67) rfl ?_ ?_
       ·intro hs67
        (try simp only [Q1, Q2, Q3, Q4, Q5] at hs67)
        refine s_mv (v := .string _) rfl rfl rfl (mvI rfl rfl rfl (s_add rfl rfl rfl rfl rfl (w64 (by omega)) (s_ixS Tryz.underlying9 rfl rfl rfl rfl rfl (by omega) (by rw [show ((i : Nat) + 2 : Int).toNat = i + 2 by omega]; exact hu2) (s_shr (c := _ / 64) rfl rfl rfl rfl rfl (by decide) (by decide) rfl (s_eq rfl rfl rfl rfl rfl rfl (pTB rfl rfl rfl rfl rfl (w_nil (then_n ?_))))))))
        refine c_if rfl rfl ?_ ?_
        ·intro ht74
         (try simp only [Q1, Q2, Q3, Q4, Q5] at ht74)
         refine wp_seq ?_
         refine c_draw' (fun S f w => New W w ∧ f 0 = .string s ∧ f 1 = .int .i64 (i : Nat) ∧ f 6 = .int .i64 (u0.toNat : Int) ∧ (S 0 = true → f 75 = .int .i64 (u0.toNat : Int)) ∧ (S 1 = true → f 76 = .int .i64 ((u0.toNat : Int) - 224)) ∧ (S 2 = true → f 77 = .int .i64 (((u0.toNat : Int) - 224) * 4096)) ∧ (S 3 = true → f 78 = .string s) ∧ (S 4 = true → f 79 = .int .i64 (i : Nat)) ∧ (S 5 = true → f 80 = .int .i64 ((i : Nat) + 1 : Int)) ∧ (S 6 = true → f 81 = .int .u8 (u1.toNat : Int)) ∧ (S 7 = true → f 82 = .int .u8 ((u1.toNat : Int) - 128)) ∧ (S 8 = true → f 83 = .int .i64 ((u1.toNat : Int) - 128)) ∧ (S 9 = true → f 84 = .int .i64 (((u1.toNat : Int) - 128) * 64)) ∧ (S 10 = true → f 85 = .int .i64 (((u0.toNat : Int) - 224) * 4096 + ((u1.toNat : Int) - 128) * 64)) ∧ (S 11 = true → f 86 = .string s) ∧ (S 12 = true → f 87 = .int .i64 (i : Nat)) ∧ (S 13 = true → f 88 = .int .i64 ((i : Nat) + 2 : Int)) ∧ (S 14 = true → f 89 = .int .u8 (u2.toNat : Int)) ∧ (S 15 = true → f 90 = .int .u8 ((u2.toNat : Int) - 128)) ∧ (S 16 = true → f 91 = .int .i64 ((u2.toNat : Int) - 128)) ∧ (S 17 = true → f 92 = .int .i64 ((((u0.toNat : Int) - 224) * 4096 + ((u1.toNat : Int) - 128) * 64) + ((u2.toNat : Int) - 128))) ∧ (S 18 = true → f 7 = .int .i64 ((((u0.toNat : Int) - 224) * 4096 + ((u1.toNat : Int) - 128) * 64) + ((u2.toNat : Int) - 128))) ∧ True) (by kernel_rfl) ⟨(Kp.refl _ _).drew, rfl, rfl, rfl, (fun h => by cases h), (fun h => by cases h), (fun h => by cases h), (fun h => by cases h), (fun h => by cases h), (fun h => by cases h), (fun h => by cases h), (fun h => by cases h), (fun h => by cases h), (fun h => by cases h), (fun h => by cases h), (fun h => by cases h), (fun h => by cases h), (fun h => by cases h), (fun h => by cases h), (fun h => by cases h), (fun h => by cases h), (fun h => by cases h), (fun h => by cases h), trivial⟩ ?_ ?_
         ·intro io opx hio S f w hd hI
          obtain ⟨kR, l0, l1, l6, rv0, rv1, rv2, rv3, rv4, rv5, rv6, rv7, rv8, rv9, rv10, rv11, rv12, rv13, rv14, rv15, rv16, rv17, rv18, -⟩ := hI
          match io, hio with
          | 0, hio =>
           cases hio
           obtain ⟨g, rfl⟩ : ∃ g, f = upd (g) 6 (.int .i64 (u0.toNat : Int)) := ⟨f, upd_keep' (rfl) l6⟩
           refine mvI rfl rfl rfl (w_nil ?_)
           exact ⟨_, rfl, kR, l0, l1, l6, (fun _ => rfl), rv1, rv2, rv3, rv4, rv5, rv6, rv7, rv8, rv9, rv10, rv11, rv12, rv13, rv14, rv15, rv16, rv17, rv18, trivial⟩
          | 1, hio =>
           cases hio
           have e75 := rv0 (hd ⟨0, .data⟩ (by simp) rfl)
           obtain ⟨g, rfl⟩ : ∃ g, f = upd (g) 75 (.int .i64 (u0.toNat : Int)) := ⟨f, upd_keep' (rfl) e75⟩
           refine s_sub rfl rfl rfl rfl rfl (w64 (by omega)) (w_nil ?_)
           exact ⟨_, rfl, kR, l0, l1, l6, rv0, (fun _ => rfl), rv2, rv3, rv4, rv5, rv6, rv7, rv8, rv9, rv10, rv11, rv12, rv13, rv14, rv15, rv16, rv17, rv18, trivial⟩
          | 2, hio =>
           cases hio
           have e76 := rv1 (hd ⟨1, .data⟩ (by simp) rfl)
           obtain ⟨g, rfl⟩ : ∃ g, f = upd (g) 76 (.int .i64 ((u0.toNat : Int) - 224)) := ⟨f, upd_keep' (rfl) e76⟩
           refine s_mul rfl rfl rfl rfl rfl (w64 (by omega)) (w_nil ?_)
           exact ⟨_, rfl, kR, l0, l1, l6, rv0, rv1, (fun _ => rfl), rv3, rv4, rv5, rv6, rv7, rv8, rv9, rv10, rv11, rv12, rv13, rv14, rv15, rv16, rv17, rv18, trivial⟩
          | 3, hio =>
           cases hio
           obtain ⟨g, rfl⟩ : ∃ g, f = upd (g) 0 (.string s) := ⟨f, upd_keep' (rfl) l0⟩
           refine s_mv (v := .string _) rfl rfl rfl (w_nil ?_)
           exact ⟨_, rfl, kR, l0, l1, l6, rv0, rv1, rv2, (fun _ => rfl), rv4, rv5, rv6, rv7, rv8, rv9, rv10, rv11, rv12, rv13, rv14, rv15, rv16, rv17, rv18, trivial⟩
          | 4, hio =>
           cases hio
           obtain ⟨g, rfl⟩ : ∃ g, f = upd (g) 1 (.int .i64 (i : Nat)) := ⟨f, upd_keep' (rfl) l1⟩
           refine mvI rfl rfl rfl (w_nil ?_)
           exact ⟨_, rfl, kR, l0, l1, l6, rv0, rv1, rv2, rv3, (fun _ => rfl), rv5, rv6, rv7, rv8, rv9, rv10, rv11, rv12, rv13, rv14, rv15, rv16, rv17, rv18, trivial⟩
          | 5, hio =>
           cases hio
           have e79 := rv4 (hd ⟨4, .data⟩ (by simp) rfl)
           obtain ⟨g, rfl⟩ : ∃ g, f = upd (g) 79 (.int .i64 (i : Nat)) := ⟨f, upd_keep' (rfl) e79⟩
           refine s_add rfl rfl rfl rfl rfl (w64 (by omega)) (w_nil ?_)
           exact ⟨_, rfl, kR, l0, l1, l6, rv0, rv1, rv2, rv3, rv4, (fun _ => rfl), rv6, rv7, rv8, rv9, rv10, rv11, rv12, rv13, rv14, rv15, rv16, rv17, rv18, trivial⟩
          | 6, hio =>
           cases hio
           have e78 := rv3 (hd ⟨3, .data⟩ (by simp) rfl)
           have e80 := rv5 (hd ⟨5, .data⟩ (by simp) rfl)
           obtain ⟨g, rfl⟩ : ∃ g, f = upd (upd (g) 78 (.string s)) 80 (.int .i64 ((i : Nat) + 1 : Int)) := ⟨f, upd_keep' (upd_keep' (rfl) e78) e80⟩
           refine s_ixS Tryz.underlying9 rfl rfl rfl rfl rfl (by omega) (by rw [show ((i : Nat) + 1 : Int).toNat = i + 1 by omega]; exact hu1) (w_nil ?_)
           exact ⟨_, rfl, kR, l0, l1, l6, rv0, rv1, rv2, rv3, rv4, rv5, (fun _ => rfl), rv7, rv8, rv9, rv10, rv11, rv12, rv13, rv14, rv15, rv16, rv17, rv18, trivial⟩
          | 7, hio =>
           cases hio
           have e81 := rv6 (hd ⟨6, .data⟩ (by simp) rfl)
           obtain ⟨g, rfl⟩ : ∃ g, f = upd (g) 81 (.int .u8 (u1.toNat : Int)) := ⟨f, upd_keep' (rfl) e81⟩
           refine s_sub rfl rfl rfl rfl rfl (w8 (by omega)) (w_nil ?_)
           exact ⟨_, rfl, kR, l0, l1, l6, rv0, rv1, rv2, rv3, rv4, rv5, rv6, (fun _ => rfl), rv8, rv9, rv10, rv11, rv12, rv13, rv14, rv15, rv16, rv17, rv18, trivial⟩
          | 8, hio =>
           cases hio
           have e82 := rv7 (hd ⟨7, .data⟩ (by simp) rfl)
           obtain ⟨g, rfl⟩ : ∃ g, f = upd (g) 82 (.int .u8 ((u1.toNat : Int) - 128)) := ⟨f, upd_keep' (rfl) e82⟩
           refine s_conv (by decide) Tryz.underlying3 rfl rfl rfl (w64 (by omega)) (w_nil ?_)
           exact ⟨_, rfl, kR, l0, l1, l6, rv0, rv1, rv2, rv3, rv4, rv5, rv6, rv7, (fun _ => rfl), rv9, rv10, rv11, rv12, rv13, rv14, rv15, rv16, rv17, rv18, trivial⟩
          | 9, hio =>
           cases hio
           have e83 := rv8 (hd ⟨8, .data⟩ (by simp) rfl)
           obtain ⟨g, rfl⟩ : ∃ g, f = upd (g) 83 (.int .i64 ((u1.toNat : Int) - 128)) := ⟨f, upd_keep' (rfl) e83⟩
           refine s_mul rfl rfl rfl rfl rfl (w64 (by omega)) (w_nil ?_)
           exact ⟨_, rfl, kR, l0, l1, l6, rv0, rv1, rv2, rv3, rv4, rv5, rv6, rv7, rv8, (fun _ => rfl), rv10, rv11, rv12, rv13, rv14, rv15, rv16, rv17, rv18, trivial⟩
          | 10, hio =>
           cases hio
           have e77 := rv2 (hd ⟨2, .data⟩ (by simp) rfl)
           have e84 := rv9 (hd ⟨9, .data⟩ (by simp) rfl)
           obtain ⟨g, rfl⟩ : ∃ g, f = upd (upd (g) 77 (.int .i64 (((u0.toNat : Int) - 224) * 4096))) 84 (.int .i64 (((u1.toNat : Int) - 128) * 64)) := ⟨f, upd_keep' (upd_keep' (rfl) e77) e84⟩
           refine s_add rfl rfl rfl rfl rfl (w64 (by omega)) (w_nil ?_)
           exact ⟨_, rfl, kR, l0, l1, l6, rv0, rv1, rv2, rv3, rv4, rv5, rv6, rv7, rv8, rv9, (fun _ => rfl), rv11, rv12, rv13, rv14, rv15, rv16, rv17, rv18, trivial⟩
          | 11, hio =>
           cases hio
           obtain ⟨g, rfl⟩ : ∃ g, f = upd (g) 0 (.string s) := ⟨f, upd_keep' (rfl) l0⟩
           refine s_mv (v := .string _) rfl rfl rfl (w_nil ?_)
           exact ⟨_, rfl, kR, l0, l1, l6, rv0, rv1, rv2, rv3, rv4, rv5, rv6, rv7, rv8, rv9, rv10, (fun _ => rfl), rv12, rv13, rv14, rv15, rv16, rv17, rv18, trivial⟩
          | 12, hio =>
           cases hio
           obtain ⟨g, rfl⟩ : ∃ g, f = upd (g) 1 (.int .i64 (i : Nat)) := ⟨f, upd_keep' (rfl) l1⟩
           refine mvI rfl rfl rfl (w_nil ?_)
           exact ⟨_, rfl, kR, l0, l1, l6, rv0, rv1, rv2, rv3, rv4, rv5, rv6, rv7, rv8, rv9, rv10, rv11, (fun _ => rfl), rv13, rv14, rv15, rv16, rv17, rv18, trivial⟩
          | 13, hio =>
           cases hio
           have e87 := rv12 (hd ⟨12, .data⟩ (by simp) rfl)
           obtain ⟨g, rfl⟩ : ∃ g, f = upd (g) 87 (.int .i64 (i : Nat)) := ⟨f, upd_keep' (rfl) e87⟩
           refine s_add rfl rfl rfl rfl rfl (w64 (by omega)) (w_nil ?_)
           exact ⟨_, rfl, kR, l0, l1, l6, rv0, rv1, rv2, rv3, rv4, rv5, rv6, rv7, rv8, rv9, rv10, rv11, rv12, (fun _ => rfl), rv14, rv15, rv16, rv17, rv18, trivial⟩
          | 14, hio =>
           cases hio
           have e86 := rv11 (hd ⟨11, .data⟩ (by simp) rfl)
           have e88 := rv13 (hd ⟨13, .data⟩ (by simp) rfl)
           obtain ⟨g, rfl⟩ : ∃ g, f = upd (upd (g) 86 (.string s)) 88 (.int .i64 ((i : Nat) + 2 : Int)) := ⟨f, upd_keep' (upd_keep' (rfl) e86) e88⟩
           refine s_ixS Tryz.underlying9 rfl rfl rfl rfl rfl (by omega) (by rw [show ((i : Nat) + 2 : Int).toNat = i + 2 by omega]; exact hu2) (w_nil ?_)
           exact ⟨_, rfl, kR, l0, l1, l6, rv0, rv1, rv2, rv3, rv4, rv5, rv6, rv7, rv8, rv9, rv10, rv11, rv12, rv13, (fun _ => rfl), rv15, rv16, rv17, rv18, trivial⟩
          | 15, hio =>
           cases hio
           have e89 := rv14 (hd ⟨14, .data⟩ (by simp) rfl)
           obtain ⟨g, rfl⟩ : ∃ g, f = upd (g) 89 (.int .u8 (u2.toNat : Int)) := ⟨f, upd_keep' (rfl) e89⟩
           refine s_sub rfl rfl rfl rfl rfl (w8 (by omega)) (w_nil ?_)
           exact ⟨_, rfl, kR, l0, l1, l6, rv0, rv1, rv2, rv3, rv4, rv5, rv6, rv7, rv8, rv9, rv10, rv11, rv12, rv13, rv14, (fun _ => rfl), rv16, rv17, rv18, trivial⟩
          | 16, hio =>
           cases hio
           have e90 := rv15 (hd ⟨15, .data⟩ (by simp) rfl)
           obtain ⟨g, rfl⟩ : ∃ g, f = upd (g) 90 (.int .u8 ((u2.toNat : Int) - 128)) := ⟨f, upd_keep' (rfl) e90⟩
           refine s_conv (by decide) Tryz.underlying3 rfl rfl rfl (w64 (by omega)) (w_nil ?_)
           exact ⟨_, rfl, kR, l0, l1, l6, rv0, rv1, rv2, rv3, rv4, rv5, rv6, rv7, rv8, rv9, rv10, rv11, rv12, rv13, rv14, rv15, (fun _ => rfl), rv17, rv18, trivial⟩
          | 17, hio =>
           cases hio
           have e85 := rv10 (hd ⟨10, .data⟩ (by simp) rfl)
           have e91 := rv16 (hd ⟨16, .data⟩ (by simp) rfl)
           obtain ⟨g, rfl⟩ : ∃ g, f = upd (upd (g) 85 (.int .i64 (((u0.toNat : Int) - 224) * 4096 + ((u1.toNat : Int) - 128) * 64))) 91 (.int .i64 ((u2.toNat : Int) - 128)) := ⟨f, upd_keep' (upd_keep' (rfl) e85) e91⟩
           refine s_add rfl rfl rfl rfl rfl (w64 (by omega)) (w_nil ?_)
           exact ⟨_, rfl, kR, l0, l1, l6, rv0, rv1, rv2, rv3, rv4, rv5, rv6, rv7, rv8, rv9, rv10, rv11, rv12, rv13, rv14, rv15, rv16, (fun _ => rfl), rv18, trivial⟩
          | 18, hio =>
           cases hio
           have e92 := rv17 (hd ⟨17, .data⟩ (by simp) rfl)
           obtain ⟨g, rfl⟩ : ∃ g, f = upd (g) 92 (.int .i64 ((((u0.toNat : Int) - 224) * 4096 + ((u1.toNat : Int) - 128) * 64) + ((u2.toNat : Int) - 128))) := ⟨f, upd_keep' (rfl) e92⟩
           refine asI rfl rfl rfl (w_nil ?_)
           exact ⟨_, rfl, kR, l0, l1, l6, rv0, rv1, rv2, rv3, rv4, rv5, rv6, rv7, rv8, rv9, rv10, rv11, rv12, rv13, rv14, rv15, rv16, rv17, (fun _ => rfl), trivial⟩
          | k + 19, hio => exact absurd hio (by simp)
         ·intro S f w1 hS hI
          obtain ⟨kR, l0, l1, l6, rv0, rv1, rv2, rv3, rv4, rv5, rv6, rv7, rv8, rv9, rv10, rv11, rv12, rv13, rv14, rv15, rv16, rv17, rv18, -⟩ := hI
          obtain ⟨g, rfl⟩ : ∃ g, f = upd (upd (upd (upd (g) 0 (.string s)) 1 (.int .i64 (i : Nat))) 6 (.int .i64 (u0.toNat : Int))) 7 (.int .i64 ((((u0.toNat : Int) - 224) * 4096 + ((u1.toNat : Int) - 128) * 64) + ((u2.toNat : Int) - 128))) := ⟨f, upd_keep' (upd_keep' (upd_keep' (upd_keep' (rfl) l0) l1) l6) (rv18 (hS 18 (by decide)))⟩
          clear hS l0 l1 l6 rv0 rv1 rv2 rv3 rv4 rv5 rv6 rv7 rv8 rv9 rv10 rv11 rv12 rv13 rv14 rv15 rv16 rv17 rv18
          replace K := K.transN kR
          refine then_n (wp_seq (c_reg (mvI rfl rfl rfl (s_geq rfl rfl rfl rfl rfl rfl (w_nil (then_n ?_))))))
          refine c_if rfl rfl ?_ ?_
          ·intro ht94
           (try simp only [Q1, Q2, Q3, Q4, Q5] at ht94)
           refine wp_seq (c_reg (mvI rfl rfl rfl (asI rfl rfl rfl (asI rfl rfl rfl (w_nil (then_n (wp_ret (then_r ?_))))))))
           refine ret2 (t := 4) (u := 5) (v := .int .i64 _) (v' := .int .i64 _) rfl rfl rfl rfl rfl ⟨?_, K⟩
           (try simp only [Q1, Q2, Q3] at *)
           unfold atF
           simp only [e0]
           try simp only [e1]
           try simp only [e2]
           repeat' (first | rfl | split | (simp only [Int.lt_irrefl]; done))
           all_goals first | rfl | omega
          ·intro ht94
           (try simp only [Q1, Q2, Q3, Q4, Q5] at ht94)
           refine wp_skip (then_n (wp_seq (c_reg (asI rfl rfl rfl (asI rfl rfl rfl (w_nil (then_n (wp_ret ?_))))))))
           refine ret2 (t := 4) (u := 5) (v := .int .i64 _) (v' := .int .i64 _) rfl rfl rfl rfl rfl ⟨?_, K⟩
           (try simp only [Q1, Q2, Q3] at *)
           unfold atF
           simp only [e0]
           try simp only [e1]
           try simp only [e2]
           repeat' (first | rfl | split | (simp only [Int.lt_irrefl]; done))
           all_goals first | rfl | omega
        ·intro ht74
         (try simp only [Q1, Q2, Q3, Q4, Q5] at ht74)
         refine wp_skip (then_n (wp_seq (c_reg (asI rfl rfl rfl (asI rfl rfl rfl (w_nil (then_n (wp_ret ?_))))))))
         refine ret2 (t := 4) (u := 5) (v := .int .i64 _) (v' := .int .i64 _) rfl rfl rfl rfl rfl ⟨?_, K⟩
         (try simp only [Q1, Q2, Q3] at *)
         unfold atF
         simp only [e0]
         try simp only [e1]
         try simp only [e2]
         repeat' (first | rfl | split | (simp only [Int.lt_irrefl]; done))
         all_goals first | rfl | omega
       ·intro hs67
        (try simp only [Q1, Q2, Q3, Q4, Q5] at hs67)
        refine st_skip rfl (st_skip rfl (st_skip rfl (st_skip rfl (st_skip rfl (st_skip rfl (pFB rfl rfl rfl rfl rfl (w_nil (then_n (c_F rfl rfl ?_)))))))))
        refine wp_skip (then_n (wp_seq (c_reg (asI rfl rfl rfl (asI rfl rfl rfl (w_nil (then_n (wp_ret ?_))))))))
        refine ret2 (t := 4) (u := 5) (v := .int .i64 _) (v' := .int .i64 _) rfl rfl rfl rfl rfl ⟨?_, K⟩
        (try simp only [Q1, Q2, Q3] at *)
        unfold atF
        simp only [e0]
        try simp only [e1]
        try simp only [e2]
        repeat' (first | rfl | split | (simp only [Int.lt_irrefl]; done))
        all_goals first | rfl | omega
      ·intro hs59
       (try simp only [Q1, Q2, Q3, Q4, Q5] at hs59)
       refine st_skip rfl (st_skip rfl (st_skip rfl (st_skip rfl (st_skip rfl (st_skip rfl (pFB rfl rfl rfl rfl rfl (mvB rfl rfl rfl (st_skip rfl (st_skip rfl ?_)))))))))
       refine st_skip rfl (st_skip rfl (st_skip rfl (st_skip rfl (pFB rfl rfl rfl rfl rfl (w_nil (then_n (c_F rfl rfl (wp_skip (then_n ?_)))))))))
       refine wp_seq (c_reg (asI rfl rfl rfl (asI rfl rfl rfl (w_nil (then_n (wp_ret ?_))))))
       refine ret2 (t := 4) (u := 5) (v := .int .i64 _) (v' := .int .i64 _) rfl rfl rfl rfl rfl ⟨?_, K⟩
       (try simp only [Q1, Q2, Q3] at *)
       unfold atF
       simp only [e0]
       try simp only [e1]
       try simp only [e2]
       repeat' (first | rfl | split | (simp only [Int.lt_irrefl]; done))
       all_goals first | rfl | omega
     ·intro hs52
      (try simp only [Q1, Q2, Q3, Q4, Q5] at hs52)
      refine st_skip rfl (st_skip rfl (st_skip rfl (st_skip rfl (st_skip rfl (pFB rfl rfl rfl rfl rfl (mvB rfl rfl rfl (st_skip rfl (st_skip rfl (st_skip rfl ?_)))))))))
      refine st_skip rfl (st_skip rfl (st_skip rfl (pFB rfl rfl rfl rfl rfl (mvB rfl rfl rfl (st_skip rfl (st_skip rfl (st_skip rfl (st_skip rfl (st_skip rfl ?_)))))))))
      refine st_skip rfl (pFB rfl rfl rfl rfl rfl (w_nil (then_n (c_F rfl rfl (wp_skip (then_n (wp_seq (c_reg (asI rfl rfl rfl ?_)))))))))
      refine asI rfl rfl rfl (w_nil (then_n (wp_ret ?_)))
      refine ret2 (t := 4) (u := 5) (v := .int .i64 _) (v' := .int .i64 _) rfl rfl rfl rfl rfl ⟨?_, K⟩
      (try simp only [Q1, Q2, Q3] at *)
      unfold atF
      simp only [e0]
      try simp only [e1]
      try simp only [e2]
      repeat' (first | rfl | split | (simp only [Int.lt_irrefl]; done))
      all_goals first | rfl | omega
    ·intro hs48
     (try simp only [Q1, Q2, Q3, Q4, Q5] at hs48)
     refine st_skip rfl (st_skip rfl (pFB rfl rfl rfl rfl rfl (mvB rfl rfl rfl (st_skip rfl (st_skip rfl (st_skip rfl (st_skip rfl (st_skip rfl (pFB rfl rfl rfl rfl rfl ?_)))))))))
     refine mvB rfl rfl rfl (st_skip rfl (st_skip rfl (st_skip rfl (st_skip rfl (st_skip rfl (st_skip rfl (pFB rfl rfl rfl rfl rfl (mvB rfl rfl rfl (st_skip rfl ?_)))))))))
     refine st_skip rfl (st_skip rfl (st_skip rfl (st_skip rfl (st_skip rfl (pFB rfl rfl rfl rfl rfl (w_nil (then_n (c_F rfl rfl (wp_skip ?_)))))))))
     refine then_n (wp_seq (c_reg (asI rfl rfl rfl (asI rfl rfl rfl (w_nil (then_n (wp_ret ?_)))))))
     refine ret2 (t := 4) (u := 5) (v := .int .i64 _) (v' := .int .i64 _) rfl rfl rfl rfl rfl ⟨?_, K⟩
     (try simp only [Q1, Q2, Q3] at *)
     unfold atF
     simp only [e0]
     try simp only [e1]
     try simp only [e2]
     repeat' (first | rfl | split | (simp only [Int.lt_irrefl]; done))
     all_goals first | rfl | omega
  ·intro hs17
   (try simp only [Q1, Q2, Q3, Q4, Q5] at hs17)
   refine st_skip rfl (st_skip rfl (pFB rfl rfl rfl rfl rfl (mvB rfl rfl rfl (st_skip rfl (st_skip rfl (st_skip rfl (st_skip rfl (st_skip rfl (pFB rfl rfl rfl rfl rfl ?_)))))))))
   refine mvB rfl rfl rfl (st_skip rfl (st_skip rfl (st_skip rfl (st_skip rfl (st_skip rfl (st_skip rfl (pFB rfl rfl rfl rfl rfl (w_nil (then_n ?_)))))))))
   refine c_F rfl rfl (wp_skip (then_n (wp_seq (wp_seq (c_reg (mvI rfl rfl rfl (s_geq rfl rfl rfl rfl rfl rfl (mvB rfl rfl rfl ?_))))))))
   refine w_split (t := 48) rfl ?_ ?_
   ·intro hs48
    (try simp only [Q1, Q2, Q3, Q4, Q5] at hs48)
    refine mvI rfl rfl rfl (s_lss rfl rfl rfl rfl rfl rfl (pTB rfl rfl rfl rfl rfl (mvB rfl rfl rfl ?_)))
    refine w_split (t := 52) rfl ?_ ?_
    ·intro hs52
     (try simp only [Q1, Q2, Q3, Q4, Q5] at hs52)
     refine mvI rfl rfl rfl (s_add rfl rfl rfl rfl rfl (w64 (by omega)) (s_mv (v := .string _) rfl rfl rfl (s_lenS Tryz.underlying9 rfl rfl rfl (s_lss rfl rfl rfl rfl rfl rfl (pTB rfl rfl rfl rfl rfl (mvB rfl rfl rfl ?_))))))
     refine w_split (t := 59) rfl ?_ ?_
     ·intro hs59
      (try simp only [Q1, Q2, Q3, Q4, Q5] at hs59)
      obtain ⟨u1, hu1, e1, g1, l1⟩ := bt_get (s := s) (i := i + 1) (by omega)
      obtain ⟨u2, hu2, e2, g2, l2⟩ := bt_get (s := s) (i := i + 2) (by omega)
      refine s_mv (v := .string _) rfl rfl rfl (mvI rfl rfl rfl (s_add rfl rfl rfl rfl rfl (w64 (by omega)) (s_ixS Tryz.underlying9 rfl rfl rfl rfl rfl (by omega) (by rw [show ((i : Nat) + 1 : Int).toNat = i + 1 by omega]; exact hu1) (s_shr (c := _ / 64) rfl rfl rfl rfl rfl (by decide) (by decide) rfl (s_eq rfl rfl rfl rfl rfl rfl (pTB rfl rfl rfl rfl rfl (mvB rfl rfl rfl ?_)))))))
      refine w_split (t := 67) rfl ?_ ?_
      ·intro hs67
       (try simp only [Q1, Q2, Q3, Q4, Q5] at hs67)
       refine s_mv (v := .string _) rfl rfl rfl (mvI rfl rfl rfl (s_add rfl rfl rfl rfl rfl (w64 (by omega)) (s_ixS Tryz.underlying9 rfl rfl rfl rfl rfl (by omega) (by rw [show ((i : Nat) + 2 : Int).toNat = i + 2 by omega]; exact hu2) (s_shr (c := _ / 64) rfl rfl rfl rfl rfl (by decide) (by decide) rfl (s_eq rfl rfl rfl rfl rfl rfl (pTB rfl rfl rfl rfl rfl (w_nil (then_n ?_))))))))
       refine c_if rfl rfl ?_ ?_
       ·intro ht74
        (try simp only [Q1, Q2, Q3, Q4, Q5] at ht74)
        refine wp_seq ?_
        refine c_draw' (fun S f w => New W w ∧ f 0 = .string s ∧ f 1 = .int .i64 (i : Nat) ∧ f 6 = .int .i64 (u0.toNat : Int) ∧ (S 0 = true → f 75 = .int .i64 (u0.toNat : Int)) ∧ (S 1 = true → f 76 = .int .i64 ((u0.toNat : Int) - 224)) ∧ (S 2 = true → f 77 = .int .i64 (((u0.toNat : Int) - 224) * 4096)) ∧ (S 3 = true → f 78 = .string s) ∧ (S 4 = true → f 79 = .int .i64 (i : Nat)) ∧ (S 5 = true → f 80 = .int .i64 ((i : Nat) + 1 : Int)) ∧ (S 6 = true → f 81 = .int .u8 (u1.toNat : Int)) ∧ (S 7 = true → f 82 = .int .u8 ((u1.toNat : Int) - 128)) ∧ (S 8 = true → f 83 = .int .i64 ((u1.toNat : Int) - 128)) ∧ (S 9 = true → f 84 = .int .i64 (((u1.toNat : Int) - 128) * 64)) ∧ (S 10 = true → f 85 = .int .i64 (((u0.toNat : Int) - 224) * 4096 + ((u1.toNat : Int) - 128) * 64)) ∧ (S 11 = true → f 86 = .string s) ∧ (S 12 = true → f 87 = .int .i64 (i : Nat)) ∧ (S 13 = true → f 88 = .int .i64 ((i : Nat) + 2 : Int)) ∧ (S 14 = true → f 89 = .int .u8 (u2.toNat : Int)) ∧ (S 15 = true → f 90 = .int .u8 ((u2.toNat : Int) - 128)) ∧ (S 16 = true → f 91 = .int .i64 ((u2.toNat : Int) - 128)) ∧ (S 17 = true → f 92 = .int .i64 ((((u0.toNat : Int) - 224) * 4096 + ((u1.toNat : Int) - 128) * 64) + ((u2.toNat : Int) - 128))) ∧ (S 18 = true → f 7 = .int .i64 ((((u0.toNat : Int) - 224) * 4096 + ((u1.toNat : Int) - 128) * 64) + ((u2.toNat : Int) - 128))) ∧ True) (by kernel_rfl) ⟨(Kp.refl _ _).drew, rfl, rfl, rfl, (fun h => by cases h), (fun h => by cases h), (fun h => by cases h), (fun h => by cases h), (fun h => by cases h), (fun h => by cases h), (fun h => by cases h), (fun h => by cases h), (fun h => by cases h), (fun h => by cases h), (fun h => by cases h), (fun h => by cases h), (fun h => by cases h), (fun h => by cases h), (fun h => by cases h), (fun h => by cases h), (fun h => by cases h), (fun h => by cases h), (fun h => by cases h), trivial⟩ ?_ ?_
        ·intro io opx hio S f w hd hI
         obtain ⟨kR, l0, l1, l6, rv0, rv1, rv2, rv3, rv4, rv5, rv6, rv7, rv8, rv9, rv10, rv11, rv12, rv13, rv14, rv15, rv16, rv17, rv18, -⟩ := hI
         match io, hio with
         | 0, hio =>
          cases hio
          obtain ⟨g, rfl⟩ : ∃ g, f = upd (g) 6 (.int .i64 (u0.toNat : Int)) := ⟨f, upd_keep' (rfl) l6⟩
          refine mvI rfl rfl rfl (w_nil ?_)
          exact ⟨_, rfl, kR, l0, l1, l6, (fun _ => rfl), rv1, rv2, rv3, rv4, rv5, rv6, rv7, rv8, rv9, rv10, rv11, rv12, rv13, rv14, rv15, rv16, rv17, rv18, trivial⟩
         | 1, hio =>
          cases hio
          have e75 := rv0 (hd ⟨0, .data⟩ (by simp) rfl)
          obtain ⟨g, rfl⟩ : ∃ g, f = upd (g) 75 (.int .i64 (u0.toNat : Int)) := ⟨f, upd_keep' (rfl) e75⟩
          refine s_sub rfl rfl rfl rfl rfl (w64 (by omega)) (w_nil ?_)
          exact ⟨_, rfl, kR, l0, l1, l6, rv0, (fun _ => rfl), rv2, rv3, rv4, rv5, rv6, rv7, rv8, rv9, rv10, rv11, rv12, rv13, rv14, rv15, rv16, rv17, rv18, trivial⟩
         | 2, hio =>
          cases hio
          have e76 := rv1 (hd ⟨1, .data⟩ (by simp) rfl)
          obtain ⟨g, rfl⟩ : ∃ g, f = upd (g) 76 (.int .i64 ((u0.toNat : Int) - 224)) := ⟨f, upd_keep' (rfl) e76⟩
          refine s_mul rfl rfl rfl rfl rfl (w64 (by omega)) (w_nil ?_)
          exact ⟨_, rfl, kR, l0, l1, l6, rv0, rv1, (fun _ => rfl), rv3, rv4, rv5, rv6, rv7, rv8, rv9, rv10, rv11, rv12, rv13, rv14, rv15, rv16, rv17, rv18, trivial⟩
         | 3, hio =>
          cases hio
          obtain ⟨g, rfl⟩ : ∃ g, f = upd (g) 0 (.string s) := ⟨f, upd_keep' (rfl) l0⟩
          refine s_mv (v := .string _) rfl rfl rfl (w_nil ?_)
          exact ⟨_, rfl, kR, l0, l1, l6, rv0, rv1, rv2, (fun _ => rfl), rv4, rv5, rv6, rv7, rv8, rv9, rv10, rv11, rv12, rv13, rv14, rv15, rv16, rv17, rv18, trivial⟩
         | 4, hio =>
          cases hio
          obtain ⟨g, rfl⟩ : ∃ g, f = upd (g) 1 (.int .i64 (i : Nat)) := ⟨f, upd_keep' (rfl) l1⟩
          refine mvI rfl rfl rfl (w_nil ?_)
          exact ⟨_, rfl, kR, l0, l1, l6, rv0, rv1, rv2, rv3, (fun _ => rfl), rv5, rv6, rv7, rv8, rv9, rv10, rv11, rv12, rv13, rv14, rv15, rv16, rv17, rv18, trivial⟩
         | 5, hio =>
          cases hio
          have e79 := rv4 (hd ⟨4, .data⟩ (by simp) rfl)
          obtain ⟨g, rfl⟩ : ∃ g, f = upd (g) 79 (.int .i64 (i : Nat)) := ⟨f, upd_keep' (rfl) e79⟩
          refine s_add rfl rfl rfl rfl rfl (w64 (by omega)) (w_nil ?_)
          exact ⟨_, rfl, kR, l0, l1, l6, rv0, rv1, rv2, rv3, rv4, (fun _ => rfl), rv6, rv7, rv8, rv9, rv10, rv11, rv12, rv13, rv14, rv15, rv16, rv17, rv18, trivial⟩
         | 6, hio =>
          cases hio
          have e78 := rv3 (hd ⟨3, .data⟩ (by simp) rfl)
          have e80 := rv5 (hd ⟨5, .data⟩ (by simp) rfl)
          obtain ⟨g, rfl⟩ : ∃ g, f = upd (upd (g) 78 (.string s)) 80 (.int .i64 ((i : Nat) + 1 : Int)) := ⟨f, upd_keep' (upd_keep' (rfl) e78) e80⟩
          refine s_ixS Tryz.underlying9 rfl rfl rfl rfl rfl (by omega) (by rw [show ((i : Nat) + 1 : Int).toNat = i + 1 by omega]; exact hu1) (w_nil ?_)
          exact ⟨_, rfl, kR, l0, l1, l6, rv0, rv1, rv2, rv3, rv4, rv5, (fun _ => rfl), rv7, rv8, rv9, rv10, rv11, rv12, rv13, rv14, rv15, rv16, rv17, rv18, trivial⟩
         | 7, hio =>
          cases hio
          have e81 := rv6 (hd ⟨6, .data⟩ (by simp) rfl)
          obtain ⟨g, rfl⟩ : ∃ g, f = upd (g) 81 (.int .u8 (u1.toNat : Int)) := ⟨f, upd_keep' (rfl) e81⟩
          refine s_sub rfl rfl rfl rfl rfl (w8 (by omega)) (w_nil ?_)
          exact ⟨_, rfl, kR, l0, l1, l6, rv0, rv1, rv2, rv3, rv4, rv5, rv6, (fun _ => rfl), rv8, rv9, rv10, rv11, rv12, rv13, rv14, rv15, rv16, rv17, rv18, trivial⟩
         | 8, hio =>
          cases hio
          have e82 := rv7 (hd ⟨7, .data⟩ (by simp) rfl)
          obtain ⟨g, rfl⟩ : ∃ g, f = upd (g) 82 (.int .u8 ((u1.toNat : Int) - 128)) := ⟨f, upd_keep' (rfl) e82⟩
          refine s_conv (by decide) Tryz.underlying3 rfl rfl rfl (w64 (by omega)) (w_nil ?_)
          exact ⟨_, rfl, kR, l0, l1, l6, rv0, rv1, rv2, rv3, rv4, rv5, rv6, rv7, (fun _ => rfl), rv9, rv10, rv11, rv12, rv13, rv14, rv15, rv16, rv17, rv18, trivial⟩
         | 9, hio =>
          cases hio
          have e83 := rv8 (hd ⟨8, .data⟩ (by simp) rfl)
          obtain ⟨g, rfl⟩ : ∃ g, f = upd (g) 83 (.int .i64 ((u1.toNat : Int) - 128)) := ⟨f, upd_keep' (rfl) e83⟩
          refine s_mul rfl rfl rfl rfl rfl (w64 (by omega)) (w_nil ?_)
          exact ⟨_, rfl, kR, l0, l1, l6, rv0, rv1, rv2, rv3, rv4, rv5, rv6, rv7, rv8, (fun _ => rfl), rv10, rv11, rv12, rv13, rv14, rv15, rv16, rv17, rv18, trivial⟩
         | 10, hio =>
          cases hio
          have e77 := rv2 (hd ⟨2, .data⟩ (by simp) rfl)
          have e84 := rv9 (hd ⟨9, .data⟩ (by simp) rfl)
          obtain ⟨g, rfl⟩ : ∃ g, f = upd (upd (g) 77 (.int .i64 (((u0.toNat : Int) - 224) * 4096))) 84 (.int .i64 (((u1.toNat : Int) - 128) * 64)) := ⟨f, upd_keep' (upd_keep' (rfl) e77) e84⟩
          refine s_add rfl rfl rfl rfl rfl (w64 (by omega)) (w_nil ?_)
          exact ⟨_, rfl, kR, l0, l1, l6, rv0, rv1, rv2, rv3, rv4, rv5, rv6, rv7, rv8, rv9, (fun _ => rfl), rv11, rv12, rv13, rv14, rv15, rv16, rv17, rv18, trivial⟩
         | 11, hio =>
          cases hio
          obtain ⟨g, rfl⟩ : ∃ g, f = upd (g) 0 (.string s) := ⟨f, upd_keep' (rfl) l0⟩
          refine s_mv (v := .string _) rfl rfl rfl (w_nil ?_)
          exact ⟨_, rfl, kR, l0, l1, l6, rv0, rv1, rv2, rv3, rv4, rv5, rv6, rv7, rv8, rv9, rv10, (fun _ => rfl), rv12, rv13, rv14, rv15, rv16, rv17, rv18, trivial⟩
         | 12, hio =>
          cases hio
          obtain ⟨g, rfl⟩ : ∃ g, f = upd (g) 1 (.int .i64 (i : Nat)) := ⟨f, upd_keep' (rfl) l1⟩
          refine mvI rfl rfl rfl (w_nil ?_)
          exact ⟨_, rfl, kR, l0, l1, l6, rv0, rv1, rv2, rv3, rv4, rv5, rv6, rv7, rv8, rv9, rv10, rv11, (fun _ => rfl), rv13, rv14, rv15, rv16, rv17, rv18, trivial⟩
         | 13, hio =>
          cases hio
          have e87 := rv12 (hd ⟨12, .data⟩ (by simp) rfl)
          obtain ⟨g, rfl⟩ : ∃ g, f = upd (g) 87 (.int .i64 (i : Nat)) := ⟨f, upd_keep' (rfl) e87⟩
          refine s_add rfl rfl rfl rfl rfl (w64 (by omega)) (w_nil ?_)
          exact ⟨_, rfl, kR, l0, l1, l6, rv0, rv1, rv2, rv3, rv4, rv5, rv6, rv7, rv8, rv9, rv10, rv11, rv12, (fun _ => rfl), rv14, rv15, rv16, rv17, rv18, trivial⟩
         | 14, hio =>
          cases hio
          have e86 := rv11 (hd ⟨11, .data⟩ (by simp) rfl)
          have e88 := rv13 (hd ⟨13, .data⟩ (by simp) rfl)
          obtain ⟨g, rfl⟩ : ∃ g, f = upd (upd (g) 86 (.string s)) 88 (.int .i64 ((i : Nat) + 2 : Int)) := ⟨f, upd_keep' (upd_keep' (rfl) e86) e88⟩
          refine s_ixS Tryz.underlying9 rfl rfl rfl rfl rfl (by omega) (by rw [show ((i : Nat) + 2 : Int).toNat = i + 2 by omega]; exact hu2) (w_nil ?_)
          exact ⟨_, rfl, kR, l0, l1, l6, rv0, rv1, rv2, rv3, rv4, rv5, rv6, rv7, rv8, rv9, rv10, rv11, rv12, rv13, (fun _ => rfl), rv15, rv16, rv17, rv18, trivial⟩
         | 15, hio =>
          cases hio
          have e89 := rv14 (hd ⟨14, .data⟩ (by simp) rfl)
          obtain ⟨g, rfl⟩ : ∃ g, f = upd (g) 89 (.int .u8 (u2.toNat : Int)) := ⟨f, upd_keep' (rfl) e89⟩
          refine s_sub rfl rfl rfl rfl rfl (w8 (by omega)) (w_nil ?_)
          exact ⟨_, rfl, kR, l0, l1, l6, rv0, rv1, rv2, rv3, rv4, rv5, rv6, rv7, rv8, rv9, rv10, rv11, rv12, rv13, rv14, (fun _ => rfl), rv16, rv17, rv18, trivial⟩
         | 16, hio =>
          cases hio
          have e90 := rv15 (hd ⟨15, .data⟩ (by simp) rfl)
          obtain ⟨g, rfl⟩ : ∃ g, f = upd (g) 90 (.int .u8 ((u2.toNat : Int) - 128)) := ⟨f, upd_keep' (rfl) e90⟩
          refine s_conv (by decide) Tryz.underlying3 rfl rfl rfl (w64 (by omega)) (w_nil ?_)
          exact ⟨_, rfl, kR, l0, l1, l6, rv0, rv1, rv2, rv3, rv4, rv5, rv6, rv7, rv8, rv9, rv10, rv11, rv12, rv13, rv14, rv15, (fun _ => rfl), rv17, rv18, trivial⟩
         | 17, hio =>
          cases hio
          have e85 := rv10 (hd ⟨10, .data⟩ (by simp) rfl)
          have e91 := rv16 (hd ⟨16, .data⟩ (by simp) rfl)
          obtain ⟨g, rfl⟩ : ∃ g, f = upd (upd (g) 85 (.int .i64 (((u0.toNat : Int) - 224) * 4096 + ((u1.toNat : Int) - 128) * 64))) 91 (.int .i64 ((u2.toNat : Int) - 128)) := ⟨f, upd_keep' (upd_keep' (rfl) e85) e91⟩
          refine s_add rfl rfl rfl rfl rfl (w64 (by omega)) (w_nil ?_)
          exact ⟨_, rfl, kR, l0, l1, l6, rv0, rv1, rv2, rv3, rv4, rv5, rv6, rv7, rv8, rv9, rv10, rv11, rv12, rv13, rv14, rv15, rv16, (fun _ => rfl), rv18, trivial⟩
         | 18, hio =>
          cases hio
          have e92 := rv17 (hd ⟨17, .data⟩ (by simp) rfl)
          obtain ⟨g, rfl⟩ : ∃ g, f = upd (g) 92 (.int .i64 ((((u0.toNat : Int) - 224) * 4096 + ((u1.toNat : Int) - 128) * 64) + ((u2.toNat : Int) - 128))) := ⟨f, upd_keep' (rfl) e92⟩
          refine asI rfl rfl rfl (w_nil ?_)
          exact ⟨_, rfl, kR, l0, l1, l6, rv0, rv1, rv2, rv3, rv4, rv5, rv6, rv7, rv8, rv9, rv10, rv11, rv12, rv13, rv14, rv15, rv16, rv17, (fun _ => rfl), trivial⟩
         | k + 19, hio => exact absurd hio (by simp)
        ·intro S f w1 hS hI
         obtain ⟨kR, l0, l1, l6, rv0, rv1, rv2, rv3, rv4, rv5, rv6, rv7, rv8, rv9, rv10, rv11, rv12, rv13, rv14, rv15, rv16, rv17, rv18, -⟩ := hI
         obtain ⟨g, rfl⟩ : ∃ g, f = upd (upd (upd (upd (g) 0 (.string s)) 1 (.int .i64 (i : Nat))) 6 (.int .i64 (u0.toNat : Int))) 7 (.int .i64 ((((u0.toNat : Int) - 224) * 4096 + ((u1.toNat : Int) - 128) * 64) + ((u2.toNat : Int) - 128))) := ⟨f, upd_keep' (upd_keep' (upd_keep' (upd_keep' (rfl) l0) l1) l6) (rv18 (hS 18 (by decide)))⟩
         clear hS l0 l1 l6 rv0 rv1 rv2 rv3 rv4 rv5 rv6 rv7 rv8 rv9 rv10 rv11 rv12 rv13 rv14 rv15 rv16 rv17 rv18
         replace K := K.transN kR
         refine then_n (wp_seq (c_reg (mvI rfl rfl rfl (s_geq rfl rfl rfl rfl rfl rfl (w_nil (then_n ?_))))))
         refine c_if rfl rfl ?_ ?_
         ·intro ht94
          (try simp only [Q1, Q2, Q3, Q4, Q5] at ht94)
          refine wp_seq (c_reg (mvI rfl rfl rfl (asI rfl rfl rfl (asI rfl rfl rfl (w_nil (then_n (wp_ret (then_r ?_))))))))
          refine ret2 (t := 4) (u := 5) (v := .int .i64 _) (v' := .int .i64 _) rfl rfl rfl rfl rfl ⟨?_, K⟩
          (try simp only [Q1, Q2, Q3] at *)
          unfold atF
          simp only [e0]
          try simp only [e1]
          try simp only [e2]
          repeat' (first | rfl | split | (simp only [Int.lt_irrefl]; done))
          all_goals first | rfl | omega
         ·intro ht94
          (try simp only [Q1, Q2, Q3, Q4, Q5] at ht94)
          refine wp_skip (then_n (wp_seq (c_reg (asI rfl rfl rfl (asI rfl rfl rfl (w_nil (then_n (wp_ret ?_))))))))
          refine ret2 (t := 4) (u := 5) (v := .int .i64 _) (v' := .int .i64 _) rfl rfl rfl rfl rfl ⟨?_, K⟩
          (try simp only [Q1, Q2, Q3] at *)
          unfold atF
          simp only [e0]
          try simp only [e1]
          try simp only [e2]
          repeat' (first | rfl | split | (simp only [Int.lt_irrefl]; done))
          all_goals first | rfl | omega
       ·intro ht74
        (try simp only [Q1, Q2, Q3, Q4, Q5] at ht74)
        refine wp_skip (then_n (wp_seq (c_reg (asI rfl rfl rfl (asI rfl rfl rfl (w_nil (then_n (wp_ret ?_))))))))
        refine ret2 (t := 4) (u := 5) (v := .int .i64 _) (v' := .int .i64 _) rfl rfl rfl rfl rfl ⟨?_, K⟩
        (try simp only [Q1, Q2, Q3] at *)
        unfold atF
        simp only [e0]
        try simp only [e1]
        try simp only [e2]
        repeat' (first | rfl | split | (simp only [Int.lt_irrefl]; done))
        all_goals first | rfl | omega
      ·intro hs67
       (try simp only [Q1, Q2, Q3, Q4, Q5] at hs67)
       refine st_skip rfl (st_skip rfl (st_skip rfl (st_skip rfl (st_skip rfl (st_skip rfl (pFB rfl rfl rfl rfl rfl (w_nil (then_n (c_F rfl rfl ?_)))))))))
       refine wp_skip (then_n (wp_seq (c_reg (asI rfl rfl rfl (asI rfl rfl rfl (w_nil (then_n (wp_ret ?_))))))))
       refine ret2 (t := 4) (u := 5) (v := .int .i64 _) (v' := .int .i64 _) rfl rfl rfl rfl rfl ⟨?_, K⟩
       (try simp only [Q1, Q2, Q3] at *)
       unfold atF
       simp only [e0]
       try simp only [e1]
       try simp only [e2]
       repeat' (first | rfl | split | (simp only [Int.lt_irrefl]; done))
       all_goals first | rfl | omega
     ·intro hs59
      (try simp only [Q1, Q2, Q3, Q4, Q5] at hs59)
      refine st_skip rfl (st_skip rfl (st_skip rfl (st_skip rfl (st_skip rfl (st_skip rfl (pFB rfl rfl rfl rfl rfl (mvB rfl rfl rfl (st_skip rfl (st_skip rfl ?_)))))))))
      refine st_skip rfl (st_skip rfl (st_skip rfl (st_skip rfl (pFB rfl rfl rfl rfl rfl (w_nil (then_n (c_F rfl rfl (wp_skip (then_n ?_)))))))))
      refine wp_seq (c_reg (asI rfl rfl rfl (asI rfl rfl rfl (w_nil (then_n (wp_ret ?_))))))
      refine ret2 (t := 4) (u := 5) (v := .int .i64 _) (v' := .int .i64 _) rfl rfl rfl rfl rfl ⟨?_, K⟩
      (try simp only [Q1, Q2, Q3] at *)
      unfold atF
      simp only [e0]
      try simp only [e1]
      try simp only [e2]
      repeat' (first | rfl | split | (simp only [Int.lt_irrefl]; done))
      all_goals first | rfl | omega
    ·intro hs52
     (try simp only [Q1, Q2, Q3, Q4, Q5] at hs52)
     refine st_skip rfl (st_skip rfl (st_skip rfl (st_skip rfl (st_skip rfl (pFB rfl rfl rfl rfl rfl (mvB rfl rfl rfl (st_skip rfl (st_skip rfl (st_skip rfl ?_)))))))))
     refine st_skip rfl (st_skip rfl (st_skip rfl (pFB rfl rfl rfl rfl rfl (mvB rfl rfl rfl (st_skip rfl (st_skip rfl (st_skip rfl (st_skip rfl (st_skip rfl ?_)))))))))
     refine st_skip rfl (pFB rfl rfl rfl rfl rfl (w_nil (then_n (c_F rfl rfl (wp_skip (then_n (wp_seq (c_reg (asI rfl rfl rfl ?_)))))))))
     refine asI rfl rfl rfl (w_nil (then_n (wp_ret ?_)))
     refine ret2 (t := 4) (u := 5) (v := .int .i64 _) (v' := .int .i64 _) rfl rfl rfl rfl rfl ⟨?_, K⟩
     (try simp only [Q1, Q2, Q3] at *)
     unfold atF
     simp only [e0]
     try simp only [e1]
     try simp only [e2]
     repeat' (first | rfl | split | (simp only [Int.lt_irrefl]; done))
     all_goals first | rfl | omega
   ·intro hs48
    (try simp only [Q1, Q2, Q3, Q4, Q5] at hs48)
    refine st_skip rfl (st_skip rfl (pFB rfl rfl rfl rfl rfl (mvB rfl rfl rfl (st_skip rfl (st_skip rfl (st_skip rfl (st_skip rfl (st_skip rfl (pFB rfl rfl rfl rfl rfl ?_)))))))))
    refine mvB rfl rfl rfl (st_skip rfl (st_skip rfl (st_skip rfl (st_skip rfl (st_skip rfl (st_skip rfl (pFB rfl rfl rfl rfl rfl (mvB rfl rfl rfl (st_skip rfl ?_)))))))))
    refine st_skip rfl (st_skip rfl (st_skip rfl (st_skip rfl (st_skip rfl (pFB rfl rfl rfl rfl rfl (w_nil (then_n (c_F rfl rfl (wp_skip ?_)))))))))
    refine then_n (wp_seq (c_reg (asI rfl rfl rfl (asI rfl rfl rfl (w_nil (then_n (wp_ret ?_)))))))
    refine ret2 (t := 4) (u := 5) (v := .int .i64 _) (v' := .int .i64 _) rfl rfl rfl rfl rfl ⟨?_, K⟩
    (try simp only [Q1, Q2, Q3] at *)
    unfold atF
    simp only [e0]
    try simp only [e1]
    try simp only [e2]
    repeat' (first | rfl | split | (simp only [Int.lt_irrefl]; done))
    all_goals first | rfl | omega
theorem c103t {s : ByteArray} {i : Nat} {c n : Int} {w : World} (hi : i < s.size) (hs : s.size ≤ 1000) (h : atF s i = (c, n)) : Calls Tryz.prog 103 #[.string s, .int .i64 (i : Nat)] w fun e w' => e = .returned (.tuple #[.int .i64 c, .int .i64 n]) ∧ New w w' := by
 have := c103 s i w hi hs; rwa [h] at this
theorem c151 (s : ByteArray) (c : Int) (L : List Int) (w : World) (hL : isL s L = true) : Calls Tryz.prog 151 #[.string s, .int .i64 c] w fun e w' => e = .returned (.bool (decide (c ∈ L))) ∧ New w w' := by
 obtain ⟨W, hW⟩ : ∃ W, W = w := ⟨_, rfl⟩
 subst hW
 have K : New W W := Kp.refl _ _
 obtain ⟨hs, hB⟩ := isL_of hL
 refine enter (n := 24) Tryz.func151 rfl rfl (by simp) ?_
 refine wp_seq (c_reg (asB rfl rfl rfl (w_nil (then_n (wp_seq (wp_seq (c_reg (asI rfl rfl rfl (w_nil ?_)))))))))
 refine then_n (wp_block ?_)
 refine c_loop (fun m f w => ∃ g i L2, m = L2.length ∧ f = (upd (upd (upd g 0 (.string s)) 1 (.int .i64 c)) 5 (.int .i64 (i : Nat))) ∧ Bd s i L2 ∧ (∀ d ∈ L, d ∈ L2 ∨ d ≠ c) ∧ (∀ d ∈ L2, d ∈ L) ∧ New W w) (L.length) ⟨_, 0, L, rfl, (upd_keep' (upd_keep' (upd_keep' rfl rfl) rfl) rfl), hB, (fun d h => .inl h), (fun d h => h), K⟩ ?_
 clear K
 rintro m _ w0 ⟨g, i, L2, rfl, rfl, hBd, hout, hin, K⟩
 refine wp_seq (wp_seq (c_reg (mvI rfl rfl rfl (s_mv (v := .string _) rfl rfl rfl (s_lenS Tryz.underlying9 rfl rfl rfl (s_lss rfl rfl rfl rfl rfl rfl (w_nil (then_n ?_))))))))
 refine c_if rfl rfl ?_ ?_
 ·intro ht11
  (try simp only [Q1, Q2, Q3, Q4, Q5] at ht11)
  have hlt : i < s.size := by omega
  obtain ⟨d, n, L3, hat, hn1, hn3, hn, hB3, rfl⟩ : ∃ d n L3, atF s i = (d, ((n : Nat) : Int)) ∧ 1 ≤ n ∧ n ≤ 3 ∧ i + n ≤ s.size ∧ Bd s (i + n) L3 ∧ L2 = d :: L3 := by
   cases hBd with
   | nil => omega
   | cons _ n d L3 h1 h2 h3 h4 h5 h6 => exact ⟨d, n, L3, h2, h3, h4, h5, h6, rfl⟩
  refine wp_skip (then_n (wp_block (wp_seq (c_reg (s_mv (v := .string _) rfl rfl rfl (mvI rfl rfl rfl (s_call2 go103 rfl (c103t hlt hs hat) rfl rfl rfl rfl ?_)))))))
  rintro _ w1 ⟨rfl, kw1⟩
  replace K := K.transN kw1
  refine ⟨_, rfl, ?_⟩
  refine s_mv (v := .tuple _) rfl rfl rfl (s_ext (v := .int .i64 _) rfl rfl rfl rfl (s_ext (v := .int .i64 _) rfl rfl rfl rfl (asI rfl rfl rfl (asI rfl rfl rfl (w_nil (then_n (wp_seq (wp_seq (c_reg ?_)))))))))
  refine mvI rfl rfl rfl (mvI rfl rfl rfl (s_eq rfl rfl rfl rfl rfl rfl (w_nil (then_n ?_))))
  refine c_if rfl rfl ?_ ?_
  ·intro ht20
   (try simp only [Q1, Q2, Q3, Q4, Q5] at ht20)
   refine wp_seq (c_reg (asB rfl rfl rfl (w_nil (then_n (wp_ret (then_r (inb_r (then_r (inb_r ?_)))))))))
   refine then_r ?_
   refine ret1 (t := 4) (v := .bool true) rfl rfl rfl ⟨by rw [decide_eq_true (hin d (by simp) |> fun h => (by omega : d = c) ▸ h)], K⟩
  ·intro ht20
   (try simp only [Q1, Q2, Q3, Q4, Q5] at ht20)
   refine wp_skip (then_n (c_reg (mvI rfl rfl rfl (mvI rfl rfl rfl (s_add rfl rfl rfl rfl rfl (w64 (by omega)) (asI rfl rfl rfl (w_nil (inb_n (then_n ?_)))))))))
   exact ⟨L3.length, _, by simp, rfl, _, i + n, L3, rfl, (upd_keep' (upd_keep' (upd_keep' rfl rfl) rfl) (iv (by omega))), hB3, (fun x hx => by rcases hout x hx with h | h; (rcases List.mem_cons.1 h with h | h; (exact .inr (by omega)); exact .inl h); exact .inr h), (fun x hx => hin x (List.mem_cons_of_mem _ hx)), K⟩
 ·intro ht11
  (try simp only [Q1, Q2, Q3, Q4, Q5] at ht11)
  refine wp_exit (then_x (then_x (inb_x (then_n (wp_seq (c_reg (asB rfl rfl rfl (w_nil (then_n ?_)))))))))
  refine wp_ret ?_
  refine ret1 (t := 4) (v := .bool false) rfl rfl rfl ⟨?_, K⟩
  cases hBd with
  | nil => rw [decide_eq_false (fun h => (hout c h).elim (fun h => by simp at h) (fun h => h rfl))]
  | cons _ _ _ _ h1 => omega
end
section
def lst1 : List Int := [192, 200, 204, 210, 217, 224, 232, 236, 242, 249, 193, 201, 205, 211, 218, 221, 225, 233, 237, 243, 250, 253, 262, 263, 313, 314, 323, 324, 340, 341, 346, 347, 377, 378, 194, 202, 206, 212, 219, 226, 234, 238, 244, 251, 264, 265, 284, 285, 292, 293, 308, 309, 348, 349, 372, 373, 374, 375, 195, 209, 213, 227, 241, 245, 296, 297, 360, 361, 256, 257, 274, 275, 298, 299, 332, 333, 362, 363, 258, 259, 276, 277, 286, 287, 300, 301, 334, 335, 364, 365, 266, 267, 278, 279, 288, 289, 304, 379, 380, 196, 203, 207, 214, 220, 228, 235, 239, 246, 252, 255, 376, 197, 229, 366, 367, 336, 337, 368, 369, 268, 269, 270, 271, 282, 283, 327, 328, 344, 345, 352, 353, 356, 357, 381, 382, 317, 318, 199, 231, 290, 291, 310, 311, 315, 316, 325, 326, 342, 343, 350, 351, 354, 355, 260, 261, 280, 281, 302, 303, 370, 371, 198, 230, 216, 248, 208, 240, 222, 254, 223, 272, 273, 294, 295, 305, 321, 322, 338, 339, 330, 331, 358, 359]
def lst2 : List Int := [902, 904, 905, 906, 908, 910, 911, 940, 941, 942, 943, 972, 973, 974, 938, 939, 970, 971]
def lst3 : List Int := [1025, 1105, 1031, 1111, 1028, 1108, 1168, 1169, 1038, 1118, 1030, 1110]
def memb (c : Int) : Bool := decide (c = 32) || decide (c = 160) || inn c 48 57 || decide (c = 178) || decide (c = 179) || decide (c = 185) || inn c 65 90 || inn c 97 122 || decide (c = 383) || decide (c = 64257) || decide (c = 64258) || decide (c ∈ lst1) ||
 inn c 768 772 || inn c 774 776 || inn c 778 780 || decide (c = 803) || decide (c = 807) || decide (c = 808) || inn c 913 929 || inn c 931 937 || inn c 945 969 || decide (c ∈ lst2) || inn c 1040 1103 || decide (c ∈ lst3) || inn c 33 126
def nrm (c : Int) : Int := if inn c 65281 65374 then c - 65248 else c
theorem c130 (c : Int) (w : World) (h0 : 0 ≤ c) (h1 : c ≤ 1114111) : Calls Tryz.prog 130 #[.int .i64 c] w fun e w' => ∃ x k, e = .returned (.tuple #[.int .i64 x, .int .i64 k]) ∧ (k ≠ 0 → memb (nrm c) = true) ∧ New w w' := by
 obtain ⟨W, hW⟩ : ∃ W, W = w := ⟨_, rfl⟩
 subst hW
 have K : New W W := Kp.refl _ _
 refine enter (n := 101) Tryz.func130 rfl rfl (by simp) ?_
 refine wp_seq (c_reg (asI rfl rfl rfl (asI rfl rfl rfl (w_nil (then_n (wp_seq (wp_seq (c_reg (mvI rfl rfl rfl ?_)))))))))
 refine s_call3 go150 rfl (c150 c 65281 65374 _) rfl rfl rfl rfl rfl rfl ?_
 rintro _ w1 ⟨rfl, kw1⟩
 replace K := K.transN kw1
 refine ⟨_, rfl, ?_⟩
 refine w_nil (then_n ?_)
 refine c_if rfl rfl ?_ ?_
 ·intro ht5
  (try simp only [Q1, Q2, Q3, Q4, Q5] at ht5)
  refine c_reg (mvI rfl rfl rfl (s_sub rfl rfl rfl rfl rfl (w64 (by omega)) (asI rfl rfl rfl (w_nil (then_n (wp_seq (wp_block (wp_seq (c_reg ?_)))))))))
  refine mvI rfl rfl rfl (s_eq rfl rfl rfl rfl rfl rfl (mvB rfl rfl rfl ?_))
  refine w_split (t := 11) rfl ?_ ?_
  ·intro hs11
   (try simp only [Q1, Q2, Q3, Q4, Q5] at hs11)
   refine st_skip rfl (st_skip rfl (pTB rfl rfl rfl rfl rfl (asB rfl rfl rfl (w_nil (then_n (c_T rfl rfl (wp_seq (c_reg (asI rfl rfl rfl ?_)))))))))
   refine asI rfl rfl rfl (w_nil (then_n (wp_ret (inb_r (then_r ?_)))))
   refine ret2 (t := 2) (u := 3) (v := .int .i64 _) (v' := .int .i64 _) rfl rfl rfl rfl rfl ⟨_, _, rfl, fun hk => ?_, K⟩
   have en : nrm c = c - 65248 := by unfold nrm; simp [ht5]
   rw [en]; first | (simp [memb, hs11]; done) | (simp [memb, ht11]; done)
  ·intro hs11
   (try simp only [Q1, Q2, Q3, Q4, Q5] at hs11)
   refine mvI rfl rfl rfl (s_eq rfl rfl rfl rfl rfl rfl (pFB rfl rfl rfl rfl rfl (asB rfl rfl rfl (w_nil (then_n ?_)))))
   refine c_if rfl rfl ?_ ?_
   ·intro ht8
    (try simp only [Q1, Q2, Q3, Q4, Q5] at ht8)
    refine wp_seq (c_reg (asI rfl rfl rfl (asI rfl rfl rfl (w_nil (then_n (wp_ret (inb_r (then_r ?_))))))))
    refine ret2 (t := 2) (u := 3) (v := .int .i64 _) (v' := .int .i64 _) rfl rfl rfl rfl rfl ⟨_, _, rfl, fun hk => ?_, K⟩
    have en : nrm c = c - 65248 := by unfold nrm; simp [ht5]
    rw [en]; first | (simp [memb, hs8]; done) | (simp [memb, ht8]; done)
   ·intro ht8
    (try simp only [Q1, Q2, Q3, Q4, Q5] at ht8)
    refine wp_seq (c_reg (mvI rfl rfl rfl (s_call3 go150 rfl (c150 _ 48 57 _) rfl rfl rfl rfl rfl rfl ?_)))
    rintro _ w2 ⟨rfl, kw2⟩
    replace K := K.transN kw2
    refine ⟨_, rfl, ?_⟩
    refine mvB rfl rfl rfl ?_
    refine w_split (t := 18) rfl ?_ ?_
    ·intro hs18
     (try simp only [Q1, Q2, Q3, Q4, Q5] at hs18)
     refine st_skip rfl (st_skip rfl (pTB rfl rfl rfl rfl rfl (mvB rfl rfl rfl (st_skip rfl (st_skip rfl (pTB rfl rfl rfl rfl rfl (mvB rfl rfl rfl (st_skip rfl (st_skip rfl ?_)))))))))
     refine pTB rfl rfl rfl rfl rfl (asB rfl rfl rfl (w_nil (then_n (c_T rfl rfl (wp_seq (c_reg (asI rfl rfl rfl (asI rfl rfl rfl (w_nil ?_)))))))))
     refine then_n (wp_ret (inb_r (then_r ?_)))
     refine ret2 (t := 2) (u := 3) (v := .int .i64 _) (v' := .int .i64 _) rfl rfl rfl rfl rfl ⟨_, _, rfl, fun hk => ?_, K⟩
     have en : nrm c = c - 65248 := by unfold nrm; simp [ht5]
     rw [en]; first | (simp [memb, hs18]; done) | (simp [memb, ht18]; done)
    ·intro hs18
     (try simp only [Q1, Q2, Q3, Q4, Q5] at hs18)
     refine mvI rfl rfl rfl (s_eq rfl rfl rfl rfl rfl rfl (pFB rfl rfl rfl rfl rfl (mvB rfl rfl rfl ?_)))
     refine w_split (t := 22) rfl ?_ ?_
     ·intro hs22
      (try simp only [Q1, Q2, Q3, Q4, Q5] at hs22)
      refine st_skip rfl (st_skip rfl (pTB rfl rfl rfl rfl rfl (mvB rfl rfl rfl (st_skip rfl (st_skip rfl (pTB rfl rfl rfl rfl rfl (asB rfl rfl rfl (w_nil (then_n ?_)))))))))
      refine c_T rfl rfl (wp_seq (c_reg (asI rfl rfl rfl (asI rfl rfl rfl (w_nil (then_n (wp_ret (inb_r (then_r ?_)))))))))
      refine ret2 (t := 2) (u := 3) (v := .int .i64 _) (v' := .int .i64 _) rfl rfl rfl rfl rfl ⟨_, _, rfl, fun hk => ?_, K⟩
      have en : nrm c = c - 65248 := by unfold nrm; simp [ht5]
      rw [en]; first | (simp [memb, hs22]; done) | (simp [memb, ht22]; done)
     ·intro hs22
      (try simp only [Q1, Q2, Q3, Q4, Q5] at hs22)
      refine mvI rfl rfl rfl (s_eq rfl rfl rfl rfl rfl rfl (pFB rfl rfl rfl rfl rfl (mvB rfl rfl rfl ?_)))
      refine w_split (t := 26) rfl ?_ ?_
      ·intro hs26
       (try simp only [Q1, Q2, Q3, Q4, Q5] at hs26)
       refine st_skip rfl (st_skip rfl (pTB rfl rfl rfl rfl rfl (asB rfl rfl rfl (w_nil (then_n (c_T rfl rfl (wp_seq (c_reg (asI rfl rfl rfl ?_)))))))))
       refine asI rfl rfl rfl (w_nil (then_n (wp_ret (inb_r (then_r ?_)))))
       refine ret2 (t := 2) (u := 3) (v := .int .i64 _) (v' := .int .i64 _) rfl rfl rfl rfl rfl ⟨_, _, rfl, fun hk => ?_, K⟩
       have en : nrm c = c - 65248 := by unfold nrm; simp [ht5]
       rw [en]; first | (simp [memb, hs26]; done) | (simp [memb, ht26]; done)
      ·intro hs26
       (try simp only [Q1, Q2, Q3, Q4, Q5] at hs26)
       refine mvI rfl rfl rfl (s_eq rfl rfl rfl rfl rfl rfl (pFB rfl rfl rfl rfl rfl (asB rfl rfl rfl (w_nil (then_n ?_)))))
       refine c_if rfl rfl ?_ ?_
       ·intro ht15
        (try simp only [Q1, Q2, Q3, Q4, Q5] at ht15)
        refine wp_seq (c_reg (asI rfl rfl rfl (asI rfl rfl rfl (w_nil (then_n (wp_ret (inb_r (then_r ?_))))))))
        refine ret2 (t := 2) (u := 3) (v := .int .i64 _) (v' := .int .i64 _) rfl rfl rfl rfl rfl ⟨_, _, rfl, fun hk => ?_, K⟩
        have en : nrm c = c - 65248 := by unfold nrm; simp [ht5]
        rw [en]; first | (simp [memb, hs15]; done) | (simp [memb, ht15]; done)
       ·intro ht15
        (try simp only [Q1, Q2, Q3, Q4, Q5] at ht15)
        refine wp_seq (c_reg (mvI rfl rfl rfl (s_call3 go150 rfl (c150 _ 65 90 _) rfl rfl rfl rfl rfl rfl ?_)))
        rintro _ w3 ⟨rfl, kw3⟩
        replace K := K.transN kw3
        refine ⟨_, rfl, ?_⟩
        refine mvB rfl rfl rfl ?_
        refine w_split (t := 33) rfl ?_ ?_
        ·intro hs33
         (try simp only [Q1, Q2, Q3, Q4, Q5] at hs33)
         refine st_skip rfl (st_skip rfl (pTB rfl rfl rfl rfl rfl (mvB rfl rfl rfl (st_skip rfl (st_skip rfl (pTB rfl rfl rfl rfl rfl (mvB rfl rfl rfl (st_skip rfl (st_skip rfl ?_)))))))))
         refine pTB rfl rfl rfl rfl rfl (mvB rfl rfl rfl (st_skip rfl (st_skip rfl (pTB rfl rfl rfl rfl rfl (mvB rfl rfl rfl (st_skip rfl (st_skip rfl (pTB rfl rfl rfl rfl rfl (asB rfl rfl rfl ?_)))))))))
         refine w_nil (then_n (c_T rfl rfl (wp_seq (c_reg (asI rfl rfl rfl (asI rfl rfl rfl (w_nil (then_n (wp_ret ?_)))))))))
         refine inb_r (then_r ?_)
         refine ret2 (t := 2) (u := 3) (v := .int .i64 _) (v' := .int .i64 _) rfl rfl rfl rfl rfl ⟨_, _, rfl, fun hk => ?_, K⟩
         have en : nrm c = c - 65248 := by unfold nrm; simp [ht5]
         rw [en]; first | (simp [memb, hs33]; done) | (simp [memb, ht33]; done)
        ·intro hs33
         (try simp only [Q1, Q2, Q3, Q4, Q5] at hs33)
         refine mvI rfl rfl rfl (s_call3 go150 rfl (c150 _ 97 122 _) rfl rfl rfl rfl rfl rfl ?_)
         rintro _ w4 ⟨rfl, kw4⟩
         replace K := K.transN kw4
         refine ⟨_, rfl, ?_⟩
         refine pFB rfl rfl rfl rfl rfl (mvB rfl rfl rfl ?_)
         refine w_split (t := 37) rfl ?_ ?_
         ·intro hs37
          (try simp only [Q1, Q2, Q3, Q4, Q5] at hs37)
          refine st_skip rfl (st_skip rfl (pTB rfl rfl rfl rfl rfl (mvB rfl rfl rfl (st_skip rfl (st_skip rfl (pTB rfl rfl rfl rfl rfl (mvB rfl rfl rfl (st_skip rfl (st_skip rfl ?_)))))))))
          refine pTB rfl rfl rfl rfl rfl (mvB rfl rfl rfl (st_skip rfl (st_skip rfl (pTB rfl rfl rfl rfl rfl (asB rfl rfl rfl (w_nil (then_n (c_T rfl rfl (wp_seq ?_)))))))))
          refine c_reg (asI rfl rfl rfl (asI rfl rfl rfl (w_nil (then_n (wp_ret (inb_r (then_r ?_)))))))
          refine ret2 (t := 2) (u := 3) (v := .int .i64 _) (v' := .int .i64 _) rfl rfl rfl rfl rfl ⟨_, _, rfl, fun hk => ?_, K⟩
          have en : nrm c = c - 65248 := by unfold nrm; simp [ht5]
          rw [en]; first | (simp [memb, hs37]; done) | (simp [memb, ht37]; done)
         ·intro hs37
          (try simp only [Q1, Q2, Q3, Q4, Q5] at hs37)
          refine mvI rfl rfl rfl (s_eq rfl rfl rfl rfl rfl rfl (pFB rfl rfl rfl rfl rfl (mvB rfl rfl rfl ?_)))
          refine w_split (t := 41) rfl ?_ ?_
          ·intro hs41
           (try simp only [Q1, Q2, Q3, Q4, Q5] at hs41)
           refine st_skip rfl (st_skip rfl (pTB rfl rfl rfl rfl rfl (mvB rfl rfl rfl (st_skip rfl (st_skip rfl (pTB rfl rfl rfl rfl rfl (mvB rfl rfl rfl (st_skip rfl (st_skip rfl ?_)))))))))
           refine pTB rfl rfl rfl rfl rfl (asB rfl rfl rfl (w_nil (then_n (c_T rfl rfl (wp_seq (c_reg (asI rfl rfl rfl (asI rfl rfl rfl (w_nil ?_)))))))))
           refine then_n (wp_ret (inb_r (then_r ?_)))
           refine ret2 (t := 2) (u := 3) (v := .int .i64 _) (v' := .int .i64 _) rfl rfl rfl rfl rfl ⟨_, _, rfl, fun hk => ?_, K⟩
           have en : nrm c = c - 65248 := by unfold nrm; simp [ht5]
           rw [en]; first | (simp [memb, hs41]; done) | (simp [memb, ht41]; done)
          ·intro hs41
           (try simp only [Q1, Q2, Q3, Q4, Q5] at hs41)
           refine mvI rfl rfl rfl (s_eq rfl rfl rfl rfl rfl rfl (pFB rfl rfl rfl rfl rfl (mvB rfl rfl rfl ?_)))
           refine w_split (t := 45) rfl ?_ ?_
           ·intro hs45
            (try simp only [Q1, Q2, Q3, Q4, Q5] at hs45)
            refine st_skip rfl (st_skip rfl (pTB rfl rfl rfl rfl rfl (mvB rfl rfl rfl (st_skip rfl (st_skip rfl (pTB rfl rfl rfl rfl rfl (asB rfl rfl rfl (w_nil (then_n ?_)))))))))
            refine c_T rfl rfl (wp_seq (c_reg (asI rfl rfl rfl (asI rfl rfl rfl (w_nil (then_n (wp_ret (inb_r (then_r ?_)))))))))
            refine ret2 (t := 2) (u := 3) (v := .int .i64 _) (v' := .int .i64 _) rfl rfl rfl rfl rfl ⟨_, _, rfl, fun hk => ?_, K⟩
            have en : nrm c = c - 65248 := by unfold nrm; simp [ht5]
            rw [en]; first | (simp [memb, hs45]; done) | (simp [memb, ht45]; done)
           ·intro hs45
            (try simp only [Q1, Q2, Q3, Q4, Q5] at hs45)
            refine mvI rfl rfl rfl (s_eq rfl rfl rfl rfl rfl rfl (pFB rfl rfl rfl rfl rfl (mvB rfl rfl rfl ?_)))
            refine w_split (t := 49) rfl ?_ ?_
            ·intro hs49
             (try simp only [Q1, Q2, Q3, Q4, Q5] at hs49)
             refine st_skip rfl (st_skip rfl (pTB rfl rfl rfl rfl rfl (asB rfl rfl rfl (w_nil (then_n (c_T rfl rfl (wp_seq (c_reg (asI rfl rfl rfl ?_)))))))))
             refine asI rfl rfl rfl (w_nil (then_n (wp_ret (inb_r (then_r ?_)))))
             refine ret2 (t := 2) (u := 3) (v := .int .i64 _) (v' := .int .i64 _) rfl rfl rfl rfl rfl ⟨_, _, rfl, fun hk => ?_, K⟩
             have en : nrm c = c - 65248 := by unfold nrm; simp [ht5]
             rw [en]; first | (simp [memb, hs49]; done) | (simp [memb, ht49]; done)
            ·intro hs49
             (try simp only [Q1, Q2, Q3, Q4, Q5] at hs49)
             refine mvI rfl rfl rfl (s_call2 go151 rfl (c151 _ _ lst1 _ (by kernel_rfl)) rfl rfl rfl rfl ?_)
             rintro _ w5 ⟨rfl, kw5⟩
             replace K := K.transN kw5
             refine ⟨_, rfl, ?_⟩
             refine pFB rfl rfl rfl rfl rfl (asB rfl rfl rfl (w_nil (then_n ?_)))
             refine c_if rfl rfl ?_ ?_
             ·intro ht30
              (try simp only [Q1, Q2, Q3, Q4, Q5] at ht30)
              refine wp_seq (c_reg (asI rfl rfl rfl (asI rfl rfl rfl (w_nil (then_n (wp_ret (inb_r (then_r ?_))))))))
              refine ret2 (t := 2) (u := 3) (v := .int .i64 _) (v' := .int .i64 _) rfl rfl rfl rfl rfl ⟨_, _, rfl, fun hk => ?_, K⟩
              have en : nrm c = c - 65248 := by unfold nrm; simp [ht5]
              rw [en]; first | (simp [memb, hs30]; done) | (simp [memb, ht30]; done)
             ·intro ht30
              (try simp only [Q1, Q2, Q3, Q4, Q5] at ht30)
              refine wp_seq (c_reg (mvI rfl rfl rfl (s_call3 go150 rfl (c150 _ 768 772 _) rfl rfl rfl rfl rfl rfl ?_)))
              rintro _ w6 ⟨rfl, kw6⟩
              replace K := K.transN kw6
              refine ⟨_, rfl, ?_⟩
              refine mvB rfl rfl rfl ?_
              refine w_split (t := 56) rfl ?_ ?_
              ·intro hs56
               (try simp only [Q1, Q2, Q3, Q4, Q5] at hs56)
               refine st_skip rfl (st_skip rfl (pTB rfl rfl rfl rfl rfl (mvB rfl rfl rfl (st_skip rfl (st_skip rfl (pTB rfl rfl rfl rfl rfl (mvB rfl rfl rfl (st_skip rfl (st_skip rfl ?_)))))))))
               refine pTB rfl rfl rfl rfl rfl (mvB rfl rfl rfl (st_skip rfl (st_skip rfl (pTB rfl rfl rfl rfl rfl (mvB rfl rfl rfl (st_skip rfl (st_skip rfl (pTB rfl rfl rfl rfl rfl (asB rfl rfl rfl ?_)))))))))
               refine w_nil (then_n (c_T rfl rfl (wp_seq (c_reg (asI rfl rfl rfl (asI rfl rfl rfl (w_nil (then_n (wp_ret ?_)))))))))
               refine inb_r (then_r ?_)
               refine ret2 (t := 2) (u := 3) (v := .int .i64 _) (v' := .int .i64 _) rfl rfl rfl rfl rfl ⟨_, _, rfl, fun hk => ?_, K⟩
               have en : nrm c = c - 65248 := by unfold nrm; simp [ht5]
               rw [en]; first | (simp [memb, hs56]; done) | (simp [memb, ht56]; done)
              ·intro hs56
               (try simp only [Q1, Q2, Q3, Q4, Q5] at hs56)
               refine mvI rfl rfl rfl (s_call3 go150 rfl (c150 _ 774 776 _) rfl rfl rfl rfl rfl rfl ?_)
               rintro _ w7 ⟨rfl, kw7⟩
               replace K := K.transN kw7
               refine ⟨_, rfl, ?_⟩
               refine pFB rfl rfl rfl rfl rfl (mvB rfl rfl rfl ?_)
               refine w_split (t := 60) rfl ?_ ?_
               ·intro hs60
                (try simp only [Q1, Q2, Q3, Q4, Q5] at hs60)
                refine st_skip rfl (st_skip rfl (pTB rfl rfl rfl rfl rfl (mvB rfl rfl rfl (st_skip rfl (st_skip rfl (pTB rfl rfl rfl rfl rfl (mvB rfl rfl rfl (st_skip rfl (st_skip rfl ?_)))))))))
                refine pTB rfl rfl rfl rfl rfl (mvB rfl rfl rfl (st_skip rfl (st_skip rfl (pTB rfl rfl rfl rfl rfl (asB rfl rfl rfl (w_nil (then_n (c_T rfl rfl (wp_seq ?_)))))))))
                refine c_reg (asI rfl rfl rfl (asI rfl rfl rfl (w_nil (then_n (wp_ret (inb_r (then_r ?_)))))))
                refine ret2 (t := 2) (u := 3) (v := .int .i64 _) (v' := .int .i64 _) rfl rfl rfl rfl rfl ⟨_, _, rfl, fun hk => ?_, K⟩
                have en : nrm c = c - 65248 := by unfold nrm; simp [ht5]
                rw [en]; first | (simp [memb, hs60]; done) | (simp [memb, ht60]; done)
               ·intro hs60
                (try simp only [Q1, Q2, Q3, Q4, Q5] at hs60)
                refine mvI rfl rfl rfl (s_call3 go150 rfl (c150 _ 778 780 _) rfl rfl rfl rfl rfl rfl ?_)
                rintro _ w8 ⟨rfl, kw8⟩
                replace K := K.transN kw8
                refine ⟨_, rfl, ?_⟩
                refine pFB rfl rfl rfl rfl rfl (mvB rfl rfl rfl ?_)
                refine w_split (t := 64) rfl ?_ ?_
                ·intro hs64
                 (try simp only [Q1, Q2, Q3, Q4, Q5] at hs64)
                 refine st_skip rfl (st_skip rfl (pTB rfl rfl rfl rfl rfl (mvB rfl rfl rfl (st_skip rfl (st_skip rfl (pTB rfl rfl rfl rfl rfl (mvB rfl rfl rfl (st_skip rfl (st_skip rfl ?_)))))))))
                 refine pTB rfl rfl rfl rfl rfl (asB rfl rfl rfl (w_nil (then_n (c_T rfl rfl (wp_seq (c_reg (asI rfl rfl rfl (asI rfl rfl rfl (w_nil ?_)))))))))
                 refine then_n (wp_ret (inb_r (then_r ?_)))
                 refine ret2 (t := 2) (u := 3) (v := .int .i64 _) (v' := .int .i64 _) rfl rfl rfl rfl rfl ⟨_, _, rfl, fun hk => ?_, K⟩
                 have en : nrm c = c - 65248 := by unfold nrm; simp [ht5]
                 rw [en]; first | (simp [memb, hs64]; done) | (simp [memb, ht64]; done)
                ·intro hs64
                 (try simp only [Q1, Q2, Q3, Q4, Q5] at hs64)
                 refine mvI rfl rfl rfl (s_eq rfl rfl rfl rfl rfl rfl (pFB rfl rfl rfl rfl rfl (mvB rfl rfl rfl ?_)))
                 refine w_split (t := 68) rfl ?_ ?_
                 ·intro hs68
                  (try simp only [Q1, Q2, Q3, Q4, Q5] at hs68)
                  refine st_skip rfl (st_skip rfl (pTB rfl rfl rfl rfl rfl (mvB rfl rfl rfl (st_skip rfl (st_skip rfl (pTB rfl rfl rfl rfl rfl (asB rfl rfl rfl (w_nil (then_n ?_)))))))))
                  refine c_T rfl rfl (wp_seq (c_reg (asI rfl rfl rfl (asI rfl rfl rfl (w_nil (then_n (wp_ret (inb_r (then_r ?_)))))))))
                  refine ret2 (t := 2) (u := 3) (v := .int .i64 _) (v' := .int .i64 _) rfl rfl rfl rfl rfl ⟨_, _, rfl, fun hk => ?_, K⟩
                  have en : nrm c = c - 65248 := by unfold nrm; simp [ht5]
                  rw [en]; first | (simp [memb, hs68]; done) | (simp [memb, ht68]; done)
                 ·intro hs68
                  (try simp only [Q1, Q2, Q3, Q4, Q5] at hs68)
                  refine mvI rfl rfl rfl (s_eq rfl rfl rfl rfl rfl rfl (pFB rfl rfl rfl rfl rfl (mvB rfl rfl rfl ?_)))
                  refine w_split (t := 72) rfl ?_ ?_
                  ·intro hs72
                   (try simp only [Q1, Q2, Q3, Q4, Q5] at hs72)
                   refine st_skip rfl (st_skip rfl (pTB rfl rfl rfl rfl rfl (asB rfl rfl rfl (w_nil (then_n (c_T rfl rfl (wp_seq (c_reg (asI rfl rfl rfl ?_)))))))))
                   refine asI rfl rfl rfl (w_nil (then_n (wp_ret (inb_r (then_r ?_)))))
                   refine ret2 (t := 2) (u := 3) (v := .int .i64 _) (v' := .int .i64 _) rfl rfl rfl rfl rfl ⟨_, _, rfl, fun hk => ?_, K⟩
                   have en : nrm c = c - 65248 := by unfold nrm; simp [ht5]
                   rw [en]; first | (simp [memb, hs72]; done) | (simp [memb, ht72]; done)
                  ·intro hs72
                   (try simp only [Q1, Q2, Q3, Q4, Q5] at hs72)
                   refine mvI rfl rfl rfl (s_eq rfl rfl rfl rfl rfl rfl (pFB rfl rfl rfl rfl rfl (asB rfl rfl rfl (w_nil (then_n ?_)))))
                   refine c_if rfl rfl ?_ ?_
                   ·intro ht53
                    (try simp only [Q1, Q2, Q3, Q4, Q5] at ht53)
                    refine wp_seq (c_reg (asI rfl rfl rfl (asI rfl rfl rfl (w_nil (then_n (wp_ret (inb_r (then_r ?_))))))))
                    refine ret2 (t := 2) (u := 3) (v := .int .i64 _) (v' := .int .i64 _) rfl rfl rfl rfl rfl ⟨_, _, rfl, fun hk => ?_, K⟩
                    have en : nrm c = c - 65248 := by unfold nrm; simp [ht5]
                    rw [en]; first | (simp [memb, hs53]; done) | (simp [memb, ht53]; done)
                   ·intro ht53
                    (try simp only [Q1, Q2, Q3, Q4, Q5] at ht53)
                    refine wp_seq (c_reg (mvI rfl rfl rfl (s_call3 go150 rfl (c150 _ 913 929 _) rfl rfl rfl rfl rfl rfl ?_)))
                    rintro _ w9 ⟨rfl, kw9⟩
                    replace K := K.transN kw9
                    refine ⟨_, rfl, ?_⟩
                    refine mvB rfl rfl rfl ?_
                    refine w_split (t := 79) rfl ?_ ?_
                    ·intro hs79
                     (try simp only [Q1, Q2, Q3, Q4, Q5] at hs79)
                     refine st_skip rfl (st_skip rfl (pTB rfl rfl rfl rfl rfl (mvB rfl rfl rfl (st_skip rfl (st_skip rfl (pTB rfl rfl rfl rfl rfl (mvB rfl rfl rfl (st_skip rfl (st_skip rfl ?_)))))))))
                     refine pTB rfl rfl rfl rfl rfl (asB rfl rfl rfl (w_nil (then_n (c_T rfl rfl (wp_seq (c_reg (asI rfl rfl rfl (asI rfl rfl rfl (w_nil ?_)))))))))
                     refine then_n (wp_ret (inb_r (then_r ?_)))
                     refine ret2 (t := 2) (u := 3) (v := .int .i64 _) (v' := .int .i64 _) rfl rfl rfl rfl rfl ⟨_, _, rfl, fun hk => ?_, K⟩
                     have en : nrm c = c - 65248 := by unfold nrm; simp [ht5]
                     rw [en]; first | (simp [memb, hs79]; done) | (simp [memb, ht79]; done)
                    ·intro hs79
                     (try simp only [Q1, Q2, Q3, Q4, Q5] at hs79)
                     refine mvI rfl rfl rfl (s_call3 go150 rfl (c150 _ 931 937 _) rfl rfl rfl rfl rfl rfl ?_)
                     rintro _ w10 ⟨rfl, kw10⟩
                     replace K := K.transN kw10
                     refine ⟨_, rfl, ?_⟩
                     refine pFB rfl rfl rfl rfl rfl (mvB rfl rfl rfl ?_)
                     refine w_split (t := 83) rfl ?_ ?_
                     ·intro hs83
                      (try simp only [Q1, Q2, Q3, Q4, Q5] at hs83)
                      refine st_skip rfl (st_skip rfl (pTB rfl rfl rfl rfl rfl (mvB rfl rfl rfl (st_skip rfl (st_skip rfl (pTB rfl rfl rfl rfl rfl (asB rfl rfl rfl (w_nil (then_n ?_)))))))))
                      refine c_T rfl rfl (wp_seq (c_reg (asI rfl rfl rfl (asI rfl rfl rfl (w_nil (then_n (wp_ret (inb_r (then_r ?_)))))))))
                      refine ret2 (t := 2) (u := 3) (v := .int .i64 _) (v' := .int .i64 _) rfl rfl rfl rfl rfl ⟨_, _, rfl, fun hk => ?_, K⟩
                      have en : nrm c = c - 65248 := by unfold nrm; simp [ht5]
                      rw [en]; first | (simp [memb, hs83]; done) | (simp [memb, ht83]; done)
                     ·intro hs83
                      (try simp only [Q1, Q2, Q3, Q4, Q5] at hs83)
                      refine mvI rfl rfl rfl (s_call3 go150 rfl (c150 _ 945 969 _) rfl rfl rfl rfl rfl rfl ?_)
                      rintro _ w11 ⟨rfl, kw11⟩
                      replace K := K.transN kw11
                      refine ⟨_, rfl, ?_⟩
                      refine pFB rfl rfl rfl rfl rfl (mvB rfl rfl rfl ?_)
                      refine w_split (t := 87) rfl ?_ ?_
                      ·intro hs87
                       (try simp only [Q1, Q2, Q3, Q4, Q5] at hs87)
                       refine st_skip rfl (st_skip rfl (pTB rfl rfl rfl rfl rfl (asB rfl rfl rfl (w_nil (then_n (c_T rfl rfl (wp_seq (c_reg (asI rfl rfl rfl ?_)))))))))
                       refine asI rfl rfl rfl (w_nil (then_n (wp_ret (inb_r (then_r ?_)))))
                       refine ret2 (t := 2) (u := 3) (v := .int .i64 _) (v' := .int .i64 _) rfl rfl rfl rfl rfl ⟨_, _, rfl, fun hk => ?_, K⟩
                       have en : nrm c = c - 65248 := by unfold nrm; simp [ht5]
                       rw [en]; first | (simp [memb, hs87]; done) | (simp [memb, ht87]; done)
                      ·intro hs87
                       (try simp only [Q1, Q2, Q3, Q4, Q5] at hs87)
                       refine mvI rfl rfl rfl (s_call2 go151 rfl (c151 _ _ lst2 _ (by kernel_rfl)) rfl rfl rfl rfl ?_)
                       rintro _ w12 ⟨rfl, kw12⟩
                       replace K := K.transN kw12
                       refine ⟨_, rfl, ?_⟩
                       refine pFB rfl rfl rfl rfl rfl (asB rfl rfl rfl (w_nil (then_n ?_)))
                       refine c_if rfl rfl ?_ ?_
                       ·intro ht76
                        (try simp only [Q1, Q2, Q3, Q4, Q5] at ht76)
                        refine wp_seq (c_reg (asI rfl rfl rfl (asI rfl rfl rfl (w_nil (then_n (wp_ret (inb_r (then_r ?_))))))))
                        refine ret2 (t := 2) (u := 3) (v := .int .i64 _) (v' := .int .i64 _) rfl rfl rfl rfl rfl ⟨_, _, rfl, fun hk => ?_, K⟩
                        have en : nrm c = c - 65248 := by unfold nrm; simp [ht5]
                        rw [en]; first | (simp [memb, hs76]; done) | (simp [memb, ht76]; done)
                       ·intro ht76
                        (try simp only [Q1, Q2, Q3, Q4, Q5] at ht76)
                        refine wp_seq (c_reg (mvI rfl rfl rfl (s_call3 go150 rfl (c150 _ 1040 1103 _) rfl rfl rfl rfl rfl rfl ?_)))
                        rintro _ w13 ⟨rfl, kw13⟩
                        replace K := K.transN kw13
                        refine ⟨_, rfl, ?_⟩
                        refine mvB rfl rfl rfl ?_
                        refine w_split (t := 94) rfl ?_ ?_
                        ·intro hs94
                         (try simp only [Q1, Q2, Q3, Q4, Q5] at hs94)
                         refine st_skip rfl (st_skip rfl (pTB rfl rfl rfl rfl rfl (asB rfl rfl rfl (w_nil (then_n (c_T rfl rfl (wp_seq (c_reg (asI rfl rfl rfl ?_)))))))))
                         refine asI rfl rfl rfl (w_nil (then_n (wp_ret (inb_r (then_r ?_)))))
                         refine ret2 (t := 2) (u := 3) (v := .int .i64 _) (v' := .int .i64 _) rfl rfl rfl rfl rfl ⟨_, _, rfl, fun hk => ?_, K⟩
                         have en : nrm c = c - 65248 := by unfold nrm; simp [ht5]
                         rw [en]; first | (simp [memb, hs94]; done) | (simp [memb, ht94]; done)
                        ·intro hs94
                         (try simp only [Q1, Q2, Q3, Q4, Q5] at hs94)
                         refine mvI rfl rfl rfl (s_call2 go151 rfl (c151 _ _ lst3 _ (by kernel_rfl)) rfl rfl rfl rfl ?_)
                         rintro _ w14 ⟨rfl, kw14⟩
                         replace K := K.transN kw14
                         refine ⟨_, rfl, ?_⟩
                         refine pFB rfl rfl rfl rfl rfl (asB rfl rfl rfl (w_nil (then_n ?_)))
                         refine c_if rfl rfl ?_ ?_
                         ·intro ht91
                          (try simp only [Q1, Q2, Q3, Q4, Q5] at ht91)
                          refine wp_seq (c_reg (asI rfl rfl rfl (asI rfl rfl rfl (w_nil (then_n (wp_ret (inb_r (then_r ?_))))))))
                          refine ret2 (t := 2) (u := 3) (v := .int .i64 _) (v' := .int .i64 _) rfl rfl rfl rfl rfl ⟨_, _, rfl, fun hk => ?_, K⟩
                          have en : nrm c = c - 65248 := by unfold nrm; simp [ht5]
                          rw [en]; first | (simp [memb, hs91]; done) | (simp [memb, ht91]; done)
                         ·intro ht91
                          (try simp only [Q1, Q2, Q3, Q4, Q5] at ht91)
                          refine wp_seq (c_reg (mvI rfl rfl rfl (s_call3 go150 rfl (c150 _ 33 126 _) rfl rfl rfl rfl rfl rfl ?_)))
                          rintro _ w15 ⟨rfl, kw15⟩
                          replace K := K.transN kw15
                          refine ⟨_, rfl, ?_⟩
                          refine asB rfl rfl rfl (w_nil (then_n ?_))
                          refine c_if rfl rfl ?_ ?_
                          ·intro ht98
                           (try simp only [Q1, Q2, Q3, Q4, Q5] at ht98)
                           refine wp_seq (c_reg (asI rfl rfl rfl (asI rfl rfl rfl (w_nil (then_n (wp_ret (inb_r (then_r ?_))))))))
                           refine ret2 (t := 2) (u := 3) (v := .int .i64 _) (v' := .int .i64 _) rfl rfl rfl rfl rfl ⟨_, _, rfl, fun hk => ?_, K⟩
                           have en : nrm c = c - 65248 := by unfold nrm; simp [ht5]
                           rw [en]; first | (simp [memb, hs98]; done) | (simp [memb, ht98]; done)
                          ·intro ht98
                           (try simp only [Q1, Q2, Q3, Q4, Q5] at ht98)
                           refine wp_skip (inb_n (then_n (wp_seq (c_reg (asI rfl rfl rfl (asI rfl rfl rfl (w_nil (then_n (wp_ret ?_)))))))))
                           refine ret2 (t := 2) (u := 3) (v := .int .i64 _) (v' := .int .i64 _) rfl rfl rfl rfl rfl ⟨_, _, rfl, fun hk => ?_, K⟩
                           exact absurd rfl hk
 ·intro ht5
  (try simp only [Q1, Q2, Q3, Q4, Q5] at ht5)
  refine wp_skip (then_n (wp_seq (wp_block (wp_seq (c_reg (mvI rfl rfl rfl (s_eq rfl rfl rfl rfl rfl rfl (mvB rfl rfl rfl ?_))))))))
  refine w_split (t := 11) rfl ?_ ?_
  ·intro hs11
   (try simp only [Q1, Q2, Q3, Q4, Q5] at hs11)
   refine st_skip rfl (st_skip rfl (pTB rfl rfl rfl rfl rfl (asB rfl rfl rfl (w_nil (then_n (c_T rfl rfl (wp_seq (c_reg (asI rfl rfl rfl ?_)))))))))
   refine asI rfl rfl rfl (w_nil (then_n (wp_ret (inb_r (then_r ?_)))))
   refine ret2 (t := 2) (u := 3) (v := .int .i64 _) (v' := .int .i64 _) rfl rfl rfl rfl rfl ⟨_, _, rfl, fun hk => ?_, K⟩
   have en : nrm c = c := by unfold nrm; simp [ht5]
   rw [en]; first | (simp [memb, hs11]; done) | (simp [memb, ht11]; done)
  ·intro hs11
   (try simp only [Q1, Q2, Q3, Q4, Q5] at hs11)
   refine mvI rfl rfl rfl (s_eq rfl rfl rfl rfl rfl rfl (pFB rfl rfl rfl rfl rfl (asB rfl rfl rfl (w_nil (then_n ?_)))))
   refine c_if rfl rfl ?_ ?_
   ·intro ht8
    (try simp only [Q1, Q2, Q3, Q4, Q5] at ht8)
    refine wp_seq (c_reg (asI rfl rfl rfl (asI rfl rfl rfl (w_nil (then_n (wp_ret (inb_r (then_r ?_))))))))
    refine ret2 (t := 2) (u := 3) (v := .int .i64 _) (v' := .int .i64 _) rfl rfl rfl rfl rfl ⟨_, _, rfl, fun hk => ?_, K⟩
    have en : nrm c = c := by unfold nrm; simp [ht5]
    rw [en]; first | (simp [memb, hs8]; done) | (simp [memb, ht8]; done)
   ·intro ht8
    (try simp only [Q1, Q2, Q3, Q4, Q5] at ht8)
    refine wp_seq (c_reg (mvI rfl rfl rfl (s_call3 go150 rfl (c150 _ 48 57 _) rfl rfl rfl rfl rfl rfl ?_)))
    rintro _ w2 ⟨rfl, kw2⟩
    replace K := K.transN kw2
    refine ⟨_, rfl, ?_⟩
    refine mvB rfl rfl rfl ?_
    refine w_split (t := 18) rfl ?_ ?_
    ·intro hs18
     (try simp only [Q1, Q2, Q3, Q4, Q5] at hs18)
     refine st_skip rfl (st_skip rfl (pTB rfl rfl rfl rfl rfl (mvB rfl rfl rfl (st_skip rfl (st_skip rfl (pTB rfl rfl rfl rfl rfl (mvB rfl rfl rfl (st_skip rfl (st_skip rfl ?_)))))))))
     refine pTB rfl rfl rfl rfl rfl (asB rfl rfl rfl (w_nil (then_n (c_T rfl rfl (wp_seq (c_reg (asI rfl rfl rfl (asI rfl rfl rfl (w_nil ?_)))))))))
     refine then_n (wp_ret (inb_r (then_r ?_)))
     refine ret2 (t := 2) (u := 3) (v := .int .i64 _) (v' := .int .i64 _) rfl rfl rfl rfl rfl ⟨_, _, rfl, fun hk => ?_, K⟩
     have en : nrm c = c := by unfold nrm; simp [ht5]
     rw [en]; first | (simp [memb, hs18]; done) | (simp [memb, ht18]; done)
    ·intro hs18
     (try simp only [Q1, Q2, Q3, Q4, Q5] at hs18)
     refine mvI rfl rfl rfl (s_eq rfl rfl rfl rfl rfl rfl (pFB rfl rfl rfl rfl rfl (mvB rfl rfl rfl ?_)))
     refine w_split (t := 22) rfl ?_ ?_
     ·intro hs22
      (try simp only [Q1, Q2, Q3, Q4, Q5] at hs22)
      refine st_skip rfl (st_skip rfl (pTB rfl rfl rfl rfl rfl (mvB rfl rfl rfl (st_skip rfl (st_skip rfl (pTB rfl rfl rfl rfl rfl (asB rfl rfl rfl (w_nil (then_n ?_)))))))))
      refine c_T rfl rfl (wp_seq (c_reg (asI rfl rfl rfl (asI rfl rfl rfl (w_nil (then_n (wp_ret (inb_r (then_r ?_)))))))))
      refine ret2 (t := 2) (u := 3) (v := .int .i64 _) (v' := .int .i64 _) rfl rfl rfl rfl rfl ⟨_, _, rfl, fun hk => ?_, K⟩
      have en : nrm c = c := by unfold nrm; simp [ht5]
      rw [en]; first | (simp [memb, hs22]; done) | (simp [memb, ht22]; done)
     ·intro hs22
      (try simp only [Q1, Q2, Q3, Q4, Q5] at hs22)
      refine mvI rfl rfl rfl (s_eq rfl rfl rfl rfl rfl rfl (pFB rfl rfl rfl rfl rfl (mvB rfl rfl rfl ?_)))
      refine w_split (t := 26) rfl ?_ ?_
      ·intro hs26
       (try simp only [Q1, Q2, Q3, Q4, Q5] at hs26)
       refine st_skip rfl (st_skip rfl (pTB rfl rfl rfl rfl rfl (asB rfl rfl rfl (w_nil (then_n (c_T rfl rfl (wp_seq (c_reg (asI rfl rfl rfl ?_)))))))))
       refine asI rfl rfl rfl (w_nil (then_n (wp_ret (inb_r (then_r ?_)))))
       refine ret2 (t := 2) (u := 3) (v := .int .i64 _) (v' := .int .i64 _) rfl rfl rfl rfl rfl ⟨_, _, rfl, fun hk => ?_, K⟩
       have en : nrm c = c := by unfold nrm; simp [ht5]
       rw [en]; first | (simp [memb, hs26]; done) | (simp [memb, ht26]; done)
      ·intro hs26
       (try simp only [Q1, Q2, Q3, Q4, Q5] at hs26)
       refine mvI rfl rfl rfl (s_eq rfl rfl rfl rfl rfl rfl (pFB rfl rfl rfl rfl rfl (asB rfl rfl rfl (w_nil (then_n ?_)))))
       refine c_if rfl rfl ?_ ?_
       ·intro ht15
        (try simp only [Q1, Q2, Q3, Q4, Q5] at ht15)
        refine wp_seq (c_reg (asI rfl rfl rfl (asI rfl rfl rfl (w_nil (then_n (wp_ret (inb_r (then_r ?_))))))))
        refine ret2 (t := 2) (u := 3) (v := .int .i64 _) (v' := .int .i64 _) rfl rfl rfl rfl rfl ⟨_, _, rfl, fun hk => ?_, K⟩
        have en : nrm c = c := by unfold nrm; simp [ht5]
        rw [en]; first | (simp [memb, hs15]; done) | (simp [memb, ht15]; done)
       ·intro ht15
        (try simp only [Q1, Q2, Q3, Q4, Q5] at ht15)
        refine wp_seq (c_reg (mvI rfl rfl rfl (s_call3 go150 rfl (c150 _ 65 90 _) rfl rfl rfl rfl rfl rfl ?_)))
        rintro _ w3 ⟨rfl, kw3⟩
        replace K := K.transN kw3
        refine ⟨_, rfl, ?_⟩
        refine mvB rfl rfl rfl ?_
        refine w_split (t := 33) rfl ?_ ?_
        ·intro hs33
         (try simp only [Q1, Q2, Q3, Q4, Q5] at hs33)
         refine st_skip rfl (st_skip rfl (pTB rfl rfl rfl rfl rfl (mvB rfl rfl rfl (st_skip rfl (st_skip rfl (pTB rfl rfl rfl rfl rfl (mvB rfl rfl rfl (st_skip rfl (st_skip rfl ?_)))))))))
         refine pTB rfl rfl rfl rfl rfl (mvB rfl rfl rfl (st_skip rfl (st_skip rfl (pTB rfl rfl rfl rfl rfl (mvB rfl rfl rfl (st_skip rfl (st_skip rfl (pTB rfl rfl rfl rfl rfl (asB rfl rfl rfl ?_)))))))))
         refine w_nil (then_n (c_T rfl rfl (wp_seq (c_reg (asI rfl rfl rfl (asI rfl rfl rfl (w_nil (then_n (wp_ret ?_)))))))))
         refine inb_r (then_r ?_)
         refine ret2 (t := 2) (u := 3) (v := .int .i64 _) (v' := .int .i64 _) rfl rfl rfl rfl rfl ⟨_, _, rfl, fun hk => ?_, K⟩
         have en : nrm c = c := by unfold nrm; simp [ht5]
         rw [en]; first | (simp [memb, hs33]; done) | (simp [memb, ht33]; done)
        ·intro hs33
         (try simp only [Q1, Q2, Q3, Q4, Q5] at hs33)
         refine mvI rfl rfl rfl (s_call3 go150 rfl (c150 _ 97 122 _) rfl rfl rfl rfl rfl rfl ?_)
         rintro _ w4 ⟨rfl, kw4⟩
         replace K := K.transN kw4
         refine ⟨_, rfl, ?_⟩
         refine pFB rfl rfl rfl rfl rfl (mvB rfl rfl rfl ?_)
         refine w_split (t := 37) rfl ?_ ?_
         ·intro hs37
          (try simp only [Q1, Q2, Q3, Q4, Q5] at hs37)
          refine st_skip rfl (st_skip rfl (pTB rfl rfl rfl rfl rfl (mvB rfl rfl rfl (st_skip rfl (st_skip rfl (pTB rfl rfl rfl rfl rfl (mvB rfl rfl rfl (st_skip rfl (st_skip rfl ?_)))))))))
          refine pTB rfl rfl rfl rfl rfl (mvB rfl rfl rfl (st_skip rfl (st_skip rfl (pTB rfl rfl rfl rfl rfl (asB rfl rfl rfl (w_nil (then_n (c_T rfl rfl (wp_seq ?_)))))))))
          refine c_reg (asI rfl rfl rfl (asI rfl rfl rfl (w_nil (then_n (wp_ret (inb_r (then_r ?_)))))))
          refine ret2 (t := 2) (u := 3) (v := .int .i64 _) (v' := .int .i64 _) rfl rfl rfl rfl rfl ⟨_, _, rfl, fun hk => ?_, K⟩
          have en : nrm c = c := by unfold nrm; simp [ht5]
          rw [en]; first | (simp [memb, hs37]; done) | (simp [memb, ht37]; done)
         ·intro hs37
          (try simp only [Q1, Q2, Q3, Q4, Q5] at hs37)
          refine mvI rfl rfl rfl (s_eq rfl rfl rfl rfl rfl rfl (pFB rfl rfl rfl rfl rfl (mvB rfl rfl rfl ?_)))
          refine w_split (t := 41) rfl ?_ ?_
          ·intro hs41
           (try simp only [Q1, Q2, Q3, Q4, Q5] at hs41)
           refine st_skip rfl (st_skip rfl (pTB rfl rfl rfl rfl rfl (mvB rfl rfl rfl (st_skip rfl (st_skip rfl (pTB rfl rfl rfl rfl rfl (mvB rfl rfl rfl (st_skip rfl (st_skip rfl ?_)))))))))
           refine pTB rfl rfl rfl rfl rfl (asB rfl rfl rfl (w_nil (then_n (c_T rfl rfl (wp_seq (c_reg (asI rfl rfl rfl (asI rfl rfl rfl (w_nil ?_)))))))))
           refine then_n (wp_ret (inb_r (then_r ?_)))
           refine ret2 (t := 2) (u := 3) (v := .int .i64 _) (v' := .int .i64 _) rfl rfl rfl rfl rfl ⟨_, _, rfl, fun hk => ?_, K⟩
           have en : nrm c = c := by unfold nrm; simp [ht5]
           rw [en]; first | (simp [memb, hs41]; done) | (simp [memb, ht41]; done)
          ·intro hs41
           (try simp only [Q1, Q2, Q3, Q4, Q5] at hs41)
           refine mvI rfl rfl rfl (s_eq rfl rfl rfl rfl rfl rfl (pFB rfl rfl rfl rfl rfl (mvB rfl rfl rfl ?_)))
           refine w_split (t := 45) rfl ?_ ?_
           ·intro hs45
            (try simp only [Q1, Q2, Q3, Q4, Q5] at hs45)
            refine st_skip rfl (st_skip rfl (pTB rfl rfl rfl rfl rfl (mvB rfl rfl rfl (st_skip rfl (st_skip rfl (pTB rfl rfl rfl rfl rfl (asB rfl rfl rfl (w_nil (then_n ?_)))))))))
            refine c_T rfl rfl (wp_seq (c_reg (asI rfl rfl rfl (asI rfl rfl rfl (w_nil (then_n (wp_ret (inb_r (then_r ?_)))))))))
            refine ret2 (t := 2) (u := 3) (v := .int .i64 _) (v' := .int .i64 _) rfl rfl rfl rfl rfl ⟨_, _, rfl, fun hk => ?_, K⟩
            have en : nrm c = c := by unfold nrm; simp [ht5]
            rw [en]; first | (simp [memb, hs45]; done) | (simp [memb, ht45]; done)
           ·intro hs45
            (try simp only [Q1, Q2, Q3, Q4, Q5] at hs45)
            refine mvI rfl rfl rfl (s_eq rfl rfl rfl rfl rfl rfl (pFB rfl rfl rfl rfl rfl (mvB rfl rfl rfl ?_)))
            refine w_split (t := 49) rfl ?_ ?_
            ·intro hs49
             (try simp only [Q1, Q2, Q3, Q4, Q5] at hs49)
             refine st_skip rfl (st_skip rfl (pTB rfl rfl rfl rfl rfl (asB rfl rfl rfl (w_nil (then_n (c_T rfl rfl (wp_seq (c_reg (asI rfl rfl rfl ?_)))))))))
             refine asI rfl rfl rfl (w_nil (then_n (wp_ret (inb_r (then_r ?_)))))
             refine ret2 (t := 2) (u := 3) (v := .int .i64 _) (v' := .int .i64 _) rfl rfl rfl rfl rfl ⟨_, _, rfl, fun hk => ?_, K⟩
             have en : nrm c = c := by unfold nrm; simp [ht5]
             rw [en]; first | (simp [memb, hs49]; done) | (simp [memb, ht49]; done)
            ·intro hs49
             (try simp only [Q1, Q2, Q3, Q4, Q5] at hs49)
             refine mvI rfl rfl rfl (s_call2 go151 rfl (c151 _ _ lst1 _ (by kernel_rfl)) rfl rfl rfl rfl ?_)
             rintro _ w5 ⟨rfl, kw5⟩
             replace K := K.transN kw5
             refine ⟨_, rfl, ?_⟩
             refine pFB rfl rfl rfl rfl rfl (asB rfl rfl rfl (w_nil (then_n ?_)))
             refine c_if rfl rfl ?_ ?_
             ·intro ht30
              (try simp only [Q1, Q2, Q3, Q4, Q5] at ht30)
              refine wp_seq (c_reg (asI rfl rfl rfl (asI rfl rfl rfl (w_nil (then_n (wp_ret (inb_r (then_r ?_))))))))
              refine ret2 (t := 2) (u := 3) (v := .int .i64 _) (v' := .int .i64 _) rfl rfl rfl rfl rfl ⟨_, _, rfl, fun hk => ?_, K⟩
              have en : nrm c = c := by unfold nrm; simp [ht5]
              rw [en]; first | (simp [memb, hs30]; done) | (simp [memb, ht30]; done)
             ·intro ht30
              (try simp only [Q1, Q2, Q3, Q4, Q5] at ht30)
              refine wp_seq (c_reg (mvI rfl rfl rfl (s_call3 go150 rfl (c150 _ 768 772 _) rfl rfl rfl rfl rfl rfl ?_)))
              rintro _ w6 ⟨rfl, kw6⟩
              replace K := K.transN kw6
              refine ⟨_, rfl, ?_⟩
              refine mvB rfl rfl rfl ?_
              refine w_split (t := 56) rfl ?_ ?_
              ·intro hs56
               (try simp only [Q1, Q2, Q3, Q4, Q5] at hs56)
               refine st_skip rfl (st_skip rfl (pTB rfl rfl rfl rfl rfl (mvB rfl rfl rfl (st_skip rfl (st_skip rfl (pTB rfl rfl rfl rfl rfl (mvB rfl rfl rfl (st_skip rfl (st_skip rfl ?_)))))))))
               refine pTB rfl rfl rfl rfl rfl (mvB rfl rfl rfl (st_skip rfl (st_skip rfl (pTB rfl rfl rfl rfl rfl (mvB rfl rfl rfl (st_skip rfl (st_skip rfl (pTB rfl rfl rfl rfl rfl (asB rfl rfl rfl ?_)))))))))
               refine w_nil (then_n (c_T rfl rfl (wp_seq (c_reg (asI rfl rfl rfl (asI rfl rfl rfl (w_nil (then_n (wp_ret ?_)))))))))
               refine inb_r (then_r ?_)
               refine ret2 (t := 2) (u := 3) (v := .int .i64 _) (v' := .int .i64 _) rfl rfl rfl rfl rfl ⟨_, _, rfl, fun hk => ?_, K⟩
               have en : nrm c = c := by unfold nrm; simp [ht5]
               rw [en]; first | (simp [memb, hs56]; done) | (simp [memb, ht56]; done)
              ·intro hs56
               (try simp only [Q1, Q2, Q3, Q4, Q5] at hs56)
               refine mvI rfl rfl rfl (s_call3 go150 rfl (c150 _ 774 776 _) rfl rfl rfl rfl rfl rfl ?_)
               rintro _ w7 ⟨rfl, kw7⟩
               replace K := K.transN kw7
               refine ⟨_, rfl, ?_⟩
               refine pFB rfl rfl rfl rfl rfl (mvB rfl rfl rfl ?_)
               refine w_split (t := 60) rfl ?_ ?_
               ·intro hs60
                (try simp only [Q1, Q2, Q3, Q4, Q5] at hs60)
                refine st_skip rfl (st_skip rfl (pTB rfl rfl rfl rfl rfl (mvB rfl rfl rfl (st_skip rfl (st_skip rfl (pTB rfl rfl rfl rfl rfl (mvB rfl rfl rfl (st_skip rfl (st_skip rfl ?_)))))))))
                refine pTB rfl rfl rfl rfl rfl (mvB rfl rfl rfl (st_skip rfl (st_skip rfl (pTB rfl rfl rfl rfl rfl (asB rfl rfl rfl (w_nil (then_n (c_T rfl rfl (wp_seq ?_)))))))))
                refine c_reg (asI rfl rfl rfl (asI rfl rfl rfl (w_nil (then_n (wp_ret (inb_r (then_r ?_)))))))
                refine ret2 (t := 2) (u := 3) (v := .int .i64 _) (v' := .int .i64 _) rfl rfl rfl rfl rfl ⟨_, _, rfl, fun hk => ?_, K⟩
                have en : nrm c = c := by unfold nrm; simp [ht5]
                rw [en]; first | (simp [memb, hs60]; done) | (simp [memb, ht60]; done)
               ·intro hs60
                (try simp only [Q1, Q2, Q3, Q4, Q5] at hs60)
                refine mvI rfl rfl rfl (s_call3 go150 rfl (c150 _ 778 780 _) rfl rfl rfl rfl rfl rfl ?_)
                rintro _ w8 ⟨rfl, kw8⟩
                replace K := K.transN kw8
                refine ⟨_, rfl, ?_⟩
                refine pFB rfl rfl rfl rfl rfl (mvB rfl rfl rfl ?_)
                refine w_split (t := 64) rfl ?_ ?_
                ·intro hs64
                 (try simp only [Q1, Q2, Q3, Q4, Q5] at hs64)
                 refine st_skip rfl (st_skip rfl (pTB rfl rfl rfl rfl rfl (mvB rfl rfl rfl (st_skip rfl (st_skip rfl (pTB rfl rfl rfl rfl rfl (mvB rfl rfl rfl (st_skip rfl (st_skip rfl ?_)))))))))
                 refine pTB rfl rfl rfl rfl rfl (asB rfl rfl rfl (w_nil (then_n (c_T rfl rfl (wp_seq (c_reg (asI rfl rfl rfl (asI rfl rfl rfl (w_nil ?_)))))))))
                 refine then_n (wp_ret (inb_r (then_r ?_)))
                 refine ret2 (t := 2) (u := 3) (v := .int .i64 _) (v' := .int .i64 _) rfl rfl rfl rfl rfl ⟨_, _, rfl, fun hk => ?_, K⟩
                 have en : nrm c = c := by unfold nrm; simp [ht5]
                 rw [en]; first | (simp [memb, hs64]; done) | (simp [memb, ht64]; done)
                ·intro hs64
                 (try simp only [Q1, Q2, Q3, Q4, Q5] at hs64)
                 refine mvI rfl rfl rfl (s_eq rfl rfl rfl rfl rfl rfl (pFB rfl rfl rfl rfl rfl (mvB rfl rfl rfl ?_)))
                 refine w_split (t := 68) rfl ?_ ?_
                 ·intro hs68
                  (try simp only [Q1, Q2, Q3, Q4, Q5] at hs68)
                  refine st_skip rfl (st_skip rfl (pTB rfl rfl rfl rfl rfl (mvB rfl rfl rfl (st_skip rfl (st_skip rfl (pTB rfl rfl rfl rfl rfl (asB rfl rfl rfl (w_nil (then_n ?_)))))))))
                  refine c_T rfl rfl (wp_seq (c_reg (asI rfl rfl rfl (asI rfl rfl rfl (w_nil (then_n (wp_ret (inb_r (then_r ?_)))))))))
                  refine ret2 (t := 2) (u := 3) (v := .int .i64 _) (v' := .int .i64 _) rfl rfl rfl rfl rfl ⟨_, _, rfl, fun hk => ?_, K⟩
                  have en : nrm c = c := by unfold nrm; simp [ht5]
                  rw [en]; first | (simp [memb, hs68]; done) | (simp [memb, ht68]; done)
                 ·intro hs68
                  (try simp only [Q1, Q2, Q3, Q4, Q5] at hs68)
                  refine mvI rfl rfl rfl (s_eq rfl rfl rfl rfl rfl rfl (pFB rfl rfl rfl rfl rfl (mvB rfl rfl rfl ?_)))
                  refine w_split (t := 72) rfl ?_ ?_
                  ·intro hs72
                   (try simp only [Q1, Q2, Q3, Q4, Q5] at hs72)
                   refine st_skip rfl (st_skip rfl (pTB rfl rfl rfl rfl rfl (asB rfl rfl rfl (w_nil (then_n (c_T rfl rfl (wp_seq (c_reg (asI rfl rfl rfl ?_)))))))))
                   refine asI rfl rfl rfl (w_nil (then_n (wp_ret (inb_r (then_r ?_)))))
                   refine ret2 (t := 2) (u := 3) (v := .int .i64 _) (v' := .int .i64 _) rfl rfl rfl rfl rfl ⟨_, _, rfl, fun hk => ?_, K⟩
                   have en : nrm c = c := by unfold nrm; simp [ht5]
                   rw [en]; first | (simp [memb, hs72]; done) | (simp [memb, ht72]; done)
                  ·intro hs72
                   (try simp only [Q1, Q2, Q3, Q4, Q5] at hs72)
                   refine mvI rfl rfl rfl (s_eq rfl rfl rfl rfl rfl rfl (pFB rfl rfl rfl rfl rfl (asB rfl rfl rfl (w_nil (then_n ?_)))))
                   refine c_if rfl rfl ?_ ?_
                   ·intro ht53
                    (try simp only [Q1, Q2, Q3, Q4, Q5] at ht53)
                    refine wp_seq (c_reg (asI rfl rfl rfl (asI rfl rfl rfl (w_nil (then_n (wp_ret (inb_r (then_r ?_))))))))
                    refine ret2 (t := 2) (u := 3) (v := .int .i64 _) (v' := .int .i64 _) rfl rfl rfl rfl rfl ⟨_, _, rfl, fun hk => ?_, K⟩
                    have en : nrm c = c := by unfold nrm; simp [ht5]
                    rw [en]; first | (simp [memb, hs53]; done) | (simp [memb, ht53]; done)
                   ·intro ht53
                    (try simp only [Q1, Q2, Q3, Q4, Q5] at ht53)
                    refine wp_seq (c_reg (mvI rfl rfl rfl (s_call3 go150 rfl (c150 _ 913 929 _) rfl rfl rfl rfl rfl rfl ?_)))
                    rintro _ w9 ⟨rfl, kw9⟩
                    replace K := K.transN kw9
                    refine ⟨_, rfl, ?_⟩
                    refine mvB rfl rfl rfl ?_
                    refine w_split (t := 79) rfl ?_ ?_
                    ·intro hs79
                     (try simp only [Q1, Q2, Q3, Q4, Q5] at hs79)
                     refine st_skip rfl (st_skip rfl (pTB rfl rfl rfl rfl rfl (mvB rfl rfl rfl (st_skip rfl (st_skip rfl (pTB rfl rfl rfl rfl rfl (mvB rfl rfl rfl (st_skip rfl (st_skip rfl ?_)))))))))
                     refine pTB rfl rfl rfl rfl rfl (asB rfl rfl rfl (w_nil (then_n (c_T rfl rfl (wp_seq (c_reg (asI rfl rfl rfl (asI rfl rfl rfl (w_nil ?_)))))))))
                     refine then_n (wp_ret (inb_r (then_r ?_)))
                     refine ret2 (t := 2) (u := 3) (v := .int .i64 _) (v' := .int .i64 _) rfl rfl rfl rfl rfl ⟨_, _, rfl, fun hk => ?_, K⟩
                     have en : nrm c = c := by unfold nrm; simp [ht5]
                     rw [en]; first | (simp [memb, hs79]; done) | (simp [memb, ht79]; done)
                    ·intro hs79
                     (try simp only [Q1, Q2, Q3, Q4, Q5] at hs79)
                     refine mvI rfl rfl rfl (s_call3 go150 rfl (c150 _ 931 937 _) rfl rfl rfl rfl rfl rfl ?_)
                     rintro _ w10 ⟨rfl, kw10⟩
                     replace K := K.transN kw10
                     refine ⟨_, rfl, ?_⟩
                     refine pFB rfl rfl rfl rfl rfl (mvB rfl rfl rfl ?_)
                     refine w_split (t := 83) rfl ?_ ?_
                     ·intro hs83
                      (try simp only [Q1, Q2, Q3, Q4, Q5] at hs83)
                      refine st_skip rfl (st_skip rfl (pTB rfl rfl rfl rfl rfl (mvB rfl rfl rfl (st_skip rfl (st_skip rfl (pTB rfl rfl rfl rfl rfl (asB rfl rfl rfl (w_nil (then_n ?_)))))))))
                      refine c_T rfl rfl (wp_seq (c_reg (asI rfl rfl rfl (asI rfl rfl rfl (w_nil (then_n (wp_ret (inb_r (then_r ?_)))))))))
                      refine ret2 (t := 2) (u := 3) (v := .int .i64 _) (v' := .int .i64 _) rfl rfl rfl rfl rfl ⟨_, _, rfl, fun hk => ?_, K⟩
                      have en : nrm c = c := by unfold nrm; simp [ht5]
                      rw [en]; first | (simp [memb, hs83]; done) | (simp [memb, ht83]; done)
                     ·intro hs83
                      (try simp only [Q1, Q2, Q3, Q4, Q5] at hs83)
                      refine mvI rfl rfl rfl (s_call3 go150 rfl (c150 _ 945 969 _) rfl rfl rfl rfl rfl rfl ?_)
                      rintro _ w11 ⟨rfl, kw11⟩
                      replace K := K.transN kw11
                      refine ⟨_, rfl, ?_⟩
                      refine pFB rfl rfl rfl rfl rfl (mvB rfl rfl rfl ?_)
                      refine w_split (t := 87) rfl ?_ ?_
                      ·intro hs87
                       (try simp only [Q1, Q2, Q3, Q4, Q5] at hs87)
                       refine st_skip rfl (st_skip rfl (pTB rfl rfl rfl rfl rfl (asB rfl rfl rfl (w_nil (then_n (c_T rfl rfl (wp_seq (c_reg (asI rfl rfl rfl ?_)))))))))
                       refine asI rfl rfl rfl (w_nil (then_n (wp_ret (inb_r (then_r ?_)))))
                       refine ret2 (t := 2) (u := 3) (v := .int .i64 _) (v' := .int .i64 _) rfl rfl rfl rfl rfl ⟨_, _, rfl, fun hk => ?_, K⟩
                       have en : nrm c = c := by unfold nrm; simp [ht5]
                       rw [en]; first | (simp [memb, hs87]; done) | (simp [memb, ht87]; done)
                      ·intro hs87
                       (try simp only [Q1, Q2, Q3, Q4, Q5] at hs87)
                       refine mvI rfl rfl rfl (s_call2 go151 rfl (c151 _ _ lst2 _ (by kernel_rfl)) rfl rfl rfl rfl ?_)
                       rintro _ w12 ⟨rfl, kw12⟩
                       replace K := K.transN kw12
                       refine ⟨_, rfl, ?_⟩
                       refine pFB rfl rfl rfl rfl rfl (asB rfl rfl rfl (w_nil (then_n ?_)))
                       refine c_if rfl rfl ?_ ?_
                       ·intro ht76
                        (try simp only [Q1, Q2, Q3, Q4, Q5] at ht76)
                        refine wp_seq (c_reg (asI rfl rfl rfl (asI rfl rfl rfl (w_nil (then_n (wp_ret (inb_r (then_r ?_))))))))
                        refine ret2 (t := 2) (u := 3) (v := .int .i64 _) (v' := .int .i64 _) rfl rfl rfl rfl rfl ⟨_, _, rfl, fun hk => ?_, K⟩
                        have en : nrm c = c := by unfold nrm; simp [ht5]
                        rw [en]; first | (simp [memb, hs76]; done) | (simp [memb, ht76]; done)
                       ·intro ht76
                        (try simp only [Q1, Q2, Q3, Q4, Q5] at ht76)
                        refine wp_seq (c_reg (mvI rfl rfl rfl (s_call3 go150 rfl (c150 _ 1040 1103 _) rfl rfl rfl rfl rfl rfl ?_)))
                        rintro _ w13 ⟨rfl, kw13⟩
                        replace K := K.transN kw13
                        refine ⟨_, rfl, ?_⟩
                        refine mvB rfl rfl rfl ?_
                        refine w_split (t := 94) rfl ?_ ?_
                        ·intro hs94
                         (try simp only [Q1, Q2, Q3, Q4, Q5] at hs94)
                         refine st_skip rfl (st_skip rfl (pTB rfl rfl rfl rfl rfl (asB rfl rfl rfl (w_nil (then_n (c_T rfl rfl (wp_seq (c_reg (asI rfl rfl rfl ?_)))))))))
                         refine asI rfl rfl rfl (w_nil (then_n (wp_ret (inb_r (then_r ?_)))))
                         refine ret2 (t := 2) (u := 3) (v := .int .i64 _) (v' := .int .i64 _) rfl rfl rfl rfl rfl ⟨_, _, rfl, fun hk => ?_, K⟩
                         have en : nrm c = c := by unfold nrm; simp [ht5]
                         rw [en]; first | (simp [memb, hs94]; done) | (simp [memb, ht94]; done)
                        ·intro hs94
                         (try simp only [Q1, Q2, Q3, Q4, Q5] at hs94)
                         refine mvI rfl rfl rfl (s_call2 go151 rfl (c151 _ _ lst3 _ (by kernel_rfl)) rfl rfl rfl rfl ?_)
                         rintro _ w14 ⟨rfl, kw14⟩
                         replace K := K.transN kw14
                         refine ⟨_, rfl, ?_⟩
                         refine pFB rfl rfl rfl rfl rfl (asB rfl rfl rfl (w_nil (then_n ?_)))
                         refine c_if rfl rfl ?_ ?_
                         ·intro ht91
                          (try simp only [Q1, Q2, Q3, Q4, Q5] at ht91)
                          refine wp_seq (c_reg (asI rfl rfl rfl (asI rfl rfl rfl (w_nil (then_n (wp_ret (inb_r (then_r ?_))))))))
                          refine ret2 (t := 2) (u := 3) (v := .int .i64 _) (v' := .int .i64 _) rfl rfl rfl rfl rfl ⟨_, _, rfl, fun hk => ?_, K⟩
                          have en : nrm c = c := by unfold nrm; simp [ht5]
                          rw [en]; first | (simp [memb, hs91]; done) | (simp [memb, ht91]; done)
                         ·intro ht91
                          (try simp only [Q1, Q2, Q3, Q4, Q5] at ht91)
                          refine wp_seq (c_reg (mvI rfl rfl rfl (s_call3 go150 rfl (c150 _ 33 126 _) rfl rfl rfl rfl rfl rfl ?_)))
                          rintro _ w15 ⟨rfl, kw15⟩
                          replace K := K.transN kw15
                          refine ⟨_, rfl, ?_⟩
                          refine asB rfl rfl rfl (w_nil (then_n ?_))
                          refine c_if rfl rfl ?_ ?_
                          ·intro ht98
                           (try simp only [Q1, Q2, Q3, Q4, Q5] at ht98)
                           refine wp_seq (c_reg (asI rfl rfl rfl (asI rfl rfl rfl (w_nil (then_n (wp_ret (inb_r (then_r ?_))))))))
                           refine ret2 (t := 2) (u := 3) (v := .int .i64 _) (v' := .int .i64 _) rfl rfl rfl rfl rfl ⟨_, _, rfl, fun hk => ?_, K⟩
                           have en : nrm c = c := by unfold nrm; simp [ht5]
                           rw [en]; first | (simp [memb, hs98]; done) | (simp [memb, ht98]; done)
                          ·intro ht98
                           (try simp only [Q1, Q2, Q3, Q4, Q5] at ht98)
                           refine wp_skip (inb_n (then_n (wp_seq (c_reg (asI rfl rfl rfl (asI rfl rfl rfl (w_nil (then_n (wp_ret ?_)))))))))
                           refine ret2 (t := 2) (u := 3) (v := .int .i64 _) (v' := .int .i64 _) rfl rfl rfl rfl rfl ⟨_, _, rfl, fun hk => ?_, K⟩
                           exact absurd rfl hk
theorem at_ok {s : ByteArray} {i : Nat} {c n : Int} (hi : i < s.size) (h : atF s i = (c, n)) (hn : ¬ n = 0) : 1 ≤ n ∧ n ≤ 3 ∧ (i : Int) + n ≤ s.size ∧ 0 ≤ c ∧ c ≤ 65535 := by
 obtain ⟨u, _, e0, g0, l0⟩ := bt_get hi
 unfold atF at h
 split at h
 ·simp only [Prod.mk.injEq] at h; omega
 ·split at h
  ·rename_i h1
   obtain ⟨_, _, e1, g1, l1⟩ := bt_get (s := s) (i := i + 1) (by omega)
   simp only [Prod.mk.injEq] at h; omega
  ·split at h
   ·rename_i h1
    obtain ⟨_, _, e1, g1, l1⟩ := bt_get (s := s) (i := i + 1) (by omega)
    obtain ⟨_, _, e2, g2, l2⟩ := bt_get (s := s) (i := i + 2) (by omega)
    simp only [Prod.mk.injEq] at h; omega
   ·simp only [Prod.mk.injEq] at h; omega
inductive RT (s : ByteArray) : Nat → Prop
 | nil : RT s s.size
 | cons (i n : Nat) (c : Int) : i < s.size → atF s i = (c, (n : Int)) → 1 ≤ n → memb (nrm c) = true → RT s (i + n) → RT s i
def VText (s : ByteArray) : Prop := 1 ≤ s.size ∧ s.size ≤ 400 ∧ bt s 0 ≠ 32 ∧ bt s (s.size - 1) ≠ 32 ∧ RT s 0
theorem c104 (c : Int) (w : World) (h0 : 0 ≤ c) (h1 : c ≤ 1114111) : Calls Tryz.prog 104 #[.int .i64 c] w fun e w' => ∃ b, e = .returned (.bool b) ∧ (b = true → memb (nrm c) = true) ∧ New w w' := by
 obtain ⟨W, hW⟩ : ∃ W, W = w := ⟨_, rfl⟩
 subst hW
 have K : New W W := Kp.refl _ _
 refine enter (n := 12) Tryz.func104 rfl rfl (by simp) ?_
 refine wp_seq (c_reg (asB rfl rfl rfl (w_nil (then_n (wp_seq (c_reg (mvI rfl rfl rfl (s_call1 go130 rfl (c130 c _ h0 h1) rfl rfl ?_))))))))
 rintro _ w1 ⟨x, k, rfl, hk, kw1⟩
 replace K := K.transN kw1
 refine ⟨_, rfl, ?_⟩
 refine s_mv (v := .tuple _) rfl rfl rfl (s_ext (v := .int .i64 _) rfl rfl rfl rfl (s_ext (v := .int .i64 _) rfl rfl rfl rfl (asI rfl rfl rfl (asI rfl rfl rfl (w_nil (then_n (wp_seq (c_reg (mvI rfl rfl rfl ?_)))))))))
 refine s_ne rfl rfl rfl rfl rfl rfl (asB rfl rfl rfl (w_nil (then_n (wp_ret ?_))))
 refine ret1 (t := 2) (v := .bool _) rfl rfl rfl ⟨_, rfl, fun h => hk (by simpa using h), K⟩
theorem c84 (s : ByteArray) (w : World) (hs : s.size ≤ 400) : Calls Tryz.prog 84 #[.string s] w fun e w' => ∃ v b, e = .returned (.tuple #[v, .bool b]) ∧ (b = true → RT s 0) ∧ New w w' := by
 obtain ⟨W, hW⟩ : ∃ W, W = w := ⟨_, rfl⟩
 subst hW
 have K : New W W := Kp.refl _ _
 refine enter (n := 33) Tryz.func84 rfl rfl (by simp) ?_
 refine wp_seq (c_reg (s_as (v := .slice _ _ _) rfl rfl rfl (asB rfl rfl rfl (w_nil (then_n (wp_seq (c_reg (s_as (v := .slice _ _ _) rfl rfl rfl (w_nil ?_)))))))))
 refine then_n (wp_seq (wp_seq (c_reg (asI rfl rfl rfl (w_nil (then_n (wp_block ?_)))))))
 refine c_loop (fun m f w => ∃ g i k vo xs r, m = s.size - i ∧ i ≤ s.size ∧ f = (upd (upd (upd g 0 (.string s)) 4 (vo)) 5 (.int .i64 (i : Nat))) ∧ k ≤ i ∧ Row w vo 3 1 k xs r ∧ (∀ b, r = some b → W.heap.size ≤ b) ∧ (RT s i → RT s 0) ∧ New W w) (s.size) ⟨_, 0, 0, _, [], none, by omega, by omega, (upd_keep' (upd_keep' (upd_keep' rfl rfl) rfl) rfl), by omega, Row.nil _ 3 1, (fun b h => by cases h), id, K⟩ ?_
 clear K
 rintro m _ w0 ⟨g, i, k, vo, xs, r, rfl, hi, rfl, hki, hrow, hge, hrt, K⟩
 have K0 : New w0 w0 := Kp.refl _ _
 refine wp_seq (wp_seq (c_reg (mvI rfl rfl rfl (s_mv (v := .string _) rfl rfl rfl (s_lenS Tryz.underlying9 rfl rfl rfl (s_lss rfl rfl rfl rfl rfl rfl (w_nil (then_n ?_))))))))
 refine c_if rfl rfl ?_ ?_
 ·intro ht11
  (try simp only [Q1, Q2, Q3, Q4, Q5] at ht11)
  have hlt : i < s.size := by omega
  obtain ⟨c, n, hat⟩ : ∃ c n, atF s i = (c, n) := ⟨_, _, rfl⟩
  refine wp_skip (then_n (wp_block (wp_seq (c_reg (s_mv (v := .string _) rfl rfl rfl (mvI rfl rfl rfl (s_call2 go103 rfl (c103t hlt (by omega) hat) rfl rfl rfl rfl ?_)))))))
  rintro _ w1 ⟨rfl, kw1⟩
  replace K := K.transN kw1
  replace K0 := K0.transN kw1
  refine ⟨_, rfl, ?_⟩
  refine s_mv (v := .tuple _) rfl rfl rfl (s_ext (v := .int .i64 _) rfl rfl rfl rfl (s_ext (v := .int .i64 _) rfl rfl rfl rfl (asI rfl rfl rfl (asI rfl rfl rfl (w_nil (then_n (wp_seq (wp_seq (c_reg ?_)))))))))
  refine mvI rfl rfl rfl (s_eq rfl rfl rfl rfl rfl rfl (mvB rfl rfl rfl ?_))
  refine w_split (t := 20) rfl ?_ ?_
  ·intro hs20
   (try simp only [Q1, Q2, Q3, Q4, Q5] at hs20)
   refine st_skip rfl (st_skip rfl (st_skip rfl (pTB rfl rfl rfl rfl rfl (w_nil (then_n (c_T rfl rfl (wp_seq (c_reg (s_as (v := .slice _ _ _) rfl rfl rfl ?_)))))))))
   refine asB rfl rfl rfl (w_nil (then_n (wp_ret (then_r (inb_r (then_r (inb_r (then_r ?_))))))))
   refine ret2 (t := 2) (u := 3) (v := .slice none 0 0) (v' := .bool false) rfl rfl rfl rfl rfl ⟨_, _, rfl, fun h => by simp at h, K⟩
  ·intro hs20
   (try simp only [Q1, Q2, Q3, Q4, Q5] at hs20)
   obtain ⟨n1, n2, n3, n4, n5⟩ := at_ok hlt hat hs20
   refine mvI rfl rfl rfl (s_call1 go104 rfl (c104 c _ n4 (by omega)) rfl rfl ?_)
   rintro _ w2 ⟨b22, rfl, h22, kw2⟩
   replace K := K.transN kw2
   replace K0 := K0.transN kw2
   refine ⟨_, rfl, ?_⟩
   refine s_not rfl rfl rfl (pFB rfl rfl rfl rfl rfl (w_nil (then_n ?_)))
   refine c_if rfl rfl ?_ ?_
   ·intro ht24
    (try simp only [Q1, Q2, Q3, Q4, Q5] at ht24)
    refine wp_seq (c_reg (s_as (v := .slice _ _ _) rfl rfl rfl (asB rfl rfl rfl (w_nil (then_n (wp_ret (then_r (inb_r (then_r ?_)))))))))
    refine inb_r (then_r ?_)
    refine ret2 (t := 2) (u := 3) (v := .slice none 0 0) (v' := .bool false) rfl rfl rfl rfl rfl ⟨_, _, rfl, fun h => by simp at h, K⟩
   ·intro ht24
    (try simp only [Q1, Q2, Q3, Q4, Q5] at ht24)
    refine wp_skip (then_n (wp_seq (c_reg (s_mv (v := vo) rfl rfl rfl (mvI rfl rfl rfl (s_bs1E el94 rfl (by decide) rfl rfl rfl rfl ?_))))))
    intro b27 w3 eb27 o27 kb27 zb27
    have gb27_K : W.heap.size ≤ b27 := by have := K.size; omega
    have gb27_K0 : w0.heap.size ≤ b27 := by have := K0.size; omega
    replace K := K.transN kb27
    replace K0 := K0.transN kb27
    refine s_appR (news := [.int .i64 c]) el94 rfl rfl rfl rfl rfl rfl (hrow.kp K0 (fun _ _ e => e)) o27.cells rfl rfl (by omega) ?_
    intro vz wA rz rowz kA hrz
    have hK9 := K.size
    replace K := K.trans' kA (fun j hj e => by have := hge j e.symm; omega)
    refine s_as (v := vz) rfl rfl rfl (w_nil (then_n (c_reg (mvI rfl rfl rfl (mvI rfl rfl rfl (s_add rfl rfl rfl rfl rfl (w64 (by omega)) (asI rfl rfl rfl (w_nil (inb_n ?_)))))))))
    refine then_n ?_
    exact ⟨s.size - (i + n.toNat), _, by omega, rfl, _, i + n.toNat, k + 1, vz, _, rz, rfl, by omega, (upd_keep' (upd_keep' (upd_keep' rfl rfl) rfl) (iv (by omega))), by omega, rowz, (fun b hb => by rcases hrz with h | h; exact hge b (h ▸ hb); have := Option.some.inj (h.symm.trans hb); omega), (fun h => hrt (RT.cons i n.toNat c hlt (by rw [hat]; congr 1; omega) (by omega) (by simp_all) h)), K⟩
 ·intro ht11
  (try simp only [Q1, Q2, Q3, Q4, Q5] at ht11)
  refine wp_exit (then_x (then_x (inb_x (then_n (wp_seq (c_reg (s_mv (v := vo) rfl rfl rfl (s_as (v := vo) rfl rfl rfl (asB rfl rfl rfl ?_)))))))))
  refine w_nil (then_n (wp_ret ?_))
  have hie : i = s.size := by omega
  refine ret2 (t := 2) (u := 3) (v := vo) (v' := .bool true) rfl rfl rfl rfl rfl ⟨_, _, rfl, fun _ => hrt (hie ▸ RT.nil), K⟩
theorem c49 (s : ByteArray) (w : World) : Calls Tryz.prog 49 #[.string s] w fun e w' => ∃ b, e = .returned (.bool b) ∧ (b = true → VText s) ∧ New w w' := by
 obtain ⟨W, hW⟩ : ∃ W, W = w := ⟨_, rfl⟩
 subst hW
 have K : New W W := Kp.refl _ _
 refine enter (n := 32) Tryz.func49 rfl rfl (by simp) ?_
 refine wp_seq (c_reg (asB rfl rfl rfl (w_nil (then_n (wp_seq (wp_seq (c_reg (s_mv (v := .string _) rfl rfl rfl (s_lenS Tryz.underlying9 rfl rfl rfl ?_)))))))))
 refine s_lss rfl rfl rfl rfl rfl rfl (mvB rfl rfl rfl ?_)
 refine w_split (t := 8) rfl ?_ ?_
 ·intro hs8
  (try simp only [Q1, Q2, Q3, Q4, Q5] at hs8)
  refine st_skip rfl (st_skip rfl (st_skip rfl (pTB rfl rfl rfl rfl rfl (mvB rfl rfl rfl (st_skip rfl (st_skip rfl (st_skip rfl (pTB rfl rfl rfl rfl rfl (mvB rfl rfl rfl ?_)))))))))
  refine st_skip rfl (st_skip rfl (st_skip rfl (st_skip rfl (st_skip rfl (st_skip rfl (pTB rfl rfl rfl rfl rfl (w_nil (then_n (c_T rfl rfl ?_)))))))))
  refine wp_seq (c_reg (asB rfl rfl rfl (w_nil (then_n (wp_ret (then_r ?_))))))
  refine ret1 (t := 2) (v := .bool false) rfl rfl rfl ⟨_, rfl, fun h => by simp at h, K⟩
 ·intro hs8
  (try simp only [Q1, Q2, Q3, Q4, Q5] at hs8)
  refine s_mv (v := .string _) rfl rfl rfl (s_lenS Tryz.underlying9 rfl rfl rfl (s_gtr rfl rfl rfl rfl rfl rfl (pFB rfl rfl rfl rfl rfl (mvB rfl rfl rfl ?_))))
  refine w_split (t := 13) rfl ?_ ?_
  ·intro hs13
   (try simp only [Q1, Q2, Q3, Q4, Q5] at hs13)
   refine st_skip rfl (st_skip rfl (st_skip rfl (pTB rfl rfl rfl rfl rfl (mvB rfl rfl rfl (st_skip rfl (st_skip rfl (st_skip rfl (st_skip rfl (st_skip rfl ?_)))))))))
   refine st_skip rfl (pTB rfl rfl rfl rfl rfl (w_nil (then_n (c_T rfl rfl (wp_seq (c_reg (asB rfl rfl rfl (w_nil (then_n ?_)))))))))
   refine wp_ret (then_r ?_)
   refine ret1 (t := 2) (v := .bool false) rfl rfl rfl ⟨_, rfl, fun h => by simp at h, K⟩
  ·intro hs13
   (try simp only [Q1, Q2, Q3, Q4, Q5] at hs13)
   obtain ⟨ua, q2, q3, q4, q5⟩ := bt_get (s := s) (i := 0) (by omega)
   refine s_mv (v := .string _) rfl rfl rfl (s_ixS Tryz.underlying9 rfl rfl rfl rfl rfl (by omega) q2 (s_eq rfl rfl rfl rfl rfl rfl (pFB rfl rfl rfl rfl rfl (mvB rfl rfl rfl ?_))))
   refine w_split (t := 18) rfl ?_ ?_
   ·intro hs18
    (try simp only [Q1, Q2, Q3, Q4, Q5] at hs18)
    refine st_skip rfl (st_skip rfl (st_skip rfl (st_skip rfl (st_skip rfl (st_skip rfl (pTB rfl rfl rfl rfl rfl (w_nil (then_n (c_T rfl rfl ?_)))))))))
    refine wp_seq (c_reg (asB rfl rfl rfl (w_nil (then_n (wp_ret (then_r ?_))))))
    refine ret1 (t := 2) (v := .bool false) rfl rfl rfl ⟨_, rfl, fun h => by simp at h, K⟩
   ·intro hs18
    (try simp only [Q1, Q2, Q3, Q4, Q5] at hs18)
    obtain ⟨ub, p2, p3, p4, p5⟩ := bt_get (s := s) (i := s.size - 1) (by omega)
    refine s_mv (v := .string _) rfl rfl rfl (s_mv (v := .string _) rfl rfl rfl (s_lenS Tryz.underlying9 rfl rfl rfl (s_sub rfl rfl rfl rfl rfl (w64 (by omega)) (s_ixS Tryz.underlying9 rfl rfl rfl rfl rfl (by omega) (by rw [show ((s.size : Nat) - 1 : Int).toNat = s.size - 1 by omega]; exact p2) (s_eq rfl rfl rfl rfl rfl rfl (pFB rfl rfl rfl rfl rfl (w_nil (then_n ?_))))))))
    refine c_if rfl rfl ?_ ?_
    ·intro ht25
     (try simp only [Q1, Q2, Q3, Q4, Q5] at ht25)
     refine wp_seq (c_reg (asB rfl rfl rfl (w_nil (then_n (wp_ret (then_r ?_))))))
     refine ret1 (t := 2) (v := .bool false) rfl rfl rfl ⟨_, rfl, fun h => by simp at h, K⟩
    ·intro ht25
     (try simp only [Q1, Q2, Q3, Q4, Q5] at ht25)
     refine wp_skip (then_n (wp_seq (c_reg (s_mv (v := .string _) rfl rfl rfl (s_call1 go84 rfl (c84 s _ (by omega)) rfl rfl ?_)))))
     rintro _ w1 ⟨v84, b84, rfl, h84, kw1⟩
     replace K := K.transN kw1
     refine ⟨_, rfl, ?_⟩
     refine s_mv (v := .tuple _) rfl rfl rfl (s_ext (v := v84) rfl rfl rfl rfl (s_ext (v := .bool _) rfl rfl rfl rfl (s_as (v := v84) rfl rfl rfl (asB rfl rfl rfl (w_nil (then_n (wp_seq (c_reg (mvB rfl rfl rfl ?_)))))))))
     refine asB rfl rfl rfl (w_nil (then_n (wp_ret ?_)))
     refine ret1 (t := 2) (v := .bool _) rfl rfl rfl ⟨_, rfl, fun h => ⟨by omega, by omega, by rw [q3]; omega, by rw [p3]; omega, h84 h⟩, K⟩
theorem c49c : C49 VText := fun s w => c49 s w
end
end Go.Proofs.YtkabfelhicohnaaGreatDoor.V
