/- The walks of: rall_con, begin_con, gPair_con, rPair_con, gSilent_con, rSilent_con, gJudge_con, rJudge_con, gAll_con, rAll_con, verdicts_con, rleast_con, gLeast_con, rLeast_con, gProves_con, rProves_con, values0_con, nom0_con, same24_con, letter29_con, letter31_con, Equal_con, steps_con, lie_con, rlie_con, prefer_con. Each says what one function of the program answers, for the arguments that its statement names. No condition beyond what each theorem says. -/
import Derived.Test.YtgmpjpaekpefdaaGreatAnalyserExactW3
import Derived.Test.YtgmpjpaekpefdaaGreatProg
import Derived.KernelRfl
import Derived.Tactics
import Derived.Tactics2
import Derived.StillTactics
set_option linter.unusedVariables false
set_option linter.unusedSimpArgs false
set_option linter.unnecessarySimpa false
set_option maxRecDepth 4000
namespace Go.Proofs.YtgmpjpaekpefdaaGreat
open Go Go.Av Go.Tq
theorem rall_con (c : List Mem) (hc : c.length ≤ 4) : Con none Tryz.prog 79 [cv c] [] (Is (.i ((2 ^ c.length - 1 : Nat) : Int)) []) := by
  have hcap : capB = 140737488355328 := rfl
  have hml : (c.map mv).length = c.length := by simp
  have hpos : 0 < 2 ^ c.length := Nat.pow_pos (by omega)
  have hle := Nat.pow_le_pow_right (show 0 < 2 by omega) hc
  refine con_intro Tryz.func79 rfl Tryz.call79 rfl ?_
  refine zS ?_
  refine aops_box rfl zFlat rfl rfl (fun b1 => ?_)
  refine zAs ?_; refine zN (zS ?_); refine zF 0 1 false ?_; refine zL1 ?_
  first | refine aops_len rfl rfl rfl rfl (fun _ => ?_) | refine zP (ap_len_arr rfl zUpd rfl) ?_ | refine zP (ap_len_nil rfl rfl) ?_
  (rw [hml]; refine zP (ap_convu rfl rfl rfl (by omega)) ?_)
  refine zP (ap_shl (p := 1) rfl rfl rfl (by omega) (by omega)) ?_
  refine zP (ap_arith (m := ((2 ^ c.length - 1 : Nat) : Int)) rfl rfl (by show some _ = _; simp only [Option.some.injEq]; omega) (by omega)) ?_
  refine zAs ?_; refine zN ?_; refine awp_ret ?_
  refine post_is (.tmp rfl .nil) zKeep rfl
theorem begin_con (c : List Mem) (hL : Lt c) (s : Int) : Con none Tryz.prog 77 [cv c, .i s] [] (Is (.i (checkE c s)) []) := by
  have hcap : capB = 140737488355328 := rfl
  have hp := pow4 hL.len
  have hlen := hL.len
  have hml : (c.map mv).length = c.length := by simp
  refine con_intro Tryz.func77 rfl Tryz.call77 rfl ?_
  refine zS ?_
  refine aops_box rfl zFlat rfl rfl (fun b2 => ?_)
  refine zAs ?_; refine zN ?_; refine awp_seq ?_; refine zS ?_; refine zLd ?_
  refine aops_call_v zRc (r6valid_con c hL.s9) rfl rfl ?_
  refine zAs ?_; refine zN (zS ?_); refine zMv ?_; refine zCm ?_; refine zN ?_
  refine zC (fun hc => ?_) fun hc => ?_
  · have hv := of_neq_true hc
    refine zS ?_; refine zMv ?_; refine zAs ?_; refine zN ?_; refine awp_ret ?_; refine seqQ_r ?_
    refine post_is (.tmp rfl .nil) zKeep ?_
    rw [checkE_1 hv]; rfl
  · have hv : validC c = 0 := of_neq_false hc
    refine awp_skip ?_; refine seqQ_n ?_; refine awp_seq ?_; refine zS ?_; refine zF 0 1 false ?_; refine zL1 ?_
    first | refine aops_len rfl rfl rfl rfl (fun _ => ?_) | refine zP (ap_len_arr rfl zUpd rfl) ?_ | refine zP (ap_len_nil rfl rfl) ?_
    refine zMv ?_; refine zN ?_; refine awp_block ?_
    refine awp_loop1 [1, 2, 14, 15] [.box b2 _ _] (fun (k : Nat) r => (16, .i (k : Int)) :: r) (fun (k : Nat) r => r) (fun (k : Nat) => k ≤ c.length ∧ ((c.drop k).any fun m => !m.decl) = (c.any fun m => !m.decl)) (fun (k : Nat) => c.length - k) (0) zRc ⟨by omega, by simp⟩ (wk zSub zKeep) ?_
    intro k ⟨hk, hI⟩
    refine zS ?_; refine zCm ?_; refine zN ?_; refine awp_seq ?_
    refine zC (fun hc => ?_) fun hc => ?_
    · have hlt := of_decide_eq_true hc
      obtain ⟨x, hx, hd⟩ := drop_cons (l := c) (k := k) (by omega)
      have hx' := getMap mv hx
      rw [hd] at hI
      refine awp_skip ?_; refine seqQ_n ?_; refine awp_seq ?_; refine awp_block ?_; refine zS ?_
      first | refine zP (ap_index rfl rfl rfl rfl (by decide) rfl zAss) ?_ | refine zP (ap_index rfl rfl rfl rfl (by decide) (by omega) zAss) ?_ | refine zP (ap_index_own rfl rfl rfl rfl rfl (by first | omega | (simp only [List.length_map, List.length_set, avs_len]; omega))) ?_
      refine zLd ?_
      refine aops_alloc rfl zRc rfl rfl (fun b7 => ?_)
      refine zSt ?_; refine zN (zS ?_); refine zF 0 1 false ?_; refine zL1 ?_; refine zNo ?_; refine zN ?_
      refine zC (fun hc => ?_) fun hc => ?_
      · refine awp_seq ?_
        refine awp_region ?_; refine zAs ?_; refine zN ?_; refine awp_ret ?_; refine blockQ_r ?_; refine seqQ_r ?_; refine seqQ_r ?_; refine blockQ_r ?_; refine seqQ_r ?_
        refine post_is (.tmp rfl .nil) zKeep ?_
        rw [any_cons_tm (by exact hc)] at hI
        rw [checkE_2 hv hI.symm]; rfl
      · refine awp_skip ?_
        refine blockQ_n ?_; refine seqQ_n ?_; refine awp_region ?_; refine zAr ?_; refine zMv ?_; refine zN ?_
        rw [any_cons_fm (by exact hc)] at hI
        refine ⟨k + 1, ⟨by omega, hI⟩, by omega, wk zSub zKeep⟩
    · have hge := of_decide_eq_false hc
      have hd : (c.any fun m => !m.decl) = false := by rw [drop_nil (by omega)] at hI; exact hI.symm
      refine awp_exit ?_; refine seqQ_x ?_; refine seqQ_x ?_; refine blockQ_x rfl ?_; refine seqQ_n ?_; refine awp_seq ?_; refine zS ?_; refine zMv ?_; refine zCm ?_; refine zMv ?_
      all_goals first | (refine zY ?_; refine zMv ?_) | refine zU ?_ | refine zNf ?_ | (refine zGf (fun hg => ?_) fun hg => ?_; case' _ => refine zMv ?_)
      all_goals first | (refine zY ?_; refine zF 0 1 false ?_) | refine zU ?_ | refine zNf ?_ | (refine zGf (fun hg => ?_) fun hg => ?_; case' _ => refine zF 0 1 false ?_)
      all_goals first | (refine zY ?_; refine zL1 ?_) | refine zU ?_ | refine zNf ?_ | (refine zGf (fun hg => ?_) fun hg => ?_; case' _ => refine zL1 ?_)
      all_goals first | (refine zY ?_; (first | refine aops_len rfl rfl rfl rfl (fun _ => ?_) | refine zP (ap_len_arr rfl zUpd rfl) ?_ | refine zP (ap_len_nil rfl rfl) ?_)) | refine zU ?_ | refine zNf ?_ | (refine zGf (fun hg => ?_) fun hg => ?_; case' _ => (first | refine aops_len rfl rfl rfl rfl (fun _ => ?_) | refine zP (ap_len_arr rfl zUpd rfl) ?_ | refine zP (ap_len_nil rfl rfl) ?_))
      all_goals first | (refine zY ?_; (rw [hml]; refine zP (ap_convu rfl rfl rfl (by omega)) ?_)) | refine zU ?_ | refine zNf ?_ | (refine zGf (fun hg => ?_) fun hg => ?_; case' _ => (rw [hml]; refine zP (ap_convu rfl rfl rfl (by omega)) ?_))
      all_goals first | (refine zY ?_; refine zP (ap_shl (p := 1) rfl rfl rfl (by omega) (by omega)) ?_) | refine zU ?_ | refine zNf ?_ | (refine zGf (fun hg => ?_) fun hg => ?_; case' _ => refine zP (ap_shl (p := 1) rfl rfl rfl (by omega) (by omega)) ?_)
      all_goals first | (refine zY ?_; refine zCm ?_) | refine zU ?_ | refine zNf ?_ | (refine zGf (fun hg => ?_) fun hg => ?_; case' _ => refine zCm ?_)
      all_goals refine zPk ?_
      all_goals (
        refine zN ?_
        refine zC (fun hc => ?_) fun hc => ?_
        · first
          | (exact absurd hc (by decide))
          | (refine awp_seq ?_
             refine awp_region ?_; refine zAs ?_; refine zN ?_; refine awp_ret ?_; refine seqQ_r ?_
             refine post_is (.tmp rfl .nil) zKeep ?_
             rw [checkE_3 hv hd (by first | (have h5 := of_decide_eq_true hg; omega) | (have h5 := of_decide_eq_true hc; omega))]; rfl
            )
        · first
          | (exact absurd hc (by decide))
          | (refine awp_skip ?_
             refine seqQ_n ?_; refine zS ?_; refine zAs ?_; refine zN ?_; refine awp_ret ?_
             refine post_is (.tmp rfl .nil) zKeep ?_
             have h4 := of_decide_eq_false hg
             have h5 := of_decide_eq_false hc
             rw [checkE_4 hv hd (by omega)]; rfl
            )
        )
def pairE (c : List Mem) (s : Int) : Nat × Nat × Bool := if checkE c s = 0 then pairC c s.toNat else (0, 0, false)
theorem pairE_no {c : List Mem} {s : Int} (h : ¬ checkE c s = 0) : pairE c s = (0, 0, false) := if_neg h
theorem pairE_ok {c : List Mem} {n : Nat} (h : checkE c n = 0) : pairE c n = pairC c n := by unfold pairE; rw [if_pos h, Int.toNat_natCast]
def silentE (c : List Mem) (s : Int) : Bool := decide (checkE c s = 0) && silentC c s.toNat
theorem silentE_no {c : List Mem} {s : Int} (h : ¬ checkE c s = 0) : silentE c s = false := by unfold silentE; rw [decide_eq_false h, Bool.false_and]
theorem silentE_ok {c : List Mem} {n : Nat} (h : checkE c n = 0) : silentE c n = silentC c n := by unfold silentE; rw [decide_eq_true h, Bool.true_and, Int.toNat_natCast]
def judgeE (c : List Mem) (s : Int) : Vd × Int := if checkE c s = 0 then (judgeC c s.toNat, 0) else (vd0, checkE c s)
theorem judgeE_no {c : List Mem} {s : Int} (h : ¬ checkE c s = 0) : judgeE c s = (vd0, checkE c s) := if_neg h
theorem judgeE_ok {c : List Mem} {n : Nat} (h : checkE c n = 0) : judgeE c n = (judgeC c n, 0) := by unfold judgeE; rw [if_pos h, Int.toNat_natCast]
theorem great_zero (c : List Mem) : great c ((0 : Nat) : Int) = 0 := by
  have g := (great_spec c (show 0 < 1024 by omega)).within
  exact Nat.eq_of_testBit_eq fun i => by
    rw [Nat.zero_testBit]
    cases h : (great c ((0 : Nat) : Int)).testBit i with
    | false => rfl
    | true => have := g i h; rw [Nat.zero_testBit] at this; cases this
theorem pair_from1 {c : List Mem} {s : Nat} (h : 1 ≤ 2 ^ c.length) : pairGo (pairL c s) (pairR c s) (2 ^ c.length - 1) 1 = pairC c s := by
  have h1 := pairGo_step (f := pairL c s) (g := pairR c s) (n := 2 ^ c.length) (k := 0) (by omega) (.inl (great_zero (delC c s)))
  exact h1.symm
theorem gPair_con (c : List Mem) (hL : Lt c) (s : Int) : Con none Tryz.prog 11 [cv c, .i s] [] (Is (.tup [.i ((pairE c s).1 : Nat), .i ((pairE c s).2.1 : Nat), .b (pairE c s).2.2]) []) := by
  have hcap : capB = 140737488355328 := rfl
  refine con_intro Tryz.func11 rfl Tryz.call11 rfl ?_
  refine zS ?_
  refine aops_box rfl zFlat rfl rfl (fun b2 => ?_)
  refine zAs ?_; refine zAs ?_; refine zAs ?_; refine zN ?_; refine awp_seq ?_; refine zS ?_; refine zLd ?_; refine zMv ?_
  refine aops_call_v zRc (gcheck_con c hL s) rfl rfl ?_
  refine zCm ?_; refine zN ?_
  refine zC (fun hc => ?_) fun hc => ?_
  · have h0 := of_neq_true hc
    refine zS ?_; refine zAs ?_; refine zAs ?_; refine zAs ?_; refine zN ?_; refine awp_ret ?_; refine seqQ_r ?_
    rw [pairE_no h0]
    exact post_is (.tmp rfl (.tmp rfl (.tmp rfl .nil))) zKeep rfl
  · have h0 := of_neq_false hc
    obtain ⟨hok, n, rfl, hs⟩ := check_ok hL h0
    have hp := pow4 hL.len
    refine awp_skip ?_; refine seqQ_n ?_; refine zS ?_; refine zLd ?_; refine zMv ?_
    refine aops_call_v zRc (apair_con c hok n hs) rfl rfl ?_
    refine zP (ap_extract rfl rfl) ?_
    refine zP (ap_extract rfl rfl) ?_
    refine zP (ap_extract rfl rfl) ?_
    refine zAs ?_; refine zAs ?_; refine zAs ?_; refine zN ?_; refine awp_ret ?_
    rw [pairE_ok h0]
    exact post_is (.tmp rfl (.tmp rfl (.tmp rfl .nil))) zKeep rfl
theorem rPair_con (c : List Mem) (hL : Lt c) (s : Int) : Con none Tryz.prog 25 [cv c, .i s] [] (Is (.tup [.i ((pairE c s).1 : Nat), .i ((pairE c s).2.1 : Nat), .b (pairE c s).2.2]) []) := by
  have hcap : capB = 140737488355328 := rfl
  refine con_intro Tryz.func25 rfl Tryz.call25 rfl ?_
  refine zS ?_
  refine aops_box rfl zFlat rfl rfl (fun b2 => ?_)
  refine zAs ?_; refine zAs ?_; refine zAs ?_; refine zN ?_; refine awp_seq ?_; refine zS ?_; refine zLd ?_; refine zMv ?_
  refine aops_call_v zRc (begin_con c hL s) rfl rfl ?_
  refine zCm ?_; refine zN ?_
  refine zC (fun hc => ?_) fun hc => ?_
  · have h0 := of_neq_true hc
    refine zS ?_; refine zAs ?_; refine zAs ?_; refine zAs ?_; refine zN ?_; refine awp_ret ?_; refine seqQ_r ?_
    rw [pairE_no h0]
    exact post_is (.tmp rfl (.tmp rfl (.tmp rfl .nil))) zKeep rfl
  · have h0 := of_neq_false hc
    obtain ⟨hok, n, rfl, hs⟩ := check_ok hL h0
    have hp := pow4 hL.len
    refine awp_skip ?_; refine seqQ_n ?_; refine zS ?_; refine zLd ?_; refine zMv ?_
    refine aops_call_v zRc (del_con c hok.l10 n (by omega) hok.s2) rfl rfl ?_
    refine aops_alloc rfl zRc rfl rfl (fun b7 => ?_)
    refine zSt ?_; refine zN ?_; refine awp_seq ?_; refine zS ?_; refine zAs ?_; refine zN ?_; refine awp_block ?_
    refine awp_loop1 [2, 7] [.box b7 _ _, .box b2 _ _] (fun (k : Nat) r => (8, .i (k : Int)) :: r) (fun (k : Nat) r => r) (fun (k : Nat) => (1 ≤ k ∧ k ≤ 2 ^ c.length) ∧ pairGo (pairL c n) (pairR c n) (2 ^ c.length - k) k = pairC c n) (fun (k : Nat) => 2 ^ c.length - k) (1) zRc ⟨by omega, pair_from1 hp.1⟩ (wk zSub zKeep) ?_
    intro k ⟨hk, hI⟩
    refine awp_seq ?_; refine zS ?_; refine zMv ?_; refine zLd ?_
    refine aops_call_v zRc (rall_con c hL.len) rfl rfl ?_
    refine zCm ?_; refine zN ?_
    refine zC (fun hc => ?_) fun hc => ?_
    · have hlt := of_decide_eq_true hc
      refine awp_skip ?_; refine seqQ_n ?_; refine awp_seq ?_; refine awp_block ?_; refine zS ?_; refine zLd ?_; refine zMv ?_
      refine aops_call_v zRc (rgreat_con (delC c n) k) rfl rfl ?_
      refine zAs ?_; refine zN ?_; refine awp_seq ?_
      refine awp_draw (Hm := []) zKr zSplit ?_
      refine zTM 0 ?_; refine zTM 1 ?_
      refine zT 3 rfl (AP.ar (ap_move rfl)) ?_
      refine aany_one 2 zKr rfl (.none rfl) ?_
      refine aops_call_v zRc (rall_con c hL.len) rfl rfl ?_
      refine aops_nil ?_
      refine zT 4 rfl (AP.ar (ap_bits rfl rfl rfl (by omega) (by omega))) ?_
      refine aany_one 5 zKr rfl (.none rfl) ?_
      refine aops_call_v zRc (rgreat_con (delC c n) (co c k : Nat)) rfl rfl ?_
      refine aops_nil ?_
      refine zT 6 rfl (AP.ar (ap_assign rfl)) ?_
      refine aany_nil zKr ?_
      all_goals (
        refine seqQ_n ?_; refine zS ?_; refine zMv ?_; refine zCm ?_; refine zMv ?_
        all_goals first | (refine zY ?_; refine zMv ?_) | refine zU ?_ | refine zNt ?_ | (refine zGt (fun hg => ?_) fun hg => ?_; case' _ => refine zMv ?_)
        all_goals first | (refine zY ?_; refine zCm ?_) | refine zU ?_ | refine zNt ?_ | (refine zGt (fun hg => ?_) fun hg => ?_; case' _ => refine zCm ?_)
        all_goals refine zPk ?_
        all_goals (
          refine zN ?_
          refine zC (fun hc => ?_) fun hc => ?_
          · first
            | (exact absurd hc (by decide))
            | (refine awp_seq ?_
               refine awp_region ?_; refine zMv ?_; refine zMv ?_; refine zAs ?_; refine zAs ?_; refine zAs ?_; refine zN ?_; refine awp_ret ?_; refine blockQ_r ?_; refine seqQ_r ?_; refine seqQ_r ?_; refine blockQ_r ?_; refine seqQ_r ?_
               rw [pairGo_hit (by omega) (nez_t (by unfold pairL; with_reducible assumption)) (nez_t (by unfold pairR; with_reducible assumption))] at hI
               rw [pairE_ok h0, ← hI]
               exact post_is (.tmp rfl (.tmp rfl (.tmp rfl .nil))) zKeep rfl
              )
          · first
            | (exact absurd hc (by decide))
            | (refine awp_skip ?_
               refine blockQ_n ?_; refine seqQ_n ?_; refine awp_region ?_; refine zMv ?_; refine zAr ?_; refine zAs ?_; refine zN ?_
               have hz : pairL c n k = 0 ∨ pairR c n k = 0 := by
                 first
                 | (refine .inl (nez_f ?_); unfold pairL; with_reducible assumption)
                 | (refine .inr (nez_f ?_); unfold pairR; with_reducible assumption)
               rw [pairGo_step (by omega) hz] at hI
               refine ⟨k + 1, ⟨by omega, hI⟩, by omega, wk zSub zKeep⟩
              )
          )
        )
    · have hge := of_decide_eq_false hc
      rw [pairGo_nil (by omega)] at hI
      refine awp_exit ?_; refine seqQ_x ?_; refine seqQ_x ?_; refine blockQ_x rfl ?_; refine seqQ_n ?_; refine zS ?_; refine zAs ?_; refine zAs ?_; refine zAs ?_; refine zN ?_; refine awp_ret ?_
      rw [pairE_ok h0, ← hI]
      exact post_is (.tmp rfl (.tmp rfl (.tmp rfl .nil))) zKeep rfl
theorem silent_any (c : List Mem) (hL : Lt c) (s : Int) (h0 : checkE c s = 0) : Con none Tryz.prog 65 [cv c, .i s] [] (Is (.b (silentC c s.toNat)) []) := by
  obtain ⟨hok, n, rfl, hs⟩ := check_ok hL h0
  rw [Int.toNat_natCast]; exact silent_con c hok n hs
theorem gSilent_con (c : List Mem) (hL : Lt c) (s : Int) : Con none Tryz.prog 17 [cv c, .i s] [] (Is (.b (silentE c s)) []) := by
  have hcap : capB = 140737488355328 := rfl
  refine con_intro Tryz.func17 rfl Tryz.call17 rfl ?_
  refine zS ?_
  refine aops_box rfl zFlat rfl rfl (fun b2 => ?_)
  refine zAs ?_; refine zN (zS ?_); refine zLd ?_; refine zMv ?_
  refine aops_call_v zRc (gcheck_con c hL s) rfl rfl ?_
  refine zCm ?_; refine zMv ?_
  all_goals first | (refine zY ?_; refine zLd ?_) | refine zU ?_ | refine zNt ?_ | (refine zGt (fun hg => ?_) fun hg => ?_; case' _ => refine zLd ?_)
  all_goals first | (refine zY ?_; refine zMv ?_) | refine zU ?_ | refine zNt ?_ | (refine zGt (fun hg => ?_) fun hg => ?_; case' _ => refine zMv ?_)
  all_goals first | (refine zY ?_; refine aops_call_v zRc (silent_any c hL s (of_decide_eq_true hg)) rfl rfl ?_) | refine zU ?_ | refine zNt ?_ | (refine zGt (fun hg => ?_) fun hg => ?_; case' _ => refine aops_call_v zRc (silent_any c hL s (of_decide_eq_true hg)) rfl rfl ?_)
  all_goals refine zPk ?_
  all_goals refine zAs ?_
  all_goals (
    refine zN ?_; refine awp_ret ?_
    refine post_is (.tmp rfl .nil) zKeep ?_
    first
    | (have h0 : checkE c s = 0 := of_decide_eq_true hg; unfold silentE; rw [decide_eq_true h0, Bool.true_and]; rfl)
    | (have h0 : ¬ checkE c s = 0 := of_decide_eq_false hg; rw [silentE_no h0]; rfl)
    )
theorem rSilent_ok (c : List Mem) (hL : Lt c) (n : Nat) (hs : n < 2 ^ c.length) (h0 : checkE c n = 0) : Con none Tryz.prog 39 [cv c, .i n] [] (Is (.b (silentC c n)) []) := by
  have hcap : capB = 140737488355328 := rfl
  have hp := pow4 hL.len
  have hb := begin_con c hL n
  rw [h0] at hb
  refine con_intro Tryz.func39 rfl Tryz.call39 rfl ?_
  refine zS ?_
  refine aops_box rfl zFlat rfl rfl (fun b2 => ?_)
  refine zAs ?_; refine zN ?_; refine awp_seq ?_
  refine awp_draw (Hm := []) zKr zSplit ?_
  refine zTM 0 ?_
  refine zT 1 rfl (AP.ar (ap_move rfl)) ?_
  refine aany_one 2 zKr rfl (.none rfl) ?_
  refine aops_call_v zRc (hb) rfl rfl ?_
  refine aops_nil ?_
  refine zT 3 rfl (AP.ar (ap_cmp rfl rfl rfl)) ?_
  refine zT 4 rfl (AP.ar (ap_move rfl)) ?_
  refine aany_guard 4 rfl (fun hg => ?_) (fun hg => ?_)
  rotate_left
  case' _ =>
    first
    | (exact absurd hg (by decide))
    | (exfalso; simp at hg; done)
    | (refine zK 5 ?_
       refine zK 6 ?_; refine zK 7 ?_; refine zK 8 ?_; refine zK 9 ?_; refine zK 10 ?_; refine zK 11 ?_; refine zTp 12 ?_
       refine zT 13 rfl (AP.ar (ap_assign rfl)) ?_
       refine aany_nil zKr ?_
      )
  rotate_right
  case' _ =>
    first
    | (exact absurd hg (by decide))
    | (exfalso; simp at hg; done)
    | (refine zTM 5 ?_
       refine zTM 6 ?_
       refine zT 8 rfl (AP.ar (ap_move rfl)) ?_
       refine aany_one 7 zKr rfl (.yes rfl rfl zDec) ?_
       refine aops_call_v zRc (rall_con c hL.len) rfl rfl ?_
       refine aops_nil ?_
       refine zT 9 rfl (AP.ar (ap_bits rfl rfl rfl (by omega) (by omega))) ?_
       refine aany_one 10 zKr rfl (.yes rfl rfl zDec) ?_
       refine aops_call_v zRc (rgreat_con c (co c n : Nat)) rfl rfl ?_
       refine aops_nil ?_
       refine zT 11 rfl (AP.ar (ap_cmp rfl rfl rfl)) ?_
       refine zTp 12 ?_
       refine zT 13 rfl (AP.ar (ap_assign rfl)) ?_
       refine aany_nil zKr ?_
      )
  all_goals (
    refine seqQ_n ?_; refine awp_ret ?_
    refine post_is (.tmp rfl .nil) zKeep ?_
    first
    | rfl
    | (exfalso; simp_all; done)
    )
theorem rSilent_no (c : List Mem) (hL : Lt c) (s : Int) (h0 : ¬ checkE c s = 0) : Con none Tryz.prog 39 [cv c, .i s] [] (Is (.b false) []) := by
  have hcap : capB = 140737488355328 := rfl
  refine con_intro Tryz.func39 rfl Tryz.call39 rfl ?_
  refine zS ?_
  refine aops_box rfl zFlat rfl rfl (fun b2 => ?_)
  refine zAs ?_; refine zN ?_; refine awp_seq ?_
  refine awp_draw (Hm := []) zKr zSplit ?_
  refine zTM 0 ?_
  refine zT 1 rfl (AP.ar (ap_move rfl)) ?_
  refine aany_one 2 zKr rfl (.none rfl) ?_
  refine aops_call_v zRc (begin_con c hL s) rfl rfl ?_
  refine aops_nil ?_
  refine zT 3 rfl (AP.ar (ap_cmp rfl rfl rfl)) ?_
  refine zT 4 rfl (AP.ar (ap_move rfl)) ?_
  refine aany_guard 4 rfl (fun hg => ?_) (fun hg => ?_)
  rotate_left
  case' _ =>
    first
    | (exact absurd hg (by decide))
    | (exact absurd (of_decide_eq_true hg) h0)
    | (exfalso; simp at hg; done)
    | (refine zK 5 ?_
       refine zK 6 ?_; refine zK 7 ?_; refine zK 8 ?_; refine zK 9 ?_; refine zK 10 ?_; refine zK 11 ?_; refine zTp 12 ?_
       refine zT 13 rfl (AP.ar (ap_assign rfl)) ?_
       refine aany_nil zKr ?_
      )
  rotate_right
  case' _ =>
    first
    | (exact absurd hg (by decide))
    | (exact absurd (of_decide_eq_true hg) h0)
    | (exfalso; simp at hg; done)
    | (refine zTM 5 ?_
       refine zTM 6 ?_
       refine zT 8 rfl (AP.ar (ap_move rfl)) ?_
       refine aany_one 7 zKr rfl (.yes rfl rfl zDec) ?_
       refine aops_call_v zRc (rall_con c hL.len) rfl rfl ?_
       refine aops_nil ?_
       refine zT 9 rfl (AP.ar (ap_bits rfl rfl rfl (by omega) (by omega))) ?_
       refine aany_one 10 zKr rfl (.yes rfl rfl zDec) ?_
       refine aops_call_v zRc (rgreat_con c _) rfl rfl ?_
       refine aops_nil ?_
       refine zT 11 rfl (AP.ar (ap_cmp rfl rfl rfl)) ?_
       refine zTp 12 ?_
       refine zT 13 rfl (AP.ar (ap_assign rfl)) ?_
       refine aany_nil zKr ?_
      )
  all_goals (
    refine seqQ_n ?_; refine awp_ret ?_
    refine post_is (.tmp rfl .nil) zKeep ?_
    rfl
    )
theorem rSilent_con (c : List Mem) (hL : Lt c) (s : Int) : Con none Tryz.prog 39 [cv c, .i s] [] (Is (.b (silentE c s)) []) := by
  by_cases h0 : checkE c s = 0
  · obtain ⟨hok, n, rfl, hs⟩ := check_ok hL h0
    rw [silentE_ok h0]; exact rSilent_ok c hL n hs h0
  · rw [silentE_no h0]; exact rSilent_no c hL s h0
theorem rPair_is (c : List Mem) (hL : Lt c) (n : Nat) (h0 : checkE c n = 0) : Con none Tryz.prog 25 [cv c, .i n] [] (Is (.tup [.i ((pairC c n).1 : Nat), .i ((pairC c n).2.1 : Nat), .b (pairC c n).2.2]) []) := by
  have h := rPair_con c hL n
  rwa [pairE_ok h0] at h
theorem gJudge_con (c : List Mem) (hL : Lt c) (s : Int) : Con none Tryz.prog 37 [cv c, .i s] [] (Is (.tup [vv (judgeE c s).1, .i (judgeE c s).2]) []) := by
  have hcap : capB = 140737488355328 := rfl
  refine con_intro Tryz.func37 rfl Tryz.call37 rfl ?_
  refine zS ?_
  refine aops_box rfl zFlat rfl rfl (fun b2 => ?_)
  refine aops_alloc rfl zRc rfl rfl (fun b4 => ?_)
  refine zAs ?_; refine zN ?_; refine awp_seq ?_; refine zS ?_; refine zLd ?_; refine zMv ?_
  refine aops_call_v zRc (gcheck_con c hL s) rfl rfl ?_
  refine zAs ?_; refine zN (zS ?_); refine zMv ?_; refine zCm ?_; refine zN ?_
  refine zC (fun hc => ?_) fun hc => ?_
  · have h0 := of_neq_true hc
    refine zS ?_
    refine zP (ap_build zKr rfl zRc zFill) ?_
    refine zMv ?_; refine zSt ?_; refine zAs ?_; refine zN ?_; refine awp_ret ?_; refine seqQ_r ?_
    rw [judgeE_no h0]
    exact post_is (.cell rfl zUpd rfl rfl (.tmp rfl .nil)) zKeep rfl
  · have h0 := of_neq_false hc
    obtain ⟨hok, n, rfl, hs⟩ := check_ok hL h0
    have hp := pow4 hL.len
    refine awp_skip ?_; refine seqQ_n ?_; refine zS ?_; refine zLd ?_; refine zMv ?_
    refine aops_call_v zRc (judge_con c hok n hs) rfl rfl ?_
    refine zSt ?_; refine zAs ?_; refine zN ?_; refine awp_ret ?_
    rw [judgeE_ok h0]
    exact post_is (.cell rfl zUpd rfl rfl (.tmp rfl .nil)) zKeep rfl
theorem rJudge_con (c : List Mem) (hL : Lt c) (s : Int) : Con none Tryz.prog 38 [cv c, .i s] [] (Is (.tup [vv (judgeE c s).1, .i (judgeE c s).2]) []) := by
  have hcap : capB = 140737488355328 := rfl
  refine con_intro Tryz.func38 rfl Tryz.call38 rfl ?_
  refine zS ?_
  refine aops_box rfl zFlat rfl rfl (fun b2 => ?_)
  refine aops_alloc rfl zRc rfl rfl (fun b4 => ?_)
  refine zAs ?_; refine zN ?_; refine awp_seq ?_; refine zS ?_; refine zLd ?_; refine zMv ?_
  refine aops_call_v zRc (begin_con c hL s) rfl rfl ?_
  refine zAs ?_; refine zN (zS ?_); refine zMv ?_; refine zCm ?_; refine zN ?_
  refine zC (fun hc => ?_) fun hc => ?_
  · have h0 := of_neq_true hc
    refine zS ?_
    refine zP (ap_build zKr rfl zRc zFill) ?_
    refine zMv ?_; refine zSt ?_; refine zAs ?_; refine zN ?_; refine awp_ret ?_; refine seqQ_r ?_
    rw [judgeE_no h0]
    exact post_is (.cell rfl zUpd rfl rfl (.tmp rfl .nil)) zKeep rfl
  · have h0 := of_neq_false hc
    obtain ⟨hok, n, rfl, hs⟩ := check_ok hL h0
    have hp := pow4 hL.len
    refine awp_skip ?_; refine seqQ_n ?_; refine zS ?_; refine zLd ?_; refine zMv ?_
    refine aops_call_v zRc (rPair_is c hL n h0) rfl rfl ?_
    refine zMv ?_
    refine zP (ap_extract rfl rfl) ?_
    refine zP (ap_extract rfl rfl) ?_
    refine zP (ap_extract rfl rfl) ?_
    refine zAs ?_; refine zAs ?_; refine zAs ?_; refine zN (zS ?_); refine zMv ?_; refine zMv ?_; refine zLd ?_; refine zMv ?_
    refine aops_call_v zRc (rSilent_ok c hL n hs h0) rfl rfl ?_
    refine zMv ?_; refine zMv ?_
    refine zP (ap_build zKr rfl zRc zFill) ?_
    refine zSt ?_; refine zAs ?_; refine zN ?_; refine awp_ret ?_
    rw [judgeE_ok h0]
    exact post_is (.cell rfl zUpd rfl rfl (.tmp rfl .nil)) zKeep rfl
theorem subV_iff {p : Vd → Bool} {v o : Vd} (hv : v.nodes < 1024) (ho : o.nodes < 1024) : subV p v o = true ↔ p o = true ∧ o.nodes ≠ v.nodes ∧ Sub o.nodes v.nodes := by
  unfold subV
  rw [Bool.and_eq_true, Bool.and_eq_true, decide_eq_true_iff, andn_zero ho hv]
  simp [Int.ofNat_inj]
theorem sub_le {a b : Nat} (h : Sub a b) : a ≤ b := by
  have e : a &&& b = a := Nat.eq_of_testBit_eq fun i => by
    rw [Nat.testBit_and]
    cases hb : a.testBit i with
    | false => rfl
    | true => rw [h i hb]; rfl
  rw [← e]; exact Nat.and_le_right
theorem least_step {f : Nat → Bool} {S : Bool} {j k : Nat} {le le' : Bool} (hj : j < 1024) (hk : k < 1024) (hI : le = true ↔ S = true ∧ ∀ y, y < j → ¬ (f y = true ∧ Sub y k))
    (h : le' = (le && !(f j && decide (((j &&& (2 ^ 63 - 1 - k) : Nat) : Int) = 0)))) : le' = true ↔ S = true ∧ ∀ y, y < j + 1 → ¬ (f y = true ∧ Sub y k) := by
  have e : (!(f j && decide (((j &&& (2 ^ 63 - 1 - k) : Nat) : Int) = 0))) = true ↔ ¬ (f j = true ∧ Sub j k) := by
    rw [Bool.not_eq_true', ← Bool.not_eq_true, Bool.and_eq_true, decide_eq_true_iff, andn_zero hj hk]
  rw [h, Bool.and_eq_true, hI, e]
  constructor
  · rintro ⟨⟨h1, h2⟩, h3⟩
    refine ⟨h1, fun y hy => ?_⟩
    by_cases ey : y = j
    · subst ey; exact h3
    · exact h2 y (by omega)
  · rintro ⟨h1, h2⟩
    exact ⟨⟨h1, fun y hy => h2 y (by omega)⟩, h2 j (by omega)⟩
def allE (c : List Mem) : List Vd × Int := if checkE c 0 = 0 then (allV c, 0) else ([], checkE c 0)
theorem allE_no {c : List Mem} (h : ¬ checkE c 0 = 0) : allE c = ([], checkE c 0) := if_neg h
theorem allE_ok {c : List Mem} (h : checkE c 0 = 0) : allE c = (allV c, 0) := if_pos h
theorem leastGo_snoc {p : Vd → Bool} {l : List Vd} {v : Vd} : ∀ {r : List Vd} {out : List Int}, leastGo p l (r ++ [v]) out = if (p v && !(l.any (subV p v))) = true then leastGo p l r out ++ [(v.nodes : Int)] else leastGo p l r out
  | [], out => by simp [leastGo]
  | x :: r, out => by
    rw [List.cons_append, leastGo, leastGo]
    split <;> exact leastGo_snoc
theorem low_iff {p : Vd → Bool} {c : List Mem} (hc : c.length ≤ 4) {k : Nat} (hk : k < 2 ^ c.length) {low : Bool} (h : low = true ↔ true = true ∧ ∀ y, y < k → ¬ (p (judgeC c y) = true ∧ Sub y k)) : low = !((allV c).any (subV p (judgeC c k))) := by
  have hp := pow_le10 (show c.length ≤ 10 by omega)
  rw [Bool.eq_iff_iff, h, Bool.not_eq_true', List.any_eq_false]
  constructor
  · rintro ⟨_, h1⟩ o ho hs
    obtain ⟨y, hy, rfl⟩ := List.mem_map.1 ho
    have hy' := List.mem_range.1 hy
    obtain ⟨a1, a2, a3⟩ := (subV_iff (p := p) (v := judgeC c k) (o := judgeC c y) (by show k < 1024; omega) (by show y < 1024; omega)).1 hs
    have a2' : y ≠ k := a2
    exact h1 y (by have := sub_le (a := y) (b := k) a3; omega) ⟨a1, a3⟩
  · intro h1
    refine ⟨rfl, fun y hy ⟨a1, a3⟩ => h1 (judgeC c y) (List.mem_map.2 ⟨y, List.mem_range.2 (by omega), rfl⟩) ((subV_iff (p := p) (v := judgeC c k) (o := judgeC c y) (by show k < 1024; omega) (by show y < 1024; omega)).2 ⟨a1, ?_, a3⟩)⟩
    show y ≠ k
    omega
theorem allV_get {c : List Mem} {k : Nat} (hk : k < 2 ^ c.length) : (allV c)[k]? = some (judgeC c k) := by simp [allV, hk]
theorem allV_take {c : List Mem} {k : Nat} (hk : k < 2 ^ c.length) : (allV c).take (k + 1) = (allV c).take k ++ [judgeC c k] := by rw [List.take_add_one, allV_get hk]; rfl
theorem eqV (a d e : Int) (b c : Bool) : EqS Tryz.prog 78 #[.int .i64 a, .bool b, .bool c, .int .i64 d, .int .i64 e] #[.int .i64 a, .bool b, .bool c, .int .i64 d, .int .i64 e] true := by
  have u3 := Tryz.underlying3
  have a3 := Tryz.isAgg3
  have z3 := Tryz.sizeOf3
  have u4 := Tryz.underlying4
  have a4 := Tryz.isAgg4
  have z4 := Tryz.sizeOf4
  have hS : Tryz.prog.underlying 78 = some (.struct (Tryz.prog.fieldsOf 78)) := by kernel_rfl
  have hp : Tryz.prog.stoodInHeld 78 = false := by kernel_rfl
  refine ⟨by kernel_rfl, fun w => ⟨?_, ?_⟩⟩
  · rw [show (10000 : Nat) = 9999 + 1 from rfl, run_equalIn_agg w 9999 78 _ _ hS hp]
    simp only [Program.fieldsOf, Tryz.underlying78]
    go_simp
  · rw [show (10000 : Nat) = 9999 + 1 from rfl, events_equalIn_struct w 9999 78 _ _ _ hS hp]
    simp only [Program.fieldsOf, Tryz.underlying78]
    go_simp
    simp only [show (9999 : Nat) = 9998 + 1 from rfl, events_equalIn_int _ _ _ _ _ _ _ _ u3, events_equalIn_bool _ _ _ _ _ _ u4]
theorem rJudge_is (c : List Mem) (hL : Lt c) (n : Nat) (h0 : checkE c n = 0) : Con none Tryz.prog 38 [cv c, .i n] [] (Is (.tup [vv (judgeC c n), .i 0]) []) := by
  have h := rJudge_con c hL n
  rwa [judgeE_ok h0] at h
theorem gAll_no (c : List Mem) (hL : Lt c) (h0 : ¬ checkE c 0 = 0) : Con none Tryz.prog 28 [cv c] [] (Is (.tup [.sl 5 [], .i (checkE c 0)]) []) := by
  have hcap : capB = 140737488355328 := rfl
  refine con_intro Tryz.func28 rfl Tryz.call28 rfl ?_
  refine zS ?_
  refine aops_box rfl zFlat rfl rfl (fun b1 => ?_)
  refine zAs ?_; refine zAs ?_; refine zN ?_; refine awp_seq ?_; refine zS ?_; refine zLd ?_
  refine aops_call_v zRc (gcheck_con c hL 0) rfl rfl ?_
  refine zAs ?_; refine zN (zS ?_); refine zMv ?_; refine zCm ?_; refine zN ?_
  refine awp_cond_t rfl (by simp [h0]) ?_
  refine zS ?_; refine zMv ?_; refine zAs ?_; refine zAs ?_; refine zN ?_
  refine awp_unnil [2,3] 5 rfl zSelC zHeapA ?_
  refine awp_ret ?_; refine seqQ_r ?_
  exact post_is (.tmp rfl (.tmp rfl .nil)) zKeep rfl
theorem gAll_con {Ps : Value → World → Prop} (c : List Mem) (hL : Lt c) : Con (some Ps) Tryz.prog 28 [cv c] [] (Is (.tup [.sl 5 ((allE c).1.map vv), .i (allE c).2]) []) := by
  by_cases h0 : checkE c 0 = 0
  · obtain ⟨hok, _⟩ := check_ok hL h0
    rw [allE_ok h0]; exact All_con c hok
  · rw [allE_no h0]; exact (gAll_no c hL h0).main
theorem rAll_con (c : List Mem) (hL : Lt c) : Con none Tryz.prog 29 [cv c] [] (Is (.tup [.sl 5 ((allE c).1.map vv), .i (allE c).2]) []) := by
  have hcap : capB = 140737488355328 := rfl
  have hp := pow4 hL.len
  have hlen := hL.len
  have hml : (c.map mv).length = c.length := by simp
  refine con_intro Tryz.func29 rfl Tryz.call29 rfl ?_
  refine zS ?_
  refine aops_box rfl zFlat rfl rfl (fun b1 => ?_)
  refine zAs ?_; refine zAs ?_; refine zN ?_; refine awp_seq ?_; refine zS ?_; refine zLd ?_
  refine aops_call_v zRc (begin_con c hL 0) rfl rfl ?_
  refine zAs ?_; refine zN (zS ?_); refine zMv ?_; refine zCm ?_; refine zN ?_
  refine zC (fun hc => ?_) fun hc => ?_
  · have h0 := of_neq_true hc
    refine zS ?_; refine zMv ?_; refine zAs ?_; refine zAs ?_; refine zN ?_
    refine awp_unnil [2,3] 5 rfl zSelC zHeapA ?_
    refine awp_ret ?_; refine seqQ_r ?_
    rw [allE_no h0]
    exact post_is (.tmp rfl (.tmp rfl .nil)) zKeep rfl
  · have h0 := of_neq_false hc
    obtain ⟨hok, _⟩ := check_ok hL h0
    refine awp_skip ?_; refine seqQ_n ?_; refine awp_seq ?_; refine zS ?_; refine zF 0 1 false ?_; refine zL1 ?_
    first | refine aops_len rfl rfl rfl rfl (fun _ => ?_) | refine zP (ap_len_arr rfl zUpd rfl) ?_ | refine zP (ap_len_nil rfl rfl) ?_
    refine zCm ?_; refine zN ?_
    refine awp_cond_f rfl (by refine decide_eq_false ?_; omega) ?_
    refine awp_skip ?_; refine seqQ_n ?_; refine zS ?_; refine zAs ?_; refine zN ?_; refine awp_seq ?_; refine zS ?_; refine zAs ?_; refine zN ?_; refine awp_block ?_
    refine awp_loop2 [1] [.box b1 _ _] (fun (k : Nat) (v : Value) r => (5, .v v) :: (6, .i (k : Int)) :: r) (fun (k : Nat) (v : Value) r => .arr v 78 5 (((allV c).take k).map vv) :: r) (fun (k : Nat) (v : Value) => k ≤ 2 ^ c.length) (fun (k : Nat) (v : Value) => 2 ^ c.length - k) (0) (.slice none 0 0) zRc (by omega) ((wk_own 78 5 rfl).trans (wk zSub zKeep)) ?_
    intro k v hk
    have hql : (((allV c).take k).map vv).length ≤ 16 := by rw [List.length_map, List.length_take, allV_len]; omega
    refine awp_seq ?_; refine zS ?_; refine zMv ?_; refine zLd ?_
    refine aops_call_v zRc (rall_con c hL.len) rfl rfl ?_
    refine zCm ?_; refine zN ?_
    refine zC (fun hc => ?_) fun hc => ?_
    · have hlt := of_decide_eq_true hc
      refine awp_skip ?_; refine seqQ_n ?_; refine awp_seq ?_; refine awp_block ?_; refine zS ?_; refine zLd ?_; refine zMv ?_
      refine aops_call_v zRc (rJudge_is c hL k (checkE_nat hok (by omega))) rfl rfl ?_
      refine zMv ?_
      refine zP (ap_extract rfl rfl) ?_
      refine zP (ap_extract rfl rfl) ?_
      refine aops_alloc rfl zRc rfl rfl (fun b7 => ?_)
      refine zSt ?_; refine zAs ?_; refine zN ?_; refine awp_region ?_; refine zMv ?_; refine zLd ?_
      refine aops_lit (e := 78) (sz := 5) (by_ := 32) rfl rfl zRc rfl rfl rfl rfl ?_
      first | refine aops_append (e := 78) (sz := 5) (by_ := 32) rfl zUpd rfl rfl rfl rfl rfl (by simp only [List.length_cons, List.length_nil, List.length_append]; omega) (fun v33 hv33 => ?_) | refine aops_append_nil (e := 78) (sz := 5) (by_ := 32) rfl rfl rfl rfl rfl rfl (by simp only [List.length_cons, List.length_nil, List.length_append]; omega) (fun v33 hv33 => ?_)
      refine zAs ?_; refine aops_nil ?_; refine blockQ_n ?_; refine seqQ_n ?_; refine awp_region ?_; refine zMv ?_; refine zAr ?_; refine zAs ?_; refine zN ?_
      rw [show ((allV c).take k).map vv ++ [D.agg [.i (judgeC c k).nodes, .b (judgeC c k).splits, .b (judgeC c k).halts, .i (judgeC c k).l, .i (judgeC c k).r]] = ((allV c).take (k + 1)).map vv from by rw [allV_take (by omega), List.map_append]; rfl]
      refine ⟨k + 1, _, by omega, by omega, wk zSub zKeep⟩
    · have hge := of_decide_eq_false hc
      refine awp_freeze v [5] zRem zSelC zHeapA ?_
      refine awp_exit ?_; refine seqQ_x ?_; refine seqQ_x ?_; refine blockQ_x rfl ?_; refine seqQ_n ?_; refine zS ?_; refine zMv ?_; refine zAs ?_; refine zAs ?_; refine zN ?_; refine awp_ret ?_
      rw [allE_ok h0]
      rw [show (allV c).take k = allV c from List.take_of_length_le (by rw [allV_len]; omega)]
      exact post_is (.tmp rfl (.tmp rfl .nil)) zKeep rfl
theorem verdicts_con (l : List Vd) : Con none Tryz.prog 32 [.sl 5 (l.map vv), .sl 5 (l.map vv)] [] (Is (.b true) []) := by
  have hcap : capB = 140737488355328 := rfl
  have hl1 : (l.map vv).length = l.length := by simp
  refine con_intro Tryz.func32 rfl Tryz.call32 rfl ?_
  refine zS ?_; refine zAs ?_; refine zN ?_; refine awp_seq ?_; refine zS ?_; refine zMv ?_
  first | refine aops_len rfl rfl rfl rfl (fun _ => ?_) | refine zP (ap_len_arr rfl zUpd rfl) ?_ | refine zP (ap_len_nil rfl rfl) ?_
  refine zMv ?_
  first | refine aops_len rfl rfl rfl rfl (fun _ => ?_) | refine zP (ap_len_arr rfl zUpd rfl) ?_ | refine zP (ap_len_nil rfl rfl) ?_
  refine zCm ?_; refine zN ?_
  refine awp_cond_f rfl (by simp) ?_
  refine awp_skip ?_; refine seqQ_n ?_; refine awp_seq ?_; refine zS ?_; refine zMv ?_
  first | refine aops_len rfl rfl rfl rfl (fun _ => ?_) | refine zP (ap_len_arr rfl zUpd rfl) ?_ | refine zP (ap_len_nil rfl rfl) ?_
  refine zMv ?_; refine zN ?_; refine awp_block ?_
  refine awp_loop1 [0, 1, 12] [] (fun (k : Nat) r => (13, .i (k : Int)) :: r) (fun (k : Nat) r => r) (fun (k : Nat) => k ≤ l.length) (fun (k : Nat) => l.length - k) (0) zRc (by omega) (wk zSub zKeep) ?_
  intro k hk
  refine zS ?_; refine zCm ?_; refine zN ?_; refine awp_seq ?_
  refine zC (fun hc => ?_) fun hc => ?_
  · have hlt := of_decide_eq_true hc
    obtain ⟨u, hu, _⟩ := drop_cons (l := l) (k := k) (by omega)
    have hu' := getMap vv hu
    refine awp_skip ?_; refine seqQ_n ?_; refine awp_seq ?_; refine awp_block ?_; refine zS ?_; refine zMv ?_; refine zAs ?_; refine zN ?_; refine awp_seq ?_
    refine awp_draw (Hm := []) zKr zSplit ?_
    refine zT 0 rfl (AP.ar (ap_move rfl)) ?_
    refine zT 1 rfl (AP.ar (ap_move rfl)) ?_
    first | refine zT 2 rfl (AP.ar (ap_index rfl rfl rfl rfl (by decide) rfl zAss)) ?_ | refine zT 2 rfl (AP.ar (ap_index rfl rfl rfl rfl (by decide) (by omega) zAss)) ?_ | refine zT 2 rfl (AP.ar (ap_index_own rfl rfl rfl rfl rfl (by first | omega | (simp only [List.length_map, List.length_set, avs_len]; omega)))) ?_
    refine zTM 3 ?_
    refine zT 4 rfl (AP.ar (ap_move rfl)) ?_
    refine zT 5 rfl (AP.ar (ap_move rfl)) ?_
    first | refine zT 6 rfl (AP.ar (ap_index rfl rfl rfl rfl (by decide) rfl zAss)) ?_ | refine zT 6 rfl (AP.ar (ap_index rfl rfl rfl rfl (by decide) (by omega) zAss)) ?_ | refine zT 6 rfl (AP.ar (ap_index_own rfl rfl rfl rfl rfl (by first | omega | (simp only [List.length_map, List.length_set, avs_len]; omega)))) ?_
    refine zTM 7 ?_
    refine zT 8 rfl (AP.ar (ap_neV rfl zRc rfl zRc (eqV _ _ _ _ _))) ?_
    refine aany_nil zKr ?_
    all_goals (
      refine seqQ_n ?_
      refine awp_cond_f rfl zDec ?_
      refine awp_skip ?_; refine blockQ_n ?_; refine seqQ_n ?_; refine awp_region ?_; refine zAr ?_; refine zMv ?_; refine zN ?_
      refine ⟨k + 1, by omega, by omega, wk zSub zKeep⟩
      )
  · refine awp_exit ?_
    refine seqQ_x ?_; refine seqQ_x ?_; refine blockQ_x rfl ?_; refine seqQ_n ?_; refine zS ?_; refine zAs ?_; refine zN ?_; refine awp_ret ?_
    exact post_is (.tmp rfl .nil) zKeep rfl
theorem lst_t {p : Vd → Bool} {c : List Mem} {k : Nat} (hk : k < 2 ^ c.length) (h1 : p (judgeC c k) = true) (h2 : (!((allV c).any (subV p (judgeC c k)))) = true) : leastGo p (allV c) ((allV c).take (k + 1)) [] = leastGo p (allV c) ((allV c).take k) [] ++ [(k : Int)] := by
  rw [allV_take hk, leastGo_snoc, if_pos (by rw [h1, h2]; rfl)]; rfl
theorem lst_f1 {p : Vd → Bool} {c : List Mem} {k : Nat} (hk : k < 2 ^ c.length) (h1 : p (judgeC c k) = false) : leastGo p (allV c) ((allV c).take (k + 1)) [] = leastGo p (allV c) ((allV c).take k) [] := by
  rw [allV_take hk, leastGo_snoc, if_neg (by rw [h1, Bool.false_and]; decide)]
theorem lst_f2 {p : Vd → Bool} {c : List Mem} {k : Nat} (hk : k < 2 ^ c.length) (h2 : (!((allV c).any (subV p (judgeC c k)))) = false) : leastGo p (allV c) ((allV c).take (k + 1)) [] = leastGo p (allV c) ((allV c).take k) [] := by
  rw [allV_take hk, leastGo_snoc, if_neg (by rw [h2, Bool.and_false]; decide)]
theorem lst_len (p : Vd → Bool) (l : List Vd) : ∀ (r : List Vd) (out : List Int), (leastGo p l r out).length ≤ out.length + r.length
  | [], out => by simp [leastGo]
  | v :: r, out => by
    rw [leastGo]
    split
    · have := lst_len p l r (out ++ [(v.nodes : Int)]); simp only [List.length_append, List.length_cons, List.length_nil] at this ⊢; omega
    · have := lst_len p l r out; simp only [List.length_cons]; omega
def leastE (p : Vd → Bool) (c : List Mem) : List Int := leastV p (allE c).1
theorem leastE_no {p : Vd → Bool} {c : List Mem} (h : ¬ checkE c 0 = 0) : leastE p c = [] := by unfold leastE; rw [allE_no h]; rfl
theorem leastE_ok {p : Vd → Bool} {c : List Mem} (h : checkE c 0 = 0) : leastE p c = leastV p (allV c) := by unfold leastE; rw [allE_ok h]
theorem allE_z {c : List Mem} (h : (allE c).2 = 0) : checkE c 0 = 0 := by
  by_cases e : checkE c 0 = 0
  · exact e
  · rw [allE_no e] at h; exact h
theorem bget {p : Vd → Bool} {c : List Mem} {k : Nat} (hk : k < 2 ^ c.length) : (((allV c).map p).map D.b)[k]? = some (D.b (p (judgeC c k))) := by simp [allV, hk]
theorem rleast_con (p : Vd → Bool) (c : List Mem) (hc : c.length ≤ 4) : Con none Tryz.prog 87 [.sl 1 (((allV c).map p).map .b)] [] (Is (.sl 1 ((leastV p (allV c)).map .i)) []) := by
  have hcap : capB = 140737488355328 := rfl
  have hp := pow4 hc
  have hal : (((allV c).map p).map D.b).length = 2 ^ c.length := by rw [List.length_map, List.length_map, allV_len]
  have hc' := hc
  refine con_intro Tryz.func87 rfl Tryz.call87 rfl ?_
  refine zS ?_; refine zAs ?_; refine zN (zS ?_); refine zAs ?_; refine zN ?_; refine awp_seq ?_; refine zS ?_; refine zMv ?_
  first | refine aops_len rfl rfl rfl rfl (fun _ => ?_) | refine zP (ap_len_arr rfl zUpd rfl) ?_ | refine zP (ap_len_nil rfl rfl) ?_
  refine zMv ?_; refine zN ?_; refine awp_block ?_
  refine awp_loop2 [0, 8] [] (fun (k : Nat) (v : Value) r => (3, .v v) :: (9, .i (k : Int)) :: r) (fun (k : Nat) (v : Value) r => .arr v 3 1 ((leastGo p (allV c) ((allV c).take k) []).map .i) :: r) (fun (k : Nat) (v : Value) => k ≤ 2 ^ c.length) (fun (k : Nat) (v : Value) => 2 ^ c.length - k) (0) (.slice none 0 0) zRc (by omega) ((wk_own 3 1 rfl).trans (wk zSub zKeep)) ?_
  intro k v hk
  have hql : ((leastGo p (allV c) ((allV c).take k) []).map D.i).length ≤ 16 := by have := lst_len p (allV c) ((allV c).take k) []; simp only [List.length_map, List.length_nil, List.length_take, allV_len] at this ⊢; omega
  refine zS ?_; refine zCm ?_; refine zN ?_; refine awp_seq ?_
  refine zC (fun hc => ?_) fun hc => ?_
  · have hlt := of_decide_eq_true hc
    have hlt' : k < 2 ^ c.length := by omega
    refine awp_skip ?_; refine seqQ_n ?_; refine awp_seq ?_; refine awp_block ?_; refine zS ?_; refine zMv ?_; refine zAs ?_; refine zN ?_; refine awp_seq ?_; refine zS ?_; refine zMv ?_; refine zMv ?_
    refine zP (ap_index (k := k) rfl rfl rfl rfl (by decide) rfl (bget (by omega))) ?_
    refine zL1 ?_; refine zNo ?_; refine zN ?_
    refine zC (fun hc => ?_) fun hc => ?_
    · refine awp_exit ?_
      refine seqQ_x ?_; refine blockQ_x rfl ?_; refine seqQ_n ?_; refine awp_region ?_; refine zAr ?_; refine zMv ?_; refine zN ?_
      first
      | (have h0 : (!(p (judgeC c k))) = true := (by with_reducible assumption); have e := lst_f1 (p := p) hlt' (not_t h0); refine ⟨k + 1, v, by omega, by omega, ?_⟩; rw [e]; exact wk zSub zKeep)
      | (have h0 : low = false := (by with_reducible assumption); have e := lst_f2 (p := p) hlt' (by rw [← hlow]; exact h0); refine ⟨k + 1, v, by omega, by omega, ?_⟩; rw [e]; exact wk zSub zKeep)
      | (have h0 : low = true := (by with_reducible assumption); have e := lst_t (p := p) hlt' (not_f (by with_reducible assumption)) (by rw [← hlow]; exact h0); refine ⟨k + 1, v40, by omega, by omega, ?_⟩; rw [e, ← mapi_snoc]; exact wk zSub zKeep)
    · have hpk := hc
      refine awp_skip ?_; refine seqQ_n ?_; refine zS ?_; refine zAs ?_; refine zN ?_; refine awp_seq ?_; refine zS ?_; refine zAs ?_; refine zN ?_; refine awp_block ?_
      refine awp_loop2 [0, 3, 4, 8, 9] [] (fun (j : Nat) (low : Bool) r => (5, .b low) :: (6, .i (j : Int)) :: r) (fun (j : Nat) (low : Bool) r => .arr v 3 1 ((leastGo p (allV c) ((allV c).take k) []).map .i) :: r) (fun (j : Nat) (low : Bool) => j ≤ k ∧ (low = true ↔ true = true ∧ ∀ y, y < j → ¬ (p (judgeC c y) = true ∧ Sub y k))) (fun (j : Nat) (low : Bool) => k - j) (0) (true) zRc ⟨by omega, by simp⟩ (wk zSub zKeep) ?_
      intro j low ⟨hj, hI⟩
      refine awp_seq ?_; refine zS ?_; refine zMv ?_; refine zMv ?_; refine zCm ?_; refine zN ?_
      refine zC (fun hc => ?_) fun hc => ?_
      · have hltj := of_decide_eq_true hc
        refine awp_skip ?_; refine seqQ_n ?_; refine awp_seq ?_; refine awp_block ?_; refine awp_region ?_; refine zMv ?_; refine zMv ?_
        all_goals first | (refine zY ?_; refine zMv ?_) | refine zU ?_ | refine zNt ?_ | (refine zGt (fun hg => ?_) fun hg => ?_; case' _ => refine zMv ?_)
        all_goals first | (refine zY ?_; refine zMv ?_) | refine zU ?_ | refine zNt ?_ | (refine zGt (fun hg => ?_) fun hg => ?_; case' _ => refine zMv ?_)
        all_goals first | (refine zY ?_; refine zP (ap_index (k := j) rfl rfl rfl rfl (by decide) rfl (bget (by omega))) ?_) | refine zU ?_ | refine zNt ?_ | (refine zGt (fun hg => ?_) fun hg => ?_; case' _ => refine zP (ap_index (k := j) rfl rfl rfl rfl (by decide) rfl (bget (by omega))) ?_)
        all_goals first | (refine zY ?_; refine zL1 ?_) | refine zU ?_ | refine zNt ?_ | (refine zGt (fun hg => ?_) fun hg => ?_; case' _ => refine zL1 ?_)
        all_goals first | (refine zY ?_; refine zMv ?_) | refine zU ?_ | refine zNt ?_ | (refine zGt (fun hg => ?_) fun hg => ?_; case' _ => refine zMv ?_)
        all_goals first | (refine zY ?_; refine zMv ?_) | refine zU ?_ | refine zNt ?_ | (refine zGt (fun hg => ?_) fun hg => ?_; case' _ => refine zMv ?_)
        all_goals first | (refine zY ?_; refine zMv ?_) | refine zU ?_ | refine zNt ?_ | (refine zGt (fun hg => ?_) fun hg => ?_; case' _ => refine zMv ?_)
        all_goals first | (refine zY ?_; refine zP (ap_bits rfl rfl rfl (by omega) (by omega)) ?_) | refine zU ?_ | refine zNt ?_ | (refine zGt (fun hg => ?_) fun hg => ?_; case' _ => refine zP (ap_bits rfl rfl rfl (by omega) (by omega)) ?_)
        all_goals first | (refine zY ?_; refine zCm ?_) | refine zU ?_ | refine zNt ?_ | (refine zGt (fun hg => ?_) fun hg => ?_; case' _ => refine zCm ?_)
        all_goals (first | (refine aops_yes rfl rfl rfl rfl zDec ?_; refine zPk ?_) | refine aops_no_u rfl rfl rfl ?_ | refine aops_no_t rfl rfl rfl rfl zDec ?_ | (refine aops_guard_t rfl rfl rfl rfl (fun hg => ?_) (fun hg => ?_); case' _ => refine zPk ?_))
        all_goals first | (refine zY ?_; refine zNo ?_) | refine zU ?_ | refine zNt ?_ | (refine zGt (fun hg => ?_) fun hg => ?_; case' _ => refine zNo ?_)
        all_goals refine zPk ?_
        all_goals refine zAs ?_
        all_goals (
          refine aops_nil ?_; refine blockQ_n ?_; refine seqQ_n ?_; refine awp_region ?_; refine zMv ?_; refine zAr ?_; refine zAs ?_; refine zN ?_
          refine ⟨j + 1, _, ⟨by omega, least_step (f := fun y => p (judgeC c y)) (by omega) (by omega) hI ?_⟩, by omega, wk zSub zKeep⟩
          simp_all
          )
      · have hgej := of_decide_eq_false hc
        obtain rfl : k = j := by omega
        have hlow := low_iff (p := p) hc' hlt' hI
        refine awp_exit ?_; refine seqQ_x ?_; refine seqQ_x ?_; refine blockQ_x rfl ?_; refine seqQ_n ?_; refine zS ?_; refine zMv ?_; refine zN ?_
        refine zC (fun hc => ?_) fun hc => ?_
        · refine awp_region ?_
          refine zMv ?_; refine zMv ?_
          refine aops_lit (e := 3) (sz := 1) (by_ := 8) rfl rfl zRc rfl rfl rfl rfl ?_
          first | refine aops_append (e := 3) (sz := 1) (by_ := 8) rfl zUpd rfl rfl rfl rfl rfl (by simp only [List.length_cons, List.length_nil, List.length_append]; omega) (fun v40 hv40 => ?_) | refine aops_append_nil (e := 3) (sz := 1) (by_ := 8) rfl rfl rfl rfl rfl rfl (by simp only [List.length_cons, List.length_nil, List.length_append]; omega) (fun v40 hv40 => ?_)
          refine zAs ?_; refine aops_nil ?_; refine blockQ_n ?_; refine seqQ_n ?_; refine awp_region ?_; refine zAr ?_; refine zMv ?_; refine zN ?_
          first
          | (have h0 : (!(p (judgeC c k))) = true := (by with_reducible assumption); have e := lst_f1 (p := p) hlt' (not_t h0); refine ⟨k + 1, v, by omega, by omega, ?_⟩; rw [e]; exact wk zSub zKeep)
          | (have h0 : low = false := (by with_reducible assumption); have e := lst_f2 (p := p) hlt' (by rw [← hlow]; exact h0); refine ⟨k + 1, v, by omega, by omega, ?_⟩; rw [e]; exact wk zSub zKeep)
          | (have h0 : low = true := (by with_reducible assumption); have e := lst_t (p := p) hlt' (not_f (by with_reducible assumption)) (by rw [← hlow]; exact h0); refine ⟨k + 1, v40, by omega, by omega, ?_⟩; rw [e, ← mapi_snoc]; exact wk zSub zKeep)
        · refine awp_skip ?_
          refine blockQ_n ?_; refine seqQ_n ?_; refine awp_region ?_; refine zAr ?_; refine zMv ?_; refine zN ?_
          first
          | (have h0 : (!(p (judgeC c k))) = true := (by with_reducible assumption); have e := lst_f1 (p := p) hlt' (not_t h0); refine ⟨k + 1, v, by omega, by omega, ?_⟩; rw [e]; exact wk zSub zKeep)
          | (have h0 : low = false := (by with_reducible assumption); have e := lst_f2 (p := p) hlt' (by rw [← hlow]; exact h0); refine ⟨k + 1, v, by omega, by omega, ?_⟩; rw [e]; exact wk zSub zKeep)
          | (have h0 : low = true := (by with_reducible assumption); have e := lst_t (p := p) hlt' (not_f (by with_reducible assumption)) (by rw [← hlow]; exact h0); refine ⟨k + 1, v40, by omega, by omega, ?_⟩; rw [e, ← mapi_snoc]; exact wk zSub zKeep)
  · have hge := of_decide_eq_false hc
    refine awp_freeze v [3] zRem zSelC zHeapA ?_
    refine awp_exit ?_; refine seqQ_x ?_; refine seqQ_x ?_; refine blockQ_x rfl ?_; refine seqQ_n ?_; refine zS ?_; refine zMv ?_; refine zAs ?_; refine zN ?_; refine awp_ret ?_
    rw [show (allV c).take k = allV c from List.take_of_length_le (by rw [allV_len]; omega)]
    exact post_is (.tmp rfl .nil) zKeep rfl
theorem gLeast_con {Ps : Value → World → Prop} (c : List Mem) (hL : Lt c) : Con (some Ps) Tryz.prog 30 [cv c] [] (Is (.tup [.sl 1 ((leastE Vd.splits c).map .i), .sl 1 ((leastE Vd.halts c).map .i), .i (allE c).2]) []) := by
  have hcap : capB = 140737488355328 := rfl
  by_cases h0 : checkE c 0 = 0
  · obtain ⟨hok, _⟩ := check_ok hL h0
    rw [leastE_ok h0, leastE_ok h0, allE_ok h0]
    exact Least_con c hok
  · rw [leastE_no h0, leastE_no h0]
    refine con_intro Tryz.func30 rfl Tryz.call30 rfl ?_
    refine zS ?_
    refine aops_box rfl zFlat rfl rfl (fun b1 => ?_)
    refine zAs ?_; refine zAs ?_; refine zAs ?_; refine zN (zS ?_); refine zLd ?_
    refine aops_call_v zRc (gAll_con c hL) rfl rfl ?_
    refine zMv ?_
    refine zP (ap_extract rfl rfl) ?_
    refine zP (ap_extract rfl rfl) ?_
    refine zAs ?_; refine zAs ?_; refine zN ?_; refine awp_seq ?_; refine zS ?_; refine zMv ?_; refine zCm ?_; refine zN ?_
    refine awp_cond_t rfl (by rw [allE_no h0]; simp [h0]) ?_
    refine zS ?_; refine zMv ?_; refine zAs ?_; refine zAs ?_; refine zAs ?_; refine zN ?_
    refine awp_unnil [2,3,4] 1 rfl zSelC zHeapA ?_
    refine awp_ret ?_; refine seqQ_r ?_
    exact post_is (.tmp rfl (.tmp rfl (.tmp rfl .nil))) zKeep rfl
theorem rLeast_con (c : List Mem) (hL : Lt c) : Con none Tryz.prog 31 [cv c] [] (Is (.tup [.sl 1 ((leastE Vd.splits c).map .i), .sl 1 ((leastE Vd.halts c).map .i), .i (allE c).2]) []) := by
  have hcap : capB = 140737488355328 := rfl
  have hp := pow4 hL.len
  refine con_intro Tryz.func31 rfl Tryz.call31 rfl ?_
  refine zS ?_
  refine aops_box rfl zFlat rfl rfl (fun b1 => ?_)
  refine zAs ?_; refine zAs ?_; refine zAs ?_; refine zN (zS ?_); refine zLd ?_
  refine aops_call_v zRc (rAll_con c hL) rfl rfl ?_
  refine zMv ?_
  refine zP (ap_extract rfl rfl) ?_
  refine zP (ap_extract rfl rfl) ?_
  refine zAs ?_; refine zAs ?_; refine zN ?_; refine awp_seq ?_; refine zS ?_; refine zMv ?_; refine zCm ?_; refine zN ?_
  refine zC (fun hc => ?_) fun hc => ?_
  · have h0 : ¬ checkE c 0 = 0 := fun e => of_neq_true hc (by rw [allE_ok e])
    rw [leastE_no h0, leastE_no h0]
    refine zS ?_; refine zMv ?_; refine zAs ?_; refine zAs ?_; refine zAs ?_; refine zN ?_
    refine awp_unnil [2,3,4] 1 rfl zSelC zHeapA ?_
    refine awp_ret ?_; refine seqQ_r ?_
    exact post_is (.tmp rfl (.tmp rfl (.tmp rfl .nil))) zKeep rfl
  · have h0 := allE_z (of_neq_false hc)
    rw [leastE_ok h0, leastE_ok h0]
    have hal : ((allV c).map vv).length = 2 ^ c.length := by rw [List.length_map, allV_len]
    rw [show (allE c).1 = allV c from by rw [allE_ok h0]]
    refine awp_skip ?_; refine seqQ_n ?_; refine zS ?_; refine zAs ?_; refine zAs ?_; refine zN ?_; refine awp_seq ?_; refine zS ?_; refine zMv ?_
    first | refine aops_len rfl rfl rfl rfl (fun _ => ?_) | refine zP (ap_len_arr rfl zUpd rfl) ?_ | refine zP (ap_len_nil rfl rfl) ?_
    refine zMv ?_; refine zN ?_; refine awp_block ?_
    refine awp_loop3 [19, 20] [] (fun (k : Nat) (v1 : Value) (v2 : Value) r => (7, .v v1) :: (8, .v v2) :: (21, .i (k : Int)) :: r) (fun (k : Nat) (v1 : Value) (v2 : Value) r => .arr v1 4 1 ((((allV c).take k).map Vd.splits).map .b) :: .arr v2 4 1 ((((allV c).take k).map Vd.halts).map .b) :: r) (fun (k : Nat) (v1 : Value) (v2 : Value) => k ≤ 2 ^ c.length) (fun (k : Nat) (v1 : Value) (v2 : Value) => 2 ^ c.length - k) (0) (.slice none 0 0) (.slice none 0 0) zRc (by omega) ((wk_own 4 1 rfl).trans ((wk_own 4 1 rfl).trans (wk zSub zKeep))) ?_
    intro k v1 v2 hk
    have hq1 : ((((allV c).take k).map Vd.splits).map D.b).length ≤ 16 := by rw [List.length_map, List.length_map, List.length_take, allV_len]; omega
    have hq2 : ((((allV c).take k).map Vd.halts).map D.b).length ≤ 16 := by rw [List.length_map, List.length_map, List.length_take, allV_len]; omega
    refine zS ?_; refine zCm ?_; refine zN ?_; refine awp_seq ?_
    refine zC (fun hc => ?_) fun hc => ?_
    · have hlt := of_decide_eq_true hc
      have hx' := getMap vv (allV_get (c := c) (k := k) (by omega))
      refine awp_skip ?_; refine seqQ_n ?_; refine awp_seq ?_; refine awp_block ?_; refine zS ?_
      first | refine zP (ap_index rfl rfl rfl rfl (by decide) rfl zAss) ?_ | refine zP (ap_index rfl rfl rfl rfl (by decide) (by omega) zAss) ?_ | refine zP (ap_index_own rfl rfl rfl rfl rfl (by first | omega | (simp only [List.length_map, List.length_set, avs_len]; omega))) ?_
      refine zLd ?_
      refine aops_alloc rfl zRc rfl rfl (fun b10 => ?_)
      refine zSt ?_; refine zN ?_
      refine awp_draw (Hm := [.arr v1 _ _ _, .arr v2 _ _ _]) zKr zSplit ?_
      refine zT 0 rfl (AP.ar (ap_move rfl)) ?_
      refine zTF 1 1 1 false ?_; refine zTL 2 ?_
      refine zT 5 rfl (AP.ar (ap_move rfl)) ?_
      refine zTF 6 2 1 false ?_; refine zTL 7 ?_
      refine aany_each2 3 8 zKr rfl (.none rfl) ?_ rfl (.none rfl) ?_
      rotate_left
      case' _ =>
        refine aops_lit (e := 4) (sz := 1) (by_ := 1) rfl rfl zRc rfl rfl rfl rfl ?_
        refine aops_nil ?_
        refine aany_one 3 zKr rfl (.none rfl) ?_
        refine aops_lit (e := 4) (sz := 1) (by_ := 1) rfl rfl zRc rfl rfl rfl rfl ?_
        refine aops_nil ?_
        refine aany_one 4 zKr rfl (.none rfl) ?_
        first | refine aops_append (e := 4) (sz := 1) (by_ := 1) rfl zUpd rfl rfl rfl rfl rfl (by simp only [List.length_cons, List.length_nil, List.length_append]; omega) (fun v29 hv29 => ?_) | refine aops_append_nil (e := 4) (sz := 1) (by_ := 1) rfl rfl rfl rfl rfl rfl (by simp only [List.length_cons, List.length_nil, List.length_append]; omega) (fun v29 hv29 => ?_)
        refine aops_nil ?_
        refine aany_one 9 zKr rfl (.none rfl) ?_
        first | refine aops_append (e := 4) (sz := 1) (by_ := 1) rfl zUpd rfl rfl rfl rfl rfl (by simp only [List.length_cons, List.length_nil, List.length_append]; omega) (fun v34 hv34 => ?_) | refine aops_append_nil (e := 4) (sz := 1) (by_ := 1) rfl rfl rfl rfl rfl rfl (by simp only [List.length_cons, List.length_nil, List.length_append]; omega) (fun v34 hv34 => ?_)
        refine aops_nil ?_
        refine zT 10 rfl (AP.ar (ap_assign rfl)) ?_
        refine zT 11 rfl (AP.ar (ap_assign rfl)) ?_
        refine aany_nil zKr ?_
      rotate_right
      case' _ =>
        refine aops_lit (e := 4) (sz := 1) (by_ := 1) rfl rfl zRc rfl rfl rfl rfl ?_
        refine aops_nil ?_
        refine aany_each2 4 8 zKr rfl (.none rfl) ?_ rfl (.none rfl) ?_
        rotate_left
        case' _ =>
          refine aops_lit (e := 4) (sz := 1) (by_ := 1) rfl rfl zRc rfl rfl rfl rfl ?_
          refine aops_nil ?_
          refine aany_one 4 zKr rfl (.none rfl) ?_
          first | refine aops_append (e := 4) (sz := 1) (by_ := 1) rfl zUpd rfl rfl rfl rfl rfl (by simp only [List.length_cons, List.length_nil, List.length_append]; omega) (fun v29 hv29 => ?_) | refine aops_append_nil (e := 4) (sz := 1) (by_ := 1) rfl rfl rfl rfl rfl rfl (by simp only [List.length_cons, List.length_nil, List.length_append]; omega) (fun v29 hv29 => ?_)
          refine aops_nil ?_
          refine aany_one 9 zKr rfl (.none rfl) ?_
          first | refine aops_append (e := 4) (sz := 1) (by_ := 1) rfl zUpd rfl rfl rfl rfl rfl (by simp only [List.length_cons, List.length_nil, List.length_append]; omega) (fun v34 hv34 => ?_) | refine aops_append_nil (e := 4) (sz := 1) (by_ := 1) rfl rfl rfl rfl rfl rfl (by simp only [List.length_cons, List.length_nil, List.length_append]; omega) (fun v34 hv34 => ?_)
          refine aops_nil ?_
          refine zT 10 rfl (AP.ar (ap_assign rfl)) ?_
          refine zT 11 rfl (AP.ar (ap_assign rfl)) ?_
          refine aany_nil zKr ?_
        rotate_right
        case' _ =>
          first | refine aops_append (e := 4) (sz := 1) (by_ := 1) rfl zUpd rfl rfl rfl rfl rfl (by simp only [List.length_cons, List.length_nil, List.length_append]; omega) (fun v29 hv29 => ?_) | refine aops_append_nil (e := 4) (sz := 1) (by_ := 1) rfl rfl rfl rfl rfl rfl (by simp only [List.length_cons, List.length_nil, List.length_append]; omega) (fun v29 hv29 => ?_)
          refine aops_nil ?_
          refine aany_one 8 zKr rfl (.none rfl) ?_
          refine aops_lit (e := 4) (sz := 1) (by_ := 1) rfl rfl zRc rfl rfl rfl rfl ?_
          refine aops_nil ?_
          refine aany_one 9 zKr rfl (.none rfl) ?_
          first | refine aops_append (e := 4) (sz := 1) (by_ := 1) rfl zUpd rfl rfl rfl rfl rfl (by simp only [List.length_cons, List.length_nil, List.length_append]; omega) (fun v34 hv34 => ?_) | refine aops_append_nil (e := 4) (sz := 1) (by_ := 1) rfl rfl rfl rfl rfl rfl (by simp only [List.length_cons, List.length_nil, List.length_append]; omega) (fun v34 hv34 => ?_)
          refine aops_nil ?_
          refine zT 10 rfl (AP.ar (ap_assign rfl)) ?_
          refine zT 11 rfl (AP.ar (ap_assign rfl)) ?_
          refine aany_nil zKr ?_
      all_goals (
        refine blockQ_n ?_; refine seqQ_n ?_; refine awp_region ?_; refine zAr ?_; refine zMv ?_; refine zN ?_
        rw [show (((allV c).take k).map Vd.splits).map D.b ++ [D.b (judgeC c k).splits] = (((allV c).take (k + 1)).map Vd.splits).map D.b from by rw [allV_take (by omega), List.map_append, List.map_append]; rfl, show (((allV c).take k).map Vd.halts).map D.b ++ [D.b (judgeC c k).halts] = (((allV c).take (k + 1)).map Vd.halts).map D.b from by rw [allV_take (by omega), List.map_append, List.map_append]; rfl]
        refine ⟨k + 1, _, _, by omega, by omega, wk zSub zKeep⟩
        )
    · have hge := of_decide_eq_false hc
      rw [show (allV c).take k = allV c from List.take_of_length_le (by rw [allV_len]; omega)]
      refine awp_freeze v1 [7,8] zRem zSelC zHeapA ?_
      refine awp_freeze v2 [7,8] zRem zSelC zHeapA ?_
      refine awp_exit ?_; refine seqQ_x ?_; refine seqQ_x ?_; refine blockQ_x rfl ?_; refine seqQ_n ?_; refine zS ?_; refine zMv ?_
      refine aops_call_v zRc (rleast_con Vd.splits c hL.len) rfl rfl ?_
      refine zMv ?_
      refine aops_call_v zRc (rleast_con Vd.halts c hL.len) rfl rfl ?_
      refine zAs ?_; refine zAs ?_; refine zAs ?_; refine zN ?_; refine awp_ret ?_
      exact post_is (.tmp rfl (.tmp rfl (.tmp rfl .nil))) zKeep (by rw [allE_ok h0]; rfl)
/-- A verdict of any sort. -/
def vi (n : Int) (sp h : Bool) (l r : Int) : D := .agg [.i n, .b sp, .b h, .i l, .i r]
def andi (a b : Int) : Int := IntKind.i64.wrap ((BitVec.ofInt IntKind.i64.bits a &&& BitVec.ofInt IntKind.i64.bits b).toNat : Int)
theorem judgeE_snd (c : List Mem) (s : Int) : (judgeE c s).2 = checkE c s := by
  unfold judgeE
  split
  · rename_i h; exact h.symm
  · rfl
/-- What Proves says of it. -/
def provesG (c : List Mem) (n : Int) (sp h : Bool) (l r : Int) : Bool :=
  if (judgeE c n).2 = 0 ∧ sp = (judgeE c n).1.splits ∧ h = (judgeE c n).1.halts then
    (if sp = true then decide (andi l r = 0) && (quorumV (delC c n.toNat) l && quorumV (delC c n.toNat) r) else decide (l = 0) && decide (r = 0))
  else false
theorem pg_1 {c : List Mem} {n : Int} {sp h : Bool} {l r : Int} (e : ¬ (judgeE c n).2 = 0) : provesG c n sp h l r = false := if_neg (fun x => e x.1)
theorem pg_2 {c : List Mem} {n : Int} {sp h : Bool} {l r : Int} (e : ¬ sp = (judgeE c n).1.splits) : provesG c n sp h l r = false := if_neg (fun x => e x.2.1)
theorem pg_3 {c : List Mem} {n : Int} {sp h : Bool} {l r : Int} (e : ¬ h = (judgeE c n).1.halts) : provesG c n sp h l r = false := if_neg (fun x => e x.2.2)
theorem pg_4 {c : List Mem} {n : Int} {sp h : Bool} {l r : Int} (h1 : (judgeE c n).2 = 0) (h2 : sp = (judgeE c n).1.splits) (h3 : h = (judgeE c n).1.halts) (h4 : sp = false) : provesG c n sp h l r = (decide (l = 0) && decide (r = 0)) := by
  unfold provesG; rw [if_pos ⟨h1, h2, h3⟩, if_neg (by rw [h4]; decide)]
theorem pg_5 {c : List Mem} {n : Int} {sp h : Bool} {l r : Int} (h1 : (judgeE c n).2 = 0) (h2 : sp = (judgeE c n).1.splits) (h3 : h = (judgeE c n).1.halts) (h4 : sp = true) : provesG c n sp h l r = (decide (andi l r = 0) && (quorumV (delC c n.toNat) l && quorumV (delC c n.toNat) r)) := by
  unfold provesG; rw [if_pos ⟨h1, h2, h3⟩, if_pos h4]
set_option maxHeartbeats 1000000 in
theorem gProves_con (c : List Mem) (hL : Lt c) (n : Int) (sp h : Bool) (l r : Int) : Con none Tryz.prog 41 [cv c, vi n sp h l r] [] (Is (.b (provesG c n sp h l r)) []) := by
  have hcap : capB = 140737488355328 := rfl
  have hp := pow4 hL.len
  refine con_intro Tryz.func41 rfl Tryz.call41 rfl ?_
  refine zS ?_
  refine aops_box rfl zFlat rfl rfl (fun b2 => ?_)
  refine aops_box rfl zFlat rfl rfl (fun b3 => ?_)
  refine zAs ?_; refine zN (zS ?_); refine zLd ?_; refine zF 0 1 false ?_; refine zL1 ?_
  refine aops_call_v zRc (gJudge_con c hL n) rfl rfl ?_
  refine zMv ?_
  refine zP (ap_extract rfl rfl) ?_
  refine zP (ap_extract rfl rfl) ?_
  refine aops_alloc rfl zRc rfl rfl (fun b5 => ?_)
  refine zSt ?_; refine zAs ?_; refine zN ?_; refine awp_seq ?_; refine zS ?_; refine zMv ?_; refine zCm ?_; refine zMv ?_
  all_goals first | (refine zY ?_; refine zF 1 1 false ?_) | refine zU ?_ | refine zNf ?_ | (refine zGf (fun hg => ?_) fun hg => ?_; case' _ => refine zF 1 1 false ?_)
  all_goals first | (refine zY ?_; refine zL1 ?_) | refine zU ?_ | refine zNf ?_ | (refine zGf (fun hg => ?_) fun hg => ?_; case' _ => refine zL1 ?_)
  all_goals first | (refine zY ?_; refine zF 1 1 false ?_) | refine zU ?_ | refine zNf ?_ | (refine zGf (fun hg => ?_) fun hg => ?_; case' _ => refine zF 1 1 false ?_)
  all_goals first | (refine zY ?_; refine zL1 ?_) | refine zU ?_ | refine zNf ?_ | (refine zGf (fun hg => ?_) fun hg => ?_; case' _ => refine zL1 ?_)
  all_goals first | (refine zY ?_; refine zP (ap_neb rfl rfl rfl) ?_) | refine zU ?_ | refine zNf ?_ | (refine zGf (fun hg => ?_) fun hg => ?_; case' _ => refine zP (ap_neb rfl rfl rfl) ?_)
  all_goals refine zPk ?_
  all_goals refine zMv ?_
  all_goals first | (refine zY ?_; refine zF 2 1 false ?_) | refine zU ?_ | refine zNf ?_ | (refine zGf (fun hg => ?_) fun hg => ?_; case' _ => refine zF 2 1 false ?_)
  all_goals first | (refine zY ?_; refine zL1 ?_) | refine zU ?_ | refine zNf ?_ | (refine zGf (fun hg => ?_) fun hg => ?_; case' _ => refine zL1 ?_)
  all_goals first | (refine zY ?_; refine zF 2 1 false ?_) | refine zU ?_ | refine zNf ?_ | (refine zGf (fun hg => ?_) fun hg => ?_; case' _ => refine zF 2 1 false ?_)
  all_goals first | (refine zY ?_; refine zL1 ?_) | refine zU ?_ | refine zNf ?_ | (refine zGf (fun hg => ?_) fun hg => ?_; case' _ => refine zL1 ?_)
  all_goals first | (refine zY ?_; refine zP (ap_neb rfl rfl rfl) ?_) | refine zU ?_ | refine zNf ?_ | (refine zGf (fun hg => ?_) fun hg => ?_; case' _ => refine zP (ap_neb rfl rfl rfl) ?_)
  all_goals refine zPk ?_
  all_goals (
    refine zN ?_
    refine zC (fun hc => ?_) fun hc => ?_
    · first
      | (exact absurd hc (by decide))
      | (refine awp_seq ?_
         refine awp_region ?_; refine zAs ?_; refine zN ?_; refine awp_ret ?_; refine seqQ_r ?_
         refine post_is (.tmp rfl .nil) zKeep ?_
         first
         | (have h0 : (!decide ((judgeE c n).2 = 0)) = true := (by with_reducible assumption); rw [pg_1 (of_neq_true h0)]; rfl)
         | (have h0 : (sp != (judgeE c n).1.splits) = true := (by with_reducible assumption); rw [pg_2 (neb_t h0)]; rfl)
         | (have h0 : (h != (judgeE c n).1.halts) = true := (by with_reducible assumption); rw [pg_3 (neb_t h0)]; rfl)
        )
    · first
      | (exact absurd hc (by decide))
      | (have h1 : (judgeE c n).2 = 0 := of_neq_false (by with_reducible assumption)
         have h2 : sp = (judgeE c n).1.splits := neb_f (by with_reducible assumption)
         have h3 : h = (judgeE c n).1.halts := neb_f (by with_reducible assumption)
         refine awp_skip ?_; refine seqQ_n ?_; refine awp_seq ?_; refine zS ?_; refine zF 1 1 false ?_; refine zL1 ?_; refine zNo ?_; refine zN ?_
         refine zC (fun hc => ?_) fun hc => ?_
         · have h4 : sp = false := not_t hc
           refine zS ?_; refine zF 3 1 false ?_; refine zL1 ?_; refine zCm ?_; refine zMv ?_
           all_goals first | (refine zY ?_; refine zF 4 1 false ?_) | refine zU ?_ | refine zNt ?_ | (refine zGt (fun hg => ?_) fun hg => ?_; case' _ => refine zF 4 1 false ?_)
           all_goals first | (refine zY ?_; refine zL1 ?_) | refine zU ?_ | refine zNt ?_ | (refine zGt (fun hg => ?_) fun hg => ?_; case' _ => refine zL1 ?_)
           all_goals first | (refine zY ?_; refine zCm ?_) | refine zU ?_ | refine zNt ?_ | (refine zGt (fun hg => ?_) fun hg => ?_; case' _ => refine zCm ?_)
           all_goals refine zPk ?_
           all_goals refine zAs ?_
           all_goals (
             refine zN ?_; refine awp_ret ?_; refine seqQ_r ?_
             refine post_is (.tmp rfl .nil) zKeep ?_
             rw [pg_4 h1 h2 h3 h4]
             first
             | (simp_all [resD]; done)
             )
         · have h4 : sp = true := not_f hc
           obtain ⟨hok, m, rfl, hs⟩ := check_ok hL ((judgeE_snd c n).symm.trans h1)
           refine awp_skip ?_; refine seqQ_n ?_; refine zS ?_; refine zLd ?_; refine zF 0 1 false ?_; refine zL1 ?_
           refine aops_call_v zRc (pdel_con c hok.l10 m (by omega) hok.s2 hok.decl hok.nn) rfl rfl ?_
           refine aops_alloc rfl zRc rfl rfl (fun b7 => ?_)
           refine zSt ?_; refine zN (zS ?_); refine zF 3 1 false ?_; refine zL1 ?_; refine zF 4 1 false ?_; refine zL1 ?_
           refine zP (ap_andw rfl rfl) ?_
           refine zCm ?_; refine zMv ?_
           all_goals first | (refine zY ?_; refine zLd ?_) | refine zU ?_ | refine zNt ?_ | (refine zGt (fun hg => ?_) fun hg => ?_; case' _ => refine zLd ?_)
           all_goals first | (refine zY ?_; refine zF 3 1 false ?_) | refine zU ?_ | refine zNt ?_ | (refine zGt (fun hg => ?_) fun hg => ?_; case' _ => refine zF 3 1 false ?_)
           all_goals first | (refine zY ?_; refine zL1 ?_) | refine zU ?_ | refine zNt ?_ | (refine zGt (fun hg => ?_) fun hg => ?_; case' _ => refine zL1 ?_)
           all_goals first | (refine zY ?_; refine aops_call_b zRc (quorumV_con (delC c m) l) rfl rfl (fun c56 hc56 => ?_)) | refine zU ?_ | refine zNt ?_ | (refine zGt (fun hg => ?_) fun hg => ?_; case' _ => refine aops_call_b zRc (quorumV_con (delC c m) l) rfl rfl (fun c56 hc56 => ?_))
           all_goals refine zPk ?_
           all_goals refine zMv ?_
           all_goals first | (refine zY ?_; refine zLd ?_) | refine zU ?_ | refine zNt ?_ | (refine zGt (fun hg => ?_) fun hg => ?_; case' _ => refine zLd ?_)
           all_goals first | (refine zY ?_; refine zF 4 1 false ?_) | refine zU ?_ | refine zNt ?_ | (refine zGt (fun hg => ?_) fun hg => ?_; case' _ => refine zF 4 1 false ?_)
           all_goals first | (refine zY ?_; refine zL1 ?_) | refine zU ?_ | refine zNt ?_ | (refine zGt (fun hg => ?_) fun hg => ?_; case' _ => refine zL1 ?_)
           all_goals first | (refine zY ?_; refine aops_call_b zRc (quorumV_con (delC c m) r) rfl rfl (fun c62 hc62 => ?_)) | refine zU ?_ | refine zNt ?_ | (refine zGt (fun hg => ?_) fun hg => ?_; case' _ => refine aops_call_b zRc (quorumV_con (delC c m) r) rfl rfl (fun c62 hc62 => ?_))
           all_goals refine zPk ?_
           all_goals refine zAs ?_
           all_goals (
             refine zN ?_; refine awp_ret ?_
             refine post_is (.tmp rfl .nil) zKeep ?_
             rw [pg_5 h1 h2 h3 h4, Int.toNat_natCast]
             unfold andi
             first
             | (simp_all [resD]; done)
             )
        )
    )
set_option maxHeartbeats 1000000 in
theorem rProves_con (c : List Mem) (hL : Lt c) (n : Int) (sp h : Bool) (l r : Int) : Con none Tryz.prog 42 [cv c, vi n sp h l r] [] (Is (.b (provesG c n sp h l r)) []) := by
  have hcap : capB = 140737488355328 := rfl
  have hp := pow4 hL.len
  refine con_intro Tryz.func42 rfl Tryz.call42 rfl ?_
  refine zS ?_
  refine aops_box rfl zFlat rfl rfl (fun b2 => ?_)
  refine aops_box rfl zFlat rfl rfl (fun b3 => ?_)
  refine zAs ?_; refine zN (zS ?_); refine zLd ?_; refine zF 0 1 false ?_; refine zL1 ?_
  refine aops_call_v zRc (rJudge_con c hL n) rfl rfl ?_
  refine zMv ?_
  refine zP (ap_extract rfl rfl) ?_
  refine zP (ap_extract rfl rfl) ?_
  refine aops_alloc rfl zRc rfl rfl (fun b5 => ?_)
  refine zSt ?_; refine zAs ?_; refine zN ?_; refine awp_seq ?_; refine zS ?_; refine zMv ?_; refine zCm ?_; refine zMv ?_
  all_goals first | (refine zY ?_; refine zF 1 1 false ?_) | refine zU ?_ | refine zNf ?_ | (refine zGf (fun hg => ?_) fun hg => ?_; case' _ => refine zF 1 1 false ?_)
  all_goals first | (refine zY ?_; refine zL1 ?_) | refine zU ?_ | refine zNf ?_ | (refine zGf (fun hg => ?_) fun hg => ?_; case' _ => refine zL1 ?_)
  all_goals first | (refine zY ?_; refine zF 1 1 false ?_) | refine zU ?_ | refine zNf ?_ | (refine zGf (fun hg => ?_) fun hg => ?_; case' _ => refine zF 1 1 false ?_)
  all_goals first | (refine zY ?_; refine zL1 ?_) | refine zU ?_ | refine zNf ?_ | (refine zGf (fun hg => ?_) fun hg => ?_; case' _ => refine zL1 ?_)
  all_goals first | (refine zY ?_; refine zP (ap_neb rfl rfl rfl) ?_) | refine zU ?_ | refine zNf ?_ | (refine zGf (fun hg => ?_) fun hg => ?_; case' _ => refine zP (ap_neb rfl rfl rfl) ?_)
  all_goals refine zPk ?_
  all_goals refine zMv ?_
  all_goals first | (refine zY ?_; refine zF 2 1 false ?_) | refine zU ?_ | refine zNf ?_ | (refine zGf (fun hg => ?_) fun hg => ?_; case' _ => refine zF 2 1 false ?_)
  all_goals first | (refine zY ?_; refine zL1 ?_) | refine zU ?_ | refine zNf ?_ | (refine zGf (fun hg => ?_) fun hg => ?_; case' _ => refine zL1 ?_)
  all_goals first | (refine zY ?_; refine zF 2 1 false ?_) | refine zU ?_ | refine zNf ?_ | (refine zGf (fun hg => ?_) fun hg => ?_; case' _ => refine zF 2 1 false ?_)
  all_goals first | (refine zY ?_; refine zL1 ?_) | refine zU ?_ | refine zNf ?_ | (refine zGf (fun hg => ?_) fun hg => ?_; case' _ => refine zL1 ?_)
  all_goals first | (refine zY ?_; refine zP (ap_neb rfl rfl rfl) ?_) | refine zU ?_ | refine zNf ?_ | (refine zGf (fun hg => ?_) fun hg => ?_; case' _ => refine zP (ap_neb rfl rfl rfl) ?_)
  all_goals refine zPk ?_
  all_goals (
    refine zN ?_
    refine zC (fun hc => ?_) fun hc => ?_
    · first
      | (exact absurd hc (by decide))
      | (refine awp_seq ?_
         refine awp_region ?_; refine zAs ?_; refine zN ?_; refine awp_ret ?_; refine seqQ_r ?_
         refine post_is (.tmp rfl .nil) zKeep ?_
         first
         | (have h0 : (!decide ((judgeE c n).2 = 0)) = true := (by with_reducible assumption); rw [pg_1 (of_neq_true h0)]; rfl)
         | (have h0 : (sp != (judgeE c n).1.splits) = true := (by with_reducible assumption); rw [pg_2 (neb_t h0)]; rfl)
         | (have h0 : (h != (judgeE c n).1.halts) = true := (by with_reducible assumption); rw [pg_3 (neb_t h0)]; rfl)
        )
    · first
      | (exact absurd hc (by decide))
      | (have h1 : (judgeE c n).2 = 0 := of_neq_false (by with_reducible assumption)
         have h2 : sp = (judgeE c n).1.splits := neb_f (by with_reducible assumption)
         have h3 : h = (judgeE c n).1.halts := neb_f (by with_reducible assumption)
         refine awp_skip ?_; refine seqQ_n ?_; refine awp_seq ?_; refine zS ?_; refine zF 1 1 false ?_; refine zL1 ?_; refine zNo ?_; refine zN ?_
         refine zC (fun hc => ?_) fun hc => ?_
         · have h4 : sp = false := not_t hc
           refine zS ?_; refine zF 3 1 false ?_; refine zL1 ?_; refine zCm ?_; refine zMv ?_
           all_goals first | (refine zY ?_; refine zF 4 1 false ?_) | refine zU ?_ | refine zNt ?_ | (refine zGt (fun hg => ?_) fun hg => ?_; case' _ => refine zF 4 1 false ?_)
           all_goals first | (refine zY ?_; refine zL1 ?_) | refine zU ?_ | refine zNt ?_ | (refine zGt (fun hg => ?_) fun hg => ?_; case' _ => refine zL1 ?_)
           all_goals first | (refine zY ?_; refine zCm ?_) | refine zU ?_ | refine zNt ?_ | (refine zGt (fun hg => ?_) fun hg => ?_; case' _ => refine zCm ?_)
           all_goals refine zPk ?_
           all_goals refine zAs ?_
           all_goals (
             refine zN ?_; refine awp_ret ?_; refine seqQ_r ?_
             refine post_is (.tmp rfl .nil) zKeep ?_
             rw [pg_4 h1 h2 h3 h4]
             first
             | (simp_all [resD]; done)
             )
         · have h4 : sp = true := not_f hc
           obtain ⟨hok, m, rfl, hs⟩ := check_ok hL ((judgeE_snd c n).symm.trans h1)
           refine awp_skip ?_; refine seqQ_n ?_; refine zS ?_; refine zLd ?_; refine zF 0 1 false ?_; refine zL1 ?_
           refine aops_call_v zRc (del_con c hok.l10 m (by omega) hok.s2) rfl rfl ?_
           refine aops_alloc rfl zRc rfl rfl (fun b7 => ?_)
           refine zSt ?_; refine zN (zS ?_); refine zF 3 1 false ?_; refine zL1 ?_; refine zF 4 1 false ?_; refine zL1 ?_
           refine zP (ap_andw rfl rfl) ?_
           refine zCm ?_; refine zMv ?_
           all_goals first | (refine zY ?_; refine zLd ?_) | refine zU ?_ | refine zNt ?_ | (refine zGt (fun hg => ?_) fun hg => ?_; case' _ => refine zLd ?_)
           all_goals first | (refine zY ?_; refine zF 3 1 false ?_) | refine zU ?_ | refine zNt ?_ | (refine zGt (fun hg => ?_) fun hg => ?_; case' _ => refine zF 3 1 false ?_)
           all_goals first | (refine zY ?_; refine zL1 ?_) | refine zU ?_ | refine zNt ?_ | (refine zGt (fun hg => ?_) fun hg => ?_; case' _ => refine zL1 ?_)
           all_goals first | (refine zY ?_; refine aops_call_b zRc (rquorum_con (delC c m) l) rfl rfl (fun c56 hc56 => ?_)) | refine zU ?_ | refine zNt ?_ | (refine zGt (fun hg => ?_) fun hg => ?_; case' _ => refine aops_call_b zRc (rquorum_con (delC c m) l) rfl rfl (fun c56 hc56 => ?_))
           all_goals refine zPk ?_
           all_goals refine zMv ?_
           all_goals first | (refine zY ?_; refine zLd ?_) | refine zU ?_ | refine zNt ?_ | (refine zGt (fun hg => ?_) fun hg => ?_; case' _ => refine zLd ?_)
           all_goals first | (refine zY ?_; refine zF 4 1 false ?_) | refine zU ?_ | refine zNt ?_ | (refine zGt (fun hg => ?_) fun hg => ?_; case' _ => refine zF 4 1 false ?_)
           all_goals first | (refine zY ?_; refine zL1 ?_) | refine zU ?_ | refine zNt ?_ | (refine zGt (fun hg => ?_) fun hg => ?_; case' _ => refine zL1 ?_)
           all_goals first | (refine zY ?_; refine aops_call_b zRc (rquorum_con (delC c m) r) rfl rfl (fun c62 hc62 => ?_)) | refine zU ?_ | refine zNt ?_ | (refine zGt (fun hg => ?_) fun hg => ?_; case' _ => refine aops_call_b zRc (rquorum_con (delC c m) r) rfl rfl (fun c62 hc62 => ?_))
           all_goals refine zPk ?_
           all_goals refine zAs ?_
           all_goals (
             refine zN ?_; refine awp_ret ?_
             refine post_is (.tmp rfl .nil) zKeep ?_
             rw [pg_5 h1 h2 h3 h4, Int.toNat_natCast]
             unfold andi
             first
             | (simp_all [resD]; done)
             )
        )
    )
/-- A step of a script, of the sorts that the analyser makes. -/
structure Stp where
  kind : Int
  node : Int
  to : Int
  slot : Int
  count : Int
  val : ByteArray
  lk : Int
  ls : Int
  en : Int
  es : Int
  eq : Int
  th : Int
  tn : List Int
  ek : Int
  bn : Int
  bv : ByteArray
  lo : Int
  hi : Int
  parts : List Int
def evS (x : Stp) : D := .agg [.i x.en, .i x.es, .i x.eq, .i x.th, .sl 1 (x.tn.map .i), .sl 3 [], .i x.ek, .i x.bn, .v (.string x.bv), .i 0, .v (.string ⟨#[]⟩), .i 0, .v (.string ⟨#[]⟩), .i x.lo, .i x.hi]
def nm0 : D := .agg [.i 0, .i 0, .i 0, .sl 1 [], .sl 3 [], .sl 1 [], .sl 1 []]
def ltS (x : Stp) : D := .agg [.i x.lk, .i x.ls, .i 0, .i 0, .i 0, .sl 1 [], .sl 3 [], .sl 1 [], .sl 1 [], .i x.en, .i x.es, .i x.eq, .i x.th, .sl 1 (x.tn.map .i), .sl 3 [], .i x.ek, .i x.bn, .v (.string x.bv), .i 0, .v (.string ⟨#[]⟩), .i 0, .v (.string ⟨#[]⟩), .i x.lo, .i x.hi]
def stv (x : Stp) : D := .agg [.i x.kind, .i x.node, .i x.to, .i x.slot, .i x.count, .v (.string x.val), .i 0, .sl 1 [], .sl 3 [], .i x.lk, .i x.ls, .i 0, .i 0, .i 0, .sl 1 [], .sl 3 [], .sl 1 [], .sl 1 [], .i x.en, .i x.es, .i x.eq, .i x.th, .sl 1 (x.tn.map .i), .sl 3 [], .i x.ek, .i x.bn, .v (.string x.bv), .i 0, .v (.string ⟨#[]⟩), .i 0, .v (.string ⟨#[]⟩), .i x.lo, .i x.hi, .sl 1 (x.parts.map .i)]
theorem same_any (t : Trust) : Con none Tryz.prog 96 [av t, av t] [] (Is (.b true) []) := by
  have h := rsame_con t t
  rwa [same_refl] at h
theorem eqB (a : Int) (s : ByteArray) : EqS Tryz.prog 53 #[.int .i64 a, .string s] #[.int .i64 a, .string s] true := by
  have u3 := Tryz.underlying3
  have a3 := Tryz.isAgg3
  have z3 := Tryz.sizeOf3
  have u4 := Tryz.underlying9
  have a4 := Tryz.isAgg9
  have z4 := Tryz.sizeOf9
  have hS : Tryz.prog.underlying 53 = some (.struct (Tryz.prog.fieldsOf 53)) := by kernel_rfl
  have hp : Tryz.prog.stoodInHeld 53 = false := by kernel_rfl
  refine ⟨by kernel_rfl, fun w => ⟨?_, ?_⟩⟩
  · rw [show (10000 : Nat) = 9999 + 1 from rfl, run_equalIn_agg w 9999 53 _ _ hS hp]
    simp only [Program.fieldsOf, Tryz.underlying53]
    go_simp
  · rw [show (10000 : Nat) = 9999 + 1 from rfl, events_equalIn_struct w 9999 53 _ _ _ hS hp]
    simp only [Program.fieldsOf, Tryz.underlying53]
    go_simp
    simp only [show (9999 : Nat) = 9998 + 1 from rfl, events_equalIn_int _ _ _ _ _ _ _ _ u3, events_equalIn_string _ _ _ _ _ _ u4]
theorem values0_con : Con none Tryz.prog 229 [.sl 1 [], .sl 1 []] [] (Is (.b true) []) := by
  have hcap : capB = 140737488355328 := rfl
  refine con_intro Tryz.func229 rfl Tryz.call229 rfl ?_
  refine zS ?_; refine zAs ?_; refine zN ?_; refine awp_seq ?_; refine zS ?_; refine zMv ?_
  first | refine aops_len rfl rfl rfl rfl (fun _ => ?_) | refine zP (ap_len_arr rfl zUpd rfl) ?_ | refine zP (ap_len_nil rfl rfl) ?_
  refine zMv ?_
  first | refine aops_len rfl rfl rfl rfl (fun _ => ?_) | refine zP (ap_len_arr rfl zUpd rfl) ?_ | refine zP (ap_len_nil rfl rfl) ?_
  refine zCm ?_; refine zN ?_
  refine awp_cond_f rfl (by simp) ?_
  refine awp_skip ?_; refine seqQ_n ?_; refine awp_seq ?_; refine zS ?_; refine zMv ?_
  first | refine aops_len rfl rfl rfl rfl (fun _ => ?_) | refine zP (ap_len_arr rfl zUpd rfl) ?_ | refine zP (ap_len_nil rfl rfl) ?_
  refine zMv ?_; refine zN ?_; refine awp_block ?_
  refine awp_loop1 [0, 1, 12] [] (fun (k : Nat) r => (13, .i (k : Int)) :: r) (fun (k : Nat) r => r) (fun (k : Nat) => k = 0) (fun (k : Nat) => k) (0) zRc rfl (wk zSub zKeep) ?_
  intro k hk
  refine zS ?_; refine zCm ?_; refine zN ?_; refine awp_seq ?_
  refine awp_cond_f rfl (by refine decide_eq_false ?_; simp) ?_
  refine awp_exit ?_; refine seqQ_x ?_; refine seqQ_x ?_; refine blockQ_x rfl ?_; refine seqQ_n ?_; refine zS ?_; refine zAs ?_; refine zN ?_; refine awp_ret ?_
  exact post_is (.tmp rfl .nil) zKeep rfl
theorem nom0_con : Con none Tryz.prog 199 [nm0, nm0] [] (Is (.b true) []) := by
  have hcap : capB = 140737488355328 := rfl
  refine con_intro Tryz.func199 rfl Tryz.call199 rfl ?_
  refine zS ?_
  refine aops_box rfl zFlat rfl rfl (fun b2 => ?_)
  refine aops_box rfl zFlat rfl rfl (fun b3 => ?_)
  refine zAs ?_; refine zN (zS ?_); refine zF 0 1 false ?_; refine zL1 ?_; refine zF 0 1 false ?_; refine zL1 ?_; refine zCm ?_; refine zMv ?_
  all_goals first | (refine zY ?_; refine zF 1 1 false ?_) | refine zU ?_ | refine zNt ?_ | (refine zGt (fun hg => ?_) fun hg => ?_; case' _ => refine zF 1 1 false ?_)
  all_goals first | (refine zY ?_; refine zL1 ?_) | refine zU ?_ | refine zNt ?_ | (refine zGt (fun hg => ?_) fun hg => ?_; case' _ => refine zL1 ?_)
  all_goals first | (refine zY ?_; refine zF 1 1 false ?_) | refine zU ?_ | refine zNt ?_ | (refine zGt (fun hg => ?_) fun hg => ?_; case' _ => refine zF 1 1 false ?_)
  all_goals first | (refine zY ?_; refine zL1 ?_) | refine zU ?_ | refine zNt ?_ | (refine zGt (fun hg => ?_) fun hg => ?_; case' _ => refine zL1 ?_)
  all_goals first | (refine zY ?_; refine zCm ?_) | refine zU ?_ | refine zNt ?_ | (refine zGt (fun hg => ?_) fun hg => ?_; case' _ => refine zCm ?_)
  all_goals refine zPk ?_
  all_goals refine zMv ?_
  all_goals first | (refine zY ?_; refine zF 2 3 true ?_) | refine zU ?_ | refine zNt ?_ | (refine zGt (fun hg => ?_) fun hg => ?_; case' _ => refine zF 2 3 true ?_)
  all_goals first | (refine zY ?_; refine zLd ?_) | refine zU ?_ | refine zNt ?_ | (refine zGt (fun hg => ?_) fun hg => ?_; case' _ => refine zLd ?_)
  all_goals first | (refine zY ?_; refine zF 2 3 true ?_) | refine zU ?_ | refine zNt ?_ | (refine zGt (fun hg => ?_) fun hg => ?_; case' _ => refine zF 2 3 true ?_)
  all_goals first | (refine zY ?_; refine zLd ?_) | refine zU ?_ | refine zNt ?_ | (refine zGt (fun hg => ?_) fun hg => ?_; case' _ => refine zLd ?_)
  all_goals first | (refine zY ?_; refine aops_call_v zRc (same_any Trust.none) rfl rfl ?_) | refine zU ?_ | refine zNt ?_ | (refine zGt (fun hg => ?_) fun hg => ?_; case' _ => refine aops_call_v zRc (same_any Trust.none) rfl rfl ?_)
  all_goals refine zPk ?_
  all_goals refine zMv ?_
  all_goals first | (refine zY ?_; refine zF 5 1 false ?_) | refine zU ?_ | refine zNt ?_ | (refine zGt (fun hg => ?_) fun hg => ?_; case' _ => refine zF 5 1 false ?_)
  all_goals first | (refine zY ?_; refine zL1 ?_) | refine zU ?_ | refine zNt ?_ | (refine zGt (fun hg => ?_) fun hg => ?_; case' _ => refine zL1 ?_)
  all_goals first | (refine zY ?_; refine zF 5 1 false ?_) | refine zU ?_ | refine zNt ?_ | (refine zGt (fun hg => ?_) fun hg => ?_; case' _ => refine zF 5 1 false ?_)
  all_goals first | (refine zY ?_; refine zL1 ?_) | refine zU ?_ | refine zNt ?_ | (refine zGt (fun hg => ?_) fun hg => ?_; case' _ => refine zL1 ?_)
  all_goals first | (refine zY ?_; refine aops_call_v zRc (values0_con) rfl rfl ?_) | refine zU ?_ | refine zNt ?_ | (refine zGt (fun hg => ?_) fun hg => ?_; case' _ => refine aops_call_v zRc (values0_con) rfl rfl ?_)
  all_goals refine zPk ?_
  all_goals refine zMv ?_
  all_goals first | (refine zY ?_; refine zF 6 1 false ?_) | refine zU ?_ | refine zNt ?_ | (refine zGt (fun hg => ?_) fun hg => ?_; case' _ => refine zF 6 1 false ?_)
  all_goals first | (refine zY ?_; refine zL1 ?_) | refine zU ?_ | refine zNt ?_ | (refine zGt (fun hg => ?_) fun hg => ?_; case' _ => refine zL1 ?_)
  all_goals first | (refine zY ?_; refine zF 6 1 false ?_) | refine zU ?_ | refine zNt ?_ | (refine zGt (fun hg => ?_) fun hg => ?_; case' _ => refine zF 6 1 false ?_)
  all_goals first | (refine zY ?_; refine zL1 ?_) | refine zU ?_ | refine zNt ?_ | (refine zGt (fun hg => ?_) fun hg => ?_; case' _ => refine zL1 ?_)
  all_goals first | (refine zY ?_; refine aops_call_v zRc (values0_con) rfl rfl ?_) | refine zU ?_ | refine zNt ?_ | (refine zGt (fun hg => ?_) fun hg => ?_; case' _ => refine aops_call_v zRc (values0_con) rfl rfl ?_)
  all_goals refine zPk ?_
  all_goals refine zAs ?_
  all_goals (
    refine zN ?_; refine awp_ret ?_
    exact post_is (.tmp rfl .nil) zKeep rfl
    )
theorem same24_con (x : Stp) : Con none Tryz.prog 198 [evS x, evS x] [] (Is (.b true) []) := by
  have hcap : capB = 140737488355328 := rfl
  refine con_intro Tryz.func198 rfl Tryz.call198 rfl ?_
  refine zS ?_
  refine aops_box rfl zFlat rfl rfl (fun b2 => ?_)
  refine aops_box rfl zFlat rfl rfl (fun b3 => ?_)
  refine zAs ?_; refine zN (zS ?_); refine zF 0 1 false ?_; refine zL1 ?_; refine zF 0 1 false ?_; refine zL1 ?_; refine zCm ?_; refine zMv ?_
  all_goals first | (refine zY ?_; refine zF 1 1 false ?_) | refine zU ?_ | refine zNt ?_ | (refine zGt (fun hg => ?_) fun hg => ?_; case' _ => refine zF 1 1 false ?_)
  all_goals first | (refine zY ?_; refine zL1 ?_) | refine zU ?_ | refine zNt ?_ | (refine zGt (fun hg => ?_) fun hg => ?_; case' _ => refine zL1 ?_)
  all_goals first | (refine zY ?_; refine zF 1 1 false ?_) | refine zU ?_ | refine zNt ?_ | (refine zGt (fun hg => ?_) fun hg => ?_; case' _ => refine zF 1 1 false ?_)
  all_goals first | (refine zY ?_; refine zL1 ?_) | refine zU ?_ | refine zNt ?_ | (refine zGt (fun hg => ?_) fun hg => ?_; case' _ => refine zL1 ?_)
  all_goals first | (refine zY ?_; refine zCm ?_) | refine zU ?_ | refine zNt ?_ | (refine zGt (fun hg => ?_) fun hg => ?_; case' _ => refine zCm ?_)
  all_goals refine zPk ?_
  all_goals refine zMv ?_
  all_goals first | (refine zY ?_; refine zF 2 1 false ?_) | refine zU ?_ | refine zNt ?_ | (refine zGt (fun hg => ?_) fun hg => ?_; case' _ => refine zF 2 1 false ?_)
  all_goals first | (refine zY ?_; refine zL1 ?_) | refine zU ?_ | refine zNt ?_ | (refine zGt (fun hg => ?_) fun hg => ?_; case' _ => refine zL1 ?_)
  all_goals first | (refine zY ?_; refine zF 2 1 false ?_) | refine zU ?_ | refine zNt ?_ | (refine zGt (fun hg => ?_) fun hg => ?_; case' _ => refine zF 2 1 false ?_)
  all_goals first | (refine zY ?_; refine zL1 ?_) | refine zU ?_ | refine zNt ?_ | (refine zGt (fun hg => ?_) fun hg => ?_; case' _ => refine zL1 ?_)
  all_goals first | (refine zY ?_; refine zCm ?_) | refine zU ?_ | refine zNt ?_ | (refine zGt (fun hg => ?_) fun hg => ?_; case' _ => refine zCm ?_)
  all_goals refine zPk ?_
  all_goals refine zMv ?_
  all_goals first | (refine zY ?_; refine zF 3 3 true ?_) | refine zU ?_ | refine zNt ?_ | (refine zGt (fun hg => ?_) fun hg => ?_; case' _ => refine zF 3 3 true ?_)
  all_goals first | (refine zY ?_; refine zLd ?_) | refine zU ?_ | refine zNt ?_ | (refine zGt (fun hg => ?_) fun hg => ?_; case' _ => refine zLd ?_)
  all_goals first | (refine zY ?_; refine zF 3 3 true ?_) | refine zU ?_ | refine zNt ?_ | (refine zGt (fun hg => ?_) fun hg => ?_; case' _ => refine zF 3 3 true ?_)
  all_goals first | (refine zY ?_; refine zLd ?_) | refine zU ?_ | refine zNt ?_ | (refine zGt (fun hg => ?_) fun hg => ?_; case' _ => refine zLd ?_)
  all_goals first | (refine zY ?_; refine aops_call_v zRc (same_any (.mk x.th x.tn [])) rfl rfl ?_) | refine zU ?_ | refine zNt ?_ | (refine zGt (fun hg => ?_) fun hg => ?_; case' _ => refine aops_call_v zRc (same_any (.mk x.th x.tn [])) rfl rfl ?_)
  all_goals refine zPk ?_
  all_goals refine zMv ?_
  all_goals first | (refine zY ?_; refine zF 6 1 false ?_) | refine zU ?_ | refine zNt ?_ | (refine zGt (fun hg => ?_) fun hg => ?_; case' _ => refine zF 6 1 false ?_)
  all_goals first | (refine zY ?_; refine zL1 ?_) | refine zU ?_ | refine zNt ?_ | (refine zGt (fun hg => ?_) fun hg => ?_; case' _ => refine zL1 ?_)
  all_goals first | (refine zY ?_; refine zF 6 1 false ?_) | refine zU ?_ | refine zNt ?_ | (refine zGt (fun hg => ?_) fun hg => ?_; case' _ => refine zF 6 1 false ?_)
  all_goals first | (refine zY ?_; refine zL1 ?_) | refine zU ?_ | refine zNt ?_ | (refine zGt (fun hg => ?_) fun hg => ?_; case' _ => refine zL1 ?_)
  all_goals first | (refine zY ?_; refine zCm ?_) | refine zU ?_ | refine zNt ?_ | (refine zGt (fun hg => ?_) fun hg => ?_; case' _ => refine zCm ?_)
  all_goals refine zPk ?_
  all_goals refine zMv ?_
  all_goals first | (refine zY ?_; refine zF 7 2 true ?_) | refine zU ?_ | refine zNt ?_ | (refine zGt (fun hg => ?_) fun hg => ?_; case' _ => refine zF 7 2 true ?_)
  all_goals first | (refine zY ?_; refine zLd ?_) | refine zU ?_ | refine zNt ?_ | (refine zGt (fun hg => ?_) fun hg => ?_; case' _ => refine zLd ?_)
  all_goals first | (refine zY ?_; refine zF 7 2 true ?_) | refine zU ?_ | refine zNt ?_ | (refine zGt (fun hg => ?_) fun hg => ?_; case' _ => refine zF 7 2 true ?_)
  all_goals first | (refine zY ?_; refine zLd ?_) | refine zU ?_ | refine zNt ?_ | (refine zGt (fun hg => ?_) fun hg => ?_; case' _ => refine zLd ?_)
  all_goals first | (refine zY ?_; refine zP (ap_eqV rfl zRc rfl zRc (eqB _ _)) ?_) | refine zU ?_ | refine zNt ?_ | (refine zGt (fun hg => ?_) fun hg => ?_; case' _ => refine zP (ap_eqV rfl zRc rfl zRc (eqB _ _)) ?_)
  all_goals refine zPk ?_
  all_goals refine zMv ?_
  all_goals first | (refine zY ?_; refine zF 9 2 true ?_) | refine zU ?_ | refine zNt ?_ | (refine zGt (fun hg => ?_) fun hg => ?_; case' _ => refine zF 9 2 true ?_)
  all_goals first | (refine zY ?_; refine zLd ?_) | refine zU ?_ | refine zNt ?_ | (refine zGt (fun hg => ?_) fun hg => ?_; case' _ => refine zLd ?_)
  all_goals first | (refine zY ?_; refine zF 9 2 true ?_) | refine zU ?_ | refine zNt ?_ | (refine zGt (fun hg => ?_) fun hg => ?_; case' _ => refine zF 9 2 true ?_)
  all_goals first | (refine zY ?_; refine zLd ?_) | refine zU ?_ | refine zNt ?_ | (refine zGt (fun hg => ?_) fun hg => ?_; case' _ => refine zLd ?_)
  all_goals first | (refine zY ?_; refine zP (ap_eqV rfl zRc rfl zRc (eqB _ _)) ?_) | refine zU ?_ | refine zNt ?_ | (refine zGt (fun hg => ?_) fun hg => ?_; case' _ => refine zP (ap_eqV rfl zRc rfl zRc (eqB _ _)) ?_)
  all_goals refine zPk ?_
  all_goals refine zMv ?_
  all_goals first | (refine zY ?_; refine zF 11 2 true ?_) | refine zU ?_ | refine zNt ?_ | (refine zGt (fun hg => ?_) fun hg => ?_; case' _ => refine zF 11 2 true ?_)
  all_goals first | (refine zY ?_; refine zLd ?_) | refine zU ?_ | refine zNt ?_ | (refine zGt (fun hg => ?_) fun hg => ?_; case' _ => refine zLd ?_)
  all_goals first | (refine zY ?_; refine zF 11 2 true ?_) | refine zU ?_ | refine zNt ?_ | (refine zGt (fun hg => ?_) fun hg => ?_; case' _ => refine zF 11 2 true ?_)
  all_goals first | (refine zY ?_; refine zLd ?_) | refine zU ?_ | refine zNt ?_ | (refine zGt (fun hg => ?_) fun hg => ?_; case' _ => refine zLd ?_)
  all_goals first | (refine zY ?_; refine zP (ap_eqV rfl zRc rfl zRc (eqB _ _)) ?_) | refine zU ?_ | refine zNt ?_ | (refine zGt (fun hg => ?_) fun hg => ?_; case' _ => refine zP (ap_eqV rfl zRc rfl zRc (eqB _ _)) ?_)
  all_goals refine zPk ?_
  all_goals refine zMv ?_
  all_goals first | (refine zY ?_; refine zF 13 1 false ?_) | refine zU ?_ | refine zNt ?_ | (refine zGt (fun hg => ?_) fun hg => ?_; case' _ => refine zF 13 1 false ?_)
  all_goals first | (refine zY ?_; refine zL1 ?_) | refine zU ?_ | refine zNt ?_ | (refine zGt (fun hg => ?_) fun hg => ?_; case' _ => refine zL1 ?_)
  all_goals first | (refine zY ?_; refine zF 13 1 false ?_) | refine zU ?_ | refine zNt ?_ | (refine zGt (fun hg => ?_) fun hg => ?_; case' _ => refine zF 13 1 false ?_)
  all_goals first | (refine zY ?_; refine zL1 ?_) | refine zU ?_ | refine zNt ?_ | (refine zGt (fun hg => ?_) fun hg => ?_; case' _ => refine zL1 ?_)
  all_goals first | (refine zY ?_; refine zCm ?_) | refine zU ?_ | refine zNt ?_ | (refine zGt (fun hg => ?_) fun hg => ?_; case' _ => refine zCm ?_)
  all_goals refine zPk ?_
  all_goals refine zMv ?_
  all_goals first | (refine zY ?_; refine zF 14 1 false ?_) | refine zU ?_ | refine zNt ?_ | (refine zGt (fun hg => ?_) fun hg => ?_; case' _ => refine zF 14 1 false ?_)
  all_goals first | (refine zY ?_; refine zL1 ?_) | refine zU ?_ | refine zNt ?_ | (refine zGt (fun hg => ?_) fun hg => ?_; case' _ => refine zL1 ?_)
  all_goals first | (refine zY ?_; refine zF 14 1 false ?_) | refine zU ?_ | refine zNt ?_ | (refine zGt (fun hg => ?_) fun hg => ?_; case' _ => refine zF 14 1 false ?_)
  all_goals first | (refine zY ?_; refine zL1 ?_) | refine zU ?_ | refine zNt ?_ | (refine zGt (fun hg => ?_) fun hg => ?_; case' _ => refine zL1 ?_)
  all_goals first | (refine zY ?_; refine zCm ?_) | refine zU ?_ | refine zNt ?_ | (refine zGt (fun hg => ?_) fun hg => ?_; case' _ => refine zCm ?_)
  all_goals refine zPk ?_
  all_goals refine zAs ?_
  all_goals (
    refine zN ?_; refine awp_ret ?_
    refine post_is (.tmp rfl .nil) zKeep ?_
    simp [resD]
    )
theorem letter29_con (x : Stp) : Con none Tryz.prog 159 [ltS x, ltS x] [] (Is (.b true) []) := by
  have hcap : capB = 140737488355328 := rfl
  refine con_intro Tryz.func159 rfl Tryz.call159 rfl ?_
  refine zS ?_
  refine aops_box rfl zFlat rfl rfl (fun b2 => ?_)
  refine aops_box rfl zFlat rfl rfl (fun b3 => ?_)
  refine zAs ?_; refine zN (zS ?_); refine zF 0 1 false ?_; refine zL1 ?_; refine zF 0 1 false ?_; refine zL1 ?_; refine zCm ?_; refine zMv ?_
  all_goals first | (refine zY ?_; refine zF 1 1 false ?_) | refine zU ?_ | refine zNt ?_ | (refine zGt (fun hg => ?_) fun hg => ?_; case' _ => refine zF 1 1 false ?_)
  all_goals first | (refine zY ?_; refine zL1 ?_) | refine zU ?_ | refine zNt ?_ | (refine zGt (fun hg => ?_) fun hg => ?_; case' _ => refine zL1 ?_)
  all_goals first | (refine zY ?_; refine zF 1 1 false ?_) | refine zU ?_ | refine zNt ?_ | (refine zGt (fun hg => ?_) fun hg => ?_; case' _ => refine zF 1 1 false ?_)
  all_goals first | (refine zY ?_; refine zL1 ?_) | refine zU ?_ | refine zNt ?_ | (refine zGt (fun hg => ?_) fun hg => ?_; case' _ => refine zL1 ?_)
  all_goals first | (refine zY ?_; refine zCm ?_) | refine zU ?_ | refine zNt ?_ | (refine zGt (fun hg => ?_) fun hg => ?_; case' _ => refine zCm ?_)
  all_goals refine zPk ?_
  all_goals refine zMv ?_
  all_goals first | (refine zY ?_; refine zF 9 15 true ?_) | refine zU ?_ | refine zNt ?_ | (refine zGt (fun hg => ?_) fun hg => ?_; case' _ => refine zF 9 15 true ?_)
  all_goals first | (refine zY ?_; refine zLd ?_) | refine zU ?_ | refine zNt ?_ | (refine zGt (fun hg => ?_) fun hg => ?_; case' _ => refine zLd ?_)
  all_goals first | (refine zY ?_; refine zF 9 15 true ?_) | refine zU ?_ | refine zNt ?_ | (refine zGt (fun hg => ?_) fun hg => ?_; case' _ => refine zF 9 15 true ?_)
  all_goals first | (refine zY ?_; refine zLd ?_) | refine zU ?_ | refine zNt ?_ | (refine zGt (fun hg => ?_) fun hg => ?_; case' _ => refine zLd ?_)
  all_goals first | (refine zY ?_; refine aops_call_v zRc (same24_con x) rfl rfl ?_) | refine zU ?_ | refine zNt ?_ | (refine zGt (fun hg => ?_) fun hg => ?_; case' _ => refine aops_call_v zRc (same24_con x) rfl rfl ?_)
  all_goals refine zPk ?_
  all_goals refine zMv ?_
  all_goals first | (refine zY ?_; refine zF 2 7 true ?_) | refine zU ?_ | refine zNt ?_ | (refine zGt (fun hg => ?_) fun hg => ?_; case' _ => refine zF 2 7 true ?_)
  all_goals first | (refine zY ?_; refine zLd ?_) | refine zU ?_ | refine zNt ?_ | (refine zGt (fun hg => ?_) fun hg => ?_; case' _ => refine zLd ?_)
  all_goals first | (refine zY ?_; refine zF 2 7 true ?_) | refine zU ?_ | refine zNt ?_ | (refine zGt (fun hg => ?_) fun hg => ?_; case' _ => refine zF 2 7 true ?_)
  all_goals first | (refine zY ?_; refine zLd ?_) | refine zU ?_ | refine zNt ?_ | (refine zGt (fun hg => ?_) fun hg => ?_; case' _ => refine zLd ?_)
  all_goals first | (refine zY ?_; refine aops_call_v zRc (nom0_con) rfl rfl ?_) | refine zU ?_ | refine zNt ?_ | (refine zGt (fun hg => ?_) fun hg => ?_; case' _ => refine aops_call_v zRc (nom0_con) rfl rfl ?_)
  all_goals refine zPk ?_
  all_goals refine zAs ?_
  all_goals (
    refine zN ?_; refine awp_ret ?_
    refine post_is (.tmp rfl .nil) zKeep ?_
    simp [resD]
    )
theorem letter31_con (x : Stp) : Con none Tryz.prog 125 [ltS x, ltS x] [] (Is (.b true) []) := by
  have hcap : capB = 140737488355328 := rfl
  refine con_intro Tryz.func125 rfl Tryz.call125 rfl ?_
  refine zS ?_
  refine aops_box rfl zFlat rfl rfl (fun b2 => ?_)
  refine aops_box rfl zFlat rfl rfl (fun b3 => ?_)
  refine zAs ?_; refine zN (zS ?_); refine zLd ?_; refine zLd ?_
  refine aops_call_v zRc (letter29_con x) rfl rfl ?_
  refine zAs ?_; refine zN ?_; refine awp_ret ?_
  exact post_is (.tmp rfl .nil) zKeep rfl
theorem ints_same (l : List Int) : Con none Tryz.prog 33 [.sl 1 (l.map .i), .sl 1 (l.map .i)] [] (Is (.b true) []) := by
  have h := rInts_con l l
  rwa [decide_eq_true rfl] at h
theorem Equal_con (x : Stp) : Con none Tryz.prog 88 [stv x, stv x] [] (Is (.b true) []) := by
  have hcap : capB = 140737488355328 := rfl
  refine con_intro Tryz.func88 rfl Tryz.call88 rfl ?_
  refine zS ?_
  refine aops_box rfl zFlat rfl rfl (fun b2 => ?_)
  refine aops_box rfl zFlat rfl rfl (fun b3 => ?_)
  refine zAs ?_; refine zN (zS ?_); refine zF 0 1 false ?_; refine zL1 ?_; refine zF 0 1 false ?_; refine zL1 ?_; refine zCm ?_; refine zMv ?_
  all_goals first | (refine zY ?_; refine zF 1 1 false ?_) | refine zU ?_ | refine zNt ?_ | (refine zGt (fun hg => ?_) fun hg => ?_; case' _ => refine zF 1 1 false ?_)
  all_goals first | (refine zY ?_; refine zL1 ?_) | refine zU ?_ | refine zNt ?_ | (refine zGt (fun hg => ?_) fun hg => ?_; case' _ => refine zL1 ?_)
  all_goals first | (refine zY ?_; refine zF 1 1 false ?_) | refine zU ?_ | refine zNt ?_ | (refine zGt (fun hg => ?_) fun hg => ?_; case' _ => refine zF 1 1 false ?_)
  all_goals first | (refine zY ?_; refine zL1 ?_) | refine zU ?_ | refine zNt ?_ | (refine zGt (fun hg => ?_) fun hg => ?_; case' _ => refine zL1 ?_)
  all_goals first | (refine zY ?_; refine zCm ?_) | refine zU ?_ | refine zNt ?_ | (refine zGt (fun hg => ?_) fun hg => ?_; case' _ => refine zCm ?_)
  all_goals refine zPk ?_
  all_goals refine zMv ?_
  all_goals first | (refine zY ?_; refine zF 2 1 false ?_) | refine zU ?_ | refine zNt ?_ | (refine zGt (fun hg => ?_) fun hg => ?_; case' _ => refine zF 2 1 false ?_)
  all_goals first | (refine zY ?_; refine zL1 ?_) | refine zU ?_ | refine zNt ?_ | (refine zGt (fun hg => ?_) fun hg => ?_; case' _ => refine zL1 ?_)
  all_goals first | (refine zY ?_; refine zF 2 1 false ?_) | refine zU ?_ | refine zNt ?_ | (refine zGt (fun hg => ?_) fun hg => ?_; case' _ => refine zF 2 1 false ?_)
  all_goals first | (refine zY ?_; refine zL1 ?_) | refine zU ?_ | refine zNt ?_ | (refine zGt (fun hg => ?_) fun hg => ?_; case' _ => refine zL1 ?_)
  all_goals first | (refine zY ?_; refine zCm ?_) | refine zU ?_ | refine zNt ?_ | (refine zGt (fun hg => ?_) fun hg => ?_; case' _ => refine zCm ?_)
  all_goals refine zPk ?_
  all_goals refine zMv ?_
  all_goals first | (refine zY ?_; refine zF 3 1 false ?_) | refine zU ?_ | refine zNt ?_ | (refine zGt (fun hg => ?_) fun hg => ?_; case' _ => refine zF 3 1 false ?_)
  all_goals first | (refine zY ?_; refine zL1 ?_) | refine zU ?_ | refine zNt ?_ | (refine zGt (fun hg => ?_) fun hg => ?_; case' _ => refine zL1 ?_)
  all_goals first | (refine zY ?_; refine zF 3 1 false ?_) | refine zU ?_ | refine zNt ?_ | (refine zGt (fun hg => ?_) fun hg => ?_; case' _ => refine zF 3 1 false ?_)
  all_goals first | (refine zY ?_; refine zL1 ?_) | refine zU ?_ | refine zNt ?_ | (refine zGt (fun hg => ?_) fun hg => ?_; case' _ => refine zL1 ?_)
  all_goals first | (refine zY ?_; refine zCm ?_) | refine zU ?_ | refine zNt ?_ | (refine zGt (fun hg => ?_) fun hg => ?_; case' _ => refine zCm ?_)
  all_goals refine zPk ?_
  all_goals refine zMv ?_
  all_goals first | (refine zY ?_; refine zF 4 1 false ?_) | refine zU ?_ | refine zNt ?_ | (refine zGt (fun hg => ?_) fun hg => ?_; case' _ => refine zF 4 1 false ?_)
  all_goals first | (refine zY ?_; refine zL1 ?_) | refine zU ?_ | refine zNt ?_ | (refine zGt (fun hg => ?_) fun hg => ?_; case' _ => refine zL1 ?_)
  all_goals first | (refine zY ?_; refine zF 4 1 false ?_) | refine zU ?_ | refine zNt ?_ | (refine zGt (fun hg => ?_) fun hg => ?_; case' _ => refine zF 4 1 false ?_)
  all_goals first | (refine zY ?_; refine zL1 ?_) | refine zU ?_ | refine zNt ?_ | (refine zGt (fun hg => ?_) fun hg => ?_; case' _ => refine zL1 ?_)
  all_goals first | (refine zY ?_; refine zCm ?_) | refine zU ?_ | refine zNt ?_ | (refine zGt (fun hg => ?_) fun hg => ?_; case' _ => refine zCm ?_)
  all_goals refine zPk ?_
  all_goals refine zMv ?_
  all_goals first | (refine zY ?_; refine zF 5 1 false ?_) | refine zU ?_ | refine zNt ?_ | (refine zGt (fun hg => ?_) fun hg => ?_; case' _ => refine zF 5 1 false ?_)
  all_goals first | (refine zY ?_; refine zL1 ?_) | refine zU ?_ | refine zNt ?_ | (refine zGt (fun hg => ?_) fun hg => ?_; case' _ => refine zL1 ?_)
  all_goals first | (refine zY ?_; refine zF 5 1 false ?_) | refine zU ?_ | refine zNt ?_ | (refine zGt (fun hg => ?_) fun hg => ?_; case' _ => refine zF 5 1 false ?_)
  all_goals first | (refine zY ?_; refine zL1 ?_) | refine zU ?_ | refine zNt ?_ | (refine zGt (fun hg => ?_) fun hg => ?_; case' _ => refine zL1 ?_)
  all_goals first | (refine zY ?_; refine zP (ap_scmp rfl rfl rfl) ?_) | refine zU ?_ | refine zNt ?_ | (refine zGt (fun hg => ?_) fun hg => ?_; case' _ => refine zP (ap_scmp rfl rfl rfl) ?_)
  all_goals ((rw [show decide (x.val = x.val) = true from by simp]; refine zPk ?_))
  all_goals refine zMv ?_
  all_goals first | (refine zY ?_; refine zF 6 3 true ?_) | refine zU ?_ | refine zNt ?_ | (refine zGt (fun hg => ?_) fun hg => ?_; case' _ => refine zF 6 3 true ?_)
  all_goals first | (refine zY ?_; refine zLd ?_) | refine zU ?_ | refine zNt ?_ | (refine zGt (fun hg => ?_) fun hg => ?_; case' _ => refine zLd ?_)
  all_goals first | (refine zY ?_; refine zF 6 3 true ?_) | refine zU ?_ | refine zNt ?_ | (refine zGt (fun hg => ?_) fun hg => ?_; case' _ => refine zF 6 3 true ?_)
  all_goals first | (refine zY ?_; refine zLd ?_) | refine zU ?_ | refine zNt ?_ | (refine zGt (fun hg => ?_) fun hg => ?_; case' _ => refine zLd ?_)
  all_goals first | (refine zY ?_; refine aops_call_v zRc (same_any Trust.none) rfl rfl ?_) | refine zU ?_ | refine zNt ?_ | (refine zGt (fun hg => ?_) fun hg => ?_; case' _ => refine aops_call_v zRc (same_any Trust.none) rfl rfl ?_)
  all_goals refine zPk ?_
  all_goals refine zMv ?_
  all_goals first | (refine zY ?_; refine zF 9 24 true ?_) | refine zU ?_ | refine zNt ?_ | (refine zGt (fun hg => ?_) fun hg => ?_; case' _ => refine zF 9 24 true ?_)
  all_goals first | (refine zY ?_; refine zLd ?_) | refine zU ?_ | refine zNt ?_ | (refine zGt (fun hg => ?_) fun hg => ?_; case' _ => refine zLd ?_)
  all_goals first | (refine zY ?_; refine zF 9 24 true ?_) | refine zU ?_ | refine zNt ?_ | (refine zGt (fun hg => ?_) fun hg => ?_; case' _ => refine zF 9 24 true ?_)
  all_goals first | (refine zY ?_; refine zLd ?_) | refine zU ?_ | refine zNt ?_ | (refine zGt (fun hg => ?_) fun hg => ?_; case' _ => refine zLd ?_)
  all_goals first | (refine zY ?_; refine aops_call_v zRc (letter31_con x) rfl rfl ?_) | refine zU ?_ | refine zNt ?_ | (refine zGt (fun hg => ?_) fun hg => ?_; case' _ => refine aops_call_v zRc (letter31_con x) rfl rfl ?_)
  all_goals refine zPk ?_
  all_goals refine zMv ?_
  all_goals first | (refine zY ?_; refine zF 33 1 false ?_) | refine zU ?_ | refine zNt ?_ | (refine zGt (fun hg => ?_) fun hg => ?_; case' _ => refine zF 33 1 false ?_)
  all_goals first | (refine zY ?_; refine zL1 ?_) | refine zU ?_ | refine zNt ?_ | (refine zGt (fun hg => ?_) fun hg => ?_; case' _ => refine zL1 ?_)
  all_goals first | (refine zY ?_; refine zF 33 1 false ?_) | refine zU ?_ | refine zNt ?_ | (refine zGt (fun hg => ?_) fun hg => ?_; case' _ => refine zF 33 1 false ?_)
  all_goals first | (refine zY ?_; refine zL1 ?_) | refine zU ?_ | refine zNt ?_ | (refine zGt (fun hg => ?_) fun hg => ?_; case' _ => refine zL1 ?_)
  all_goals first | (refine zY ?_; refine aops_call_v zRc (ints_same x.parts) rfl rfl ?_) | refine zU ?_ | refine zNt ?_ | (refine zGt (fun hg => ?_) fun hg => ?_; case' _ => refine aops_call_v zRc (ints_same x.parts) rfl rfl ?_)
  all_goals refine zPk ?_
  all_goals refine zAs ?_
  all_goals (
    refine zN ?_; refine awp_ret ?_
    refine post_is (.tmp rfl .nil) zKeep ?_
    simp [resD]
    )
theorem steps_con (l : List Stp) : Con none Tryz.prog 34 [.sl 34 (l.map stv), .sl 34 (l.map stv)] [] (Is (.b true) []) := by
  have hcap : capB = 140737488355328 := rfl
  have hl1 : (l.map stv).length = l.length := by simp
  refine con_intro Tryz.func34 rfl Tryz.call34 rfl ?_
  refine zS ?_; refine zAs ?_; refine zN ?_; refine awp_seq ?_; refine zS ?_; refine zMv ?_
  first | refine aops_len rfl rfl rfl rfl (fun _ => ?_) | refine zP (ap_len_arr rfl zUpd rfl) ?_ | refine zP (ap_len_nil rfl rfl) ?_
  refine zMv ?_
  first | refine aops_len rfl rfl rfl rfl (fun _ => ?_) | refine zP (ap_len_arr rfl zUpd rfl) ?_ | refine zP (ap_len_nil rfl rfl) ?_
  refine zCm ?_; refine zN ?_
  refine awp_cond_f rfl (by simp) ?_
  refine awp_skip ?_; refine seqQ_n ?_; refine awp_seq ?_; refine zS ?_; refine zMv ?_
  first | refine aops_len rfl rfl rfl rfl (fun _ => ?_) | refine zP (ap_len_arr rfl zUpd rfl) ?_ | refine zP (ap_len_nil rfl rfl) ?_
  refine zMv ?_; refine zN ?_; refine awp_block ?_
  refine awp_loop1 [0, 1, 12] [] (fun (k : Nat) r => (13, .i (k : Int)) :: r) (fun (k : Nat) r => r) (fun (k : Nat) => k ≤ l.length) (fun (k : Nat) => l.length - k) (0) zRc (by omega) (wk zSub zKeep) ?_
  intro k hk
  refine zS ?_; refine zCm ?_; refine zN ?_; refine awp_seq ?_
  refine zC (fun hc => ?_) fun hc => ?_
  · have hlt := of_decide_eq_true hc
    obtain ⟨u, hu, _⟩ := drop_cons (l := l) (k := k) (by omega)
    have hu' := getMap stv hu
    refine awp_skip ?_; refine seqQ_n ?_; refine awp_seq ?_; refine awp_block ?_; refine zS ?_; refine zMv ?_; refine zAs ?_; refine zN ?_; refine awp_seq ?_
    refine awp_draw (Hm := []) zKr zSplit ?_
    refine zT 0 rfl (AP.ar (ap_move rfl)) ?_
    refine zT 1 rfl (AP.ar (ap_move rfl)) ?_
    first | refine zT 2 rfl (AP.ar (ap_index rfl rfl rfl rfl (by decide) rfl zAss)) ?_ | refine zT 2 rfl (AP.ar (ap_index rfl rfl rfl rfl (by decide) (by omega) zAss)) ?_ | refine zT 2 rfl (AP.ar (ap_index_own rfl rfl rfl rfl rfl (by first | omega | (simp only [List.length_map, List.length_set, avs_len]; omega)))) ?_
    refine zTM 3 ?_
    refine zT 4 rfl (AP.ar (ap_move rfl)) ?_
    refine zT 5 rfl (AP.ar (ap_move rfl)) ?_
    first | refine zT 6 rfl (AP.ar (ap_index rfl rfl rfl rfl (by decide) rfl zAss)) ?_ | refine zT 6 rfl (AP.ar (ap_index rfl rfl rfl rfl (by decide) (by omega) zAss)) ?_ | refine zT 6 rfl (AP.ar (ap_index_own rfl rfl rfl rfl rfl (by first | omega | (simp only [List.length_map, List.length_set, avs_len]; omega)))) ?_
    refine zTM 7 ?_
    refine aany_one 8 zKr rfl (.none rfl) ?_
    refine aops_call_v zRc (Equal_con u) rfl rfl ?_
    refine aops_nil ?_
    refine zT 9 rfl (AP.ar (ap_not rfl)) ?_
    refine aany_nil zKr ?_
    all_goals (
      refine seqQ_n ?_
      refine awp_cond_f rfl zDec ?_
      refine awp_skip ?_; refine blockQ_n ?_; refine seqQ_n ?_; refine awp_region ?_; refine zAr ?_; refine zMv ?_; refine zN ?_
      refine ⟨k + 1, by omega, by omega, wk zSub zKeep⟩
      )
  · refine awp_exit ?_
    refine seqQ_x ?_; refine seqQ_x ?_; refine blockQ_x rfl ?_; refine seqQ_n ?_; refine zS ?_; refine zAs ?_; refine zN ?_; refine awp_ret ?_
    exact post_is (.tmp rfl .nil) zKeep rfl
abbrev sE : ByteArray := ⟨#[]⟩
def lieS (i k slot : Int) (w : ByteArray) : Stp := ⟨5, i, k, 0, 0, sE, 2, slot, i, slot, 1, 1, [i], 3, 1, w, 1, 1, []⟩
def prefS (k : Int) (w : ByteArray) : Stp := ⟨8, k, 0, 1, 0, w, 0, 0, 0, 0, 0, 0, [], 0, 0, sE, 0, 0, []⟩
def tickS : Stp := ⟨2, 0, 0, 0, 12, sE, 0, 0, 0, 0, 0, 0, [], 0, 0, sE, 0, 0, []⟩
def partS (l : List Int) : Stp := ⟨6, 0, 0, 0, 0, sE, 0, 0, 0, 0, 0, 0, [], 0, 0, sE, 0, 0, l⟩
theorem cvLie (i k slot : Int) (w : ByteArray) : Cv (.slice none 0 0) 1 [] (.agg [.i 5, .i i, .i k, .i 0, .i 0, .v (.string sE), .i 0, .nil, .nil, .i 2, .i slot, .i 0, .i 0, .i 0, .nil, .nil, .nil, .nil, .i i, .i slot, .i 1, .i 1, .sl 1 [.i i], .nil, .i 3, .i 1, .v (.string w), .i 0, .v (.string ⟨#[]⟩), .i 0, .v (.string ⟨#[]⟩), .i 1, .i 1, .nil]) (stv (lieS i k slot w)) := Cv.agg (by repeat (first | exact CvL.nil | apply CvL.cons (by first | exact Cv.same | exact Cv.nil)))
theorem cvPref (k : Int) (w : ByteArray) : Cv (.slice none 0 0) 1 [] (.agg [.i 8, .i k, .i 0, .i 1, .i 0, .v (.string w), .i 0, .nil, .nil, .i 0, .i 0, .i 0, .i 0, .i 0, .nil, .nil, .nil, .nil, .i 0, .i 0, .i 0, .i 0, .nil, .nil, .i 0, .i 0, .v (.string sE), .i 0, .v (.string ⟨#[]⟩), .i 0, .v (.string ⟨#[]⟩), .i 0, .i 0, .nil]) (stv (prefS k w)) := Cv.agg (by repeat (first | exact CvL.nil | apply CvL.cons (by first | exact Cv.same | exact Cv.nil)))
theorem cvTick : Cv (.slice none 0 0) 1 [] (.agg [.i 2, .i 0, .i 0, .i 0, .i 12, .v (.string sE), .i 0, .nil, .nil, .i 0, .i 0, .i 0, .i 0, .i 0, .nil, .nil, .nil, .nil, .i 0, .i 0, .i 0, .i 0, .nil, .nil, .i 0, .i 0, .v (.string sE), .i 0, .v (.string ⟨#[]⟩), .i 0, .v (.string ⟨#[]⟩), .i 0, .i 0, .nil]) (stv tickS) := Cv.agg (by repeat (first | exact CvL.nil | apply CvL.cons (by first | exact Cv.same | exact Cv.nil)))
theorem cvPart (l : List Int) : Cv (.slice none 0 0) 1 [] (.agg [.i 6, .i 0, .i 0, .i 0, .i 0, .v (.string sE), .i 0, .nil, .nil, .i 0, .i 0, .i 0, .i 0, .i 0, .nil, .nil, .nil, .nil, .i 0, .i 0, .i 0, .i 0, .nil, .nil, .i 0, .i 0, .v (.string sE), .i 0, .v (.string ⟨#[]⟩), .i 0, .v (.string ⟨#[]⟩), .i 0, .i 0, .sl 1 (l.map .i)]) (stv (partS l)) := Cv.agg (by repeat (first | exact CvL.nil | apply CvL.cons (by first | exact Cv.same | exact Cv.nil)))
def prefL (s : Int) (w : ByteArray) : List Stp := (nodesOf s).map fun k => prefS k w
theorem nodes_le (s : Int) : (nodesOf s).length ≤ 10 := by
  unfold nodesOf
  have := List.length_filter_le (fun k => has s k) (upTo 10)
  rw [upTo_len] at this
  exact this
theorem bit_iff {s k : Nat} (hs : s < 1024) (hk : k < 10) : ((s / 2 ^ k &&& 1 : Nat) : Int) = 1 ↔ has s (k : Int) = true := by
  rw [has_iff hs, Int.toNat_natCast, Nat.testBit_eq_decide_div_mod_eq, Nat.and_one_is_mod, decide_eq_true_iff]
  omega
/-- The first nodes of a set. -/
def nodesTo (s : Int) (k : Nat) : List Int := (upTo k).filter fun j => has s j
theorem nodesTo_t {s : Int} {k : Nat} (h : has s (k : Int) = true) : nodesTo s (k + 1) = nodesTo s k ++ [(k : Int)] := by
  unfold nodesTo; rw [upTo_succ, List.filter_append]; simp [h]
theorem nodesTo_f {s : Int} {k : Nat} (h : ¬ has s (k : Int) = true) : nodesTo s (k + 1) = nodesTo s k := by
  unfold nodesTo; rw [upTo_succ, List.filter_append]; simp [h]
theorem nodesTo_len (s : Int) (k : Nat) : (nodesTo s k).length ≤ k := by
  unfold nodesTo
  have := List.length_filter_le (fun j => has s j) (upTo k)
  rw [upTo_len] at this; exact this
theorem nodesTo_ten (s : Int) : nodesTo s 10 = nodesOf s := rfl
theorem st_snoc (q : List Stp) (x : Stp) : q.map stv ++ [stv x] = (q ++ [x]).map stv := by simp
theorem take1 {α : Type} {l : List α} {k : Nat} {x : α} (h : l[k]? = some x) : l.take (k + 1) = l.take k ++ [x] := by rw [List.take_add_one, h]; rfl
theorem lie_con (i k slot : Int) (w : ByteArray) : Con none Tryz.prog 76 [.i i, .i k, .i slot, .v (.string w)] [] (Is (stv (lieS i k slot w)) []) := by
  have hcap : capB = 140737488355328 := rfl
  refine con_intro Tryz.func76 rfl Tryz.call76 rfl ?_
  refine zS ?_
  refine aops_alloc rfl zRc rfl rfl (fun b8 => ?_)
  refine zN (zS ?_); refine zMv ?_
  refine aops_lit (e := 3) (sz := 1) (by_ := 8) rfl rfl zRc rfl rfl rfl rfl ?_
  refine zP (ap_build zKr rfl zRc zFill) ?_
  refine aops_alloc rfl zRc rfl rfl (fun b9 => ?_)
  refine zSt ?_; refine zN (zS ?_); refine zMv ?_; refine zMv ?_; refine zLd ?_; refine zMv ?_
  refine zP (ap_build zKr rfl zRc zFill) ?_
  refine zP (ap_build zKr rfl zRc zFill) ?_
  refine aops_alloc rfl zRc rfl rfl (fun b10 => ?_)
  refine zSt ?_; refine zN (zS ?_); refine zMv ?_; refine zMv ?_; refine zMv ?_; refine zLd ?_
  refine zP (ap_build zKr rfl zRc zFill) ?_
  refine zP (ap_build zKr rfl zRc zFill) ?_
  refine aops_unnil [8,25] 1 rfl rfl (by repeat (first | exact SelC.nil | apply SelC.cons rfl (cvLie i k slot w) | apply SelC.cons rfl Cv.same)) zHeapS ?_; refine aops_store rfl rfl zFlat zUpd rfl zRc ?_
  refine zN ?_; refine awp_ret ?_
  exact post_is (.cell rfl zUpd rfl rfl .nil) zKeep rfl
theorem rlie_con (i k slot : Int) (w : ByteArray) : Con none Tryz.prog 90 [.i i, .i k, .i slot, .v (.string w)] [] (Is (stv (lieS i k slot w)) []) := by
  have hcap : capB = 140737488355328 := rfl
  refine con_intro Tryz.func90 rfl Tryz.call90 rfl ?_
  refine zS ?_
  refine aops_alloc rfl zRc rfl rfl (fun b8 => ?_)
  refine zN (zS ?_); refine zMv ?_; refine zMv ?_; refine zMv ?_
  refine aops_lit (e := 3) (sz := 1) (by_ := 8) rfl rfl zRc rfl rfl rfl rfl ?_
  refine zP (ap_build zKr rfl zRc zFill) ?_
  refine zMv ?_
  refine zP (ap_build zKr rfl zRc zFill) ?_
  refine zP (ap_build zKr rfl zRc zFill) ?_
  refine aops_alloc rfl zRc rfl rfl (fun b9 => ?_)
  refine zSt ?_; refine zN (zS ?_); refine zMv ?_; refine zMv ?_; refine zMv ?_; refine zLd ?_
  refine zP (ap_build zKr rfl zRc zFill) ?_
  refine zP (ap_build zKr rfl zRc zFill) ?_
  refine aops_unnil [8,23] 1 rfl rfl (by repeat (first | exact SelC.nil | apply SelC.cons rfl (cvLie i k slot w) | apply SelC.cons rfl Cv.same)) zHeapS ?_; refine aops_store rfl rfl zFlat zUpd rfl zRc ?_
  refine zN ?_; refine awp_ret ?_
  exact post_is (.cell rfl zUpd rfl rfl .nil) zKeep rfl
theorem prefer_con (v0 : Value) (q : List Stp) (hq : q.length ≤ 1000) (s : Int) (w : ByteArray) : Con none Tryz.prog 71 [.v v0, .i s, .v (.string w)] [.arr v0 59 34 (q.map stv)] (fun d H => ∃ v, d = .v v ∧ H = [.arr v 59 34 ((q ++ prefL s w).map stv)]) := by
  have hcap : capB = 140737488355328 := rfl
  have hnl : ((nodesOf s).map D.i).length = (nodesOf s).length := by simp
  have hn10 := nodes_le s
  refine con_intro Tryz.func71 rfl Tryz.call71 rfl ?_
  refine zS ?_; refine zAs ?_; refine zN ?_; refine awp_seq ?_; refine zS ?_; refine zMv ?_
  refine aops_call_v zRc (Nodes_con _) rfl rfl ?_
  first | refine aops_len rfl rfl rfl rfl (fun _ => ?_) | refine zP (ap_len_arr rfl zUpd rfl) ?_ | refine zP (ap_len_nil rfl rfl) ?_
  refine zMv ?_; refine zN ?_; refine awp_block ?_
  refine awp_loop2 [2, 10, 11] [] (fun (k : Nat) (v : Value) r => (0, .v v) :: (12, .i (k : Int)) :: r) (fun (k : Nat) (v : Value) r => .arr v 59 34 ((q ++ ((nodesOf s).take k).map (fun j => prefS j w)).map stv) :: r) (fun (k : Nat) (v : Value) => k ≤ (nodesOf s).length) (fun (k : Nat) (v : Value) => (nodesOf s).length - k) (0) (v0) zRc (by omega) (by rw [List.take_zero, List.map_nil, List.append_nil]; exact wk zSub zKeep) ?_
  intro k v hk
  have hql : ((q ++ ((nodesOf s).take k).map (fun j => prefS j w)).map stv).length ≤ 1010 := by simp only [List.length_map, List.length_append, List.length_take]; omega
  refine zS ?_; refine zCm ?_; refine zN ?_; refine awp_seq ?_
  refine zC (fun hc => ?_) fun hc => ?_
  · have hlt := of_decide_eq_true hc
    obtain ⟨x, hx, _⟩ := drop_cons (l := nodesOf s) (k := k) (by omega)
    have hx' := getMap D.i hx
    refine awp_skip ?_; refine seqQ_n ?_; refine awp_seq ?_; refine awp_block ?_; refine zS ?_
    first | refine zP (ap_index rfl rfl rfl rfl (by decide) rfl zAss) ?_ | refine zP (ap_index rfl rfl rfl rfl (by decide) (by omega) zAss) ?_ | refine zP (ap_index_own rfl rfl rfl rfl rfl (by first | omega | (simp only [List.length_map, List.length_set, avs_len]; omega))) ?_
    refine zL1 ?_; refine zAs ?_; refine zN ?_; refine awp_region ?_; refine zMv ?_; refine zMv ?_; refine zMv ?_
    refine zP (ap_build zKr rfl zRc zFill) ?_
    refine aops_unnil [2,10,11,12,16,19] 1 rfl rfl (by repeat (first | exact SelC.nil | apply SelC.cons rfl (cvPref x w) | apply SelC.cons rfl Cv.same)) zHeapS ?_; refine aops_lit (e := 59) (sz := 34) (by_ := 448) rfl rfl zRc rfl rfl rfl rfl ?_
    first | refine aops_append (e := 59) (sz := 34) (by_ := 448) rfl zUpd rfl rfl rfl rfl rfl (by simp only [List.length_cons, List.length_nil]; omega) (fun v21 hv21 => ?_) | refine aops_append_nil (e := 59) (sz := 34) (by_ := 448) rfl rfl rfl rfl rfl rfl (by simp only [List.length_cons, List.length_nil]; omega) (fun v21 hv21 => ?_)
    refine zAs ?_; refine aops_nil ?_; refine blockQ_n ?_; refine seqQ_n ?_; refine awp_region ?_; refine zAr ?_; refine zMv ?_; refine zN ?_
    rw [st_snoc, show q ++ ((nodesOf s).take k).map (fun j => prefS j w) ++ [prefS x w] = q ++ ((nodesOf s).take (k + 1)).map (fun j => prefS j w) from by rw [take1 hx, List.map_append, List.append_assoc]; rfl]
    refine ⟨k + 1, _, by omega, by omega, wk zSub zKeep⟩
  · have hge := of_decide_eq_false hc
    rw [List.take_of_length_le (show (nodesOf s).length ≤ k by omega)]
    refine awp_exit ?_; refine seqQ_x ?_; refine seqQ_x ?_; refine blockQ_x rfl ?_; refine seqQ_n ?_; refine zS ?_; refine zMv ?_; refine zAs ?_; refine zN ?_; refine awp_ret ?_
    exact post_ret (.tmp rfl .nil) zKeep ⟨_, rfl, rfl⟩
end Go.Proofs.YtgmpjpaekpefdaaGreat
