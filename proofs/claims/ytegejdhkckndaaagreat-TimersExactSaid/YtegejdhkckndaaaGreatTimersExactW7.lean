/- The walks of: rcommitted_con, rfinalm_con, rcaught_con. Each says what one function of the program answers, for the arguments that its statement names. No condition beyond what each theorem says. -/
import Derived.Test.YtegejdhkckndaaaGreatTimersExactW6
import Derived.Test.YtegejdhkckndaaaGreatProg
import Derived.KernelRfl
import Derived.Tactics
import Derived.Tactics2
import Derived.StillTactics
set_option linter.unusedVariables false
set_option linter.unusedSimpArgs false
set_option linter.unnecessarySimpa false
set_option maxRecDepth 4000
namespace Go.Proofs.YtegejdhkckndaaaGreat
open Go Go.Av Go.Tq
set_option maxHeartbeats 4000000 in
theorem rcommitted_con (m : Mach) (hI : InvM m) : Con Tryz.prog 95 [mcv m] [] (fun d H => ∃ m' : Mach, d = mcv m' ∧ StepR m m' ∧ H = []) := by
  have hcap : capB = 140737488355328 := rfl
  have hsz1 := hI.sz
  have hhl := hI.hl
  have hhs : ∀ e ∈ m.heard, sizeT e.t ≤ 200000 := fun e he => by have := (hI.hs e he).1; omega
  have hbn := hI.baln
  have hbn0 := hI.bal.n0
  have hlw := hI.low
  have hhg := hI.high
  have hmlen : (m.heard.map ev).length = m.heard.length := by simp
  refine con_intro Tryz.func95 rfl Tryz.call95 rfl ?_
  refine zS ?_
  refine aops_box rfl zFlat rfl rfl (fun b1 => ?_)
  refine aops_alloc rfl zRc rfl rfl (fun b2 => ?_)
  refine zN ?_; refine awp_seq ?_; refine zS ?_; refine zF 6 1 false ?_; refine zL1 ?_; refine zN ?_; refine awp_block ?_; refine zS ?_; refine zCm ?_; refine zAs ?_; refine zN ?_
  refine zC (fun hc => ?_) fun hc => ?_
  · have hp1 : m.phase = 1 := of_decide_eq_true hc
    refine awp_seq ?_
    refine awp_draw (Hm := []) zKr zSplit ?_
    refine zTF 0 0 1 false ?_; refine zTL 1 ?_; refine zTF 2 3 3 true ?_; refine zTM 3 ?_; refine zTM 4 ?_; refine zTF 6 9 2 true ?_; refine zTM 7 ?_; refine zTF 8 11 2 true ?_; refine zTM 9 ?_
    refine aany_one 5 zKr rfl (.none rfl) ?_
    (refine aops_call zRc (rall_con m (by omega) (by omega) hhs) zSplit rfl rfl ?_; rintro _ _ ⟨l, rfl, ⟨hl1, hl2⟩, rfl⟩)
    refine aops_nil ?_
    refine aany_one 10 zKr rfl (.none rfl) ?_
    (refine aops_call zRc (rfirst_con m.node m.t l (by omega) hl2 m.prep m.prime) zSplit rfl rfl ?_; rintro _ _ ⟨sv, lo, hi, y, rfl, hy, rfl⟩)
    refine aops_nil ?_
    refine zT 11 rfl (AP.ar (ap_move rfl)) ?_
    refine zT 12 rfl (AP.ar (ap_extract rfl rfl)) ?_
    refine zT 13 rfl (AP.ar (ap_extract rfl rfl)) ?_
    refine zT 14 rfl (AP.ar (ap_extract rfl rfl)) ?_
    refine zT 15 rfl (AP.ar (ap_extract rfl rfl)) ?_
    refine zT 16 rfl (AP.ar (ap_assign rfl)) ?_
    refine zT 17 rfl (AP.ar (ap_assign rfl)) ?_
    refine zT 18 rfl (AP.ar (ap_assign rfl)) ?_
    refine zT 19 rfl (AP.ar (ap_assign rfl)) ?_
    refine aany_nil zKr ?_
    all_goals (
      refine seqQ_n ?_; refine awp_seq ?_; refine zS ?_; refine zMv ?_; refine zNo ?_; refine zN ?_
      refine zC (fun hc => ?_) fun hc => ?_
      · refine awp_seq ?_
        refine awp_region ?_; refine zLd ?_; refine zSt ?_; refine zN ?_; refine awp_ret ?_; refine seqQ_r ?_; refine blockQ_r ?_; refine seqQ_r ?_
        exact post_ret (.cell rfl zUpd rfl rfl .nil) zKeep ⟨m, rfl, StepR.refl hI, rfl⟩
      · have hyy := hy (not_f hc)
        refine awp_skip ?_; refine seqQ_n ?_; refine zS ?_; refine zMv ?_; refine zMv ?_
        refine zP (ap_build zKr rfl zRc zFill) ?_
        refine aops_alloc rfl zRc rfl rfl (fun b7 => ?_)
        refine zSt ?_; refine zN ?_; refine awp_seq ?_; refine zS ?_; refine zF 7 2 true ?_; refine zLd ?_; refine zLd ?_
        refine aops_call_v zRc (rcp_con m.bal ⟨hi, sv⟩) rfl rfl ?_
        refine zNo ?_; refine zMv ?_
        all_goals first | (refine zY ?_; refine zF 7 2 true ?_) | refine zU ?_ | refine zNf ?_ | (refine zGf (fun hg => ?_) fun hg => ?_; case' _ => refine zF 7 2 true ?_)
        all_goals first | (refine zY ?_; refine zLd ?_) | refine zU ?_ | refine zNf ?_ | (refine zGf (fun hg => ?_) fun hg => ?_; case' _ => refine zLd ?_)
        all_goals first | (refine zY ?_; refine zLd ?_) | refine zU ?_ | refine zNf ?_ | (refine zGf (fun hg => ?_) fun hg => ?_; case' _ => refine zLd ?_)
        all_goals first | (refine zY ?_; refine aops_call_v zRc (rl_con m.bal ⟨hi, sv⟩) rfl rfl ?_) | refine zU ?_ | refine zNf ?_ | (refine zGf (fun hg => ?_) fun hg => ?_; case' _ => refine aops_call_v zRc (rl_con m.bal ⟨hi, sv⟩) rfl rfl ?_)
        all_goals refine zPk ?_
        all_goals (
          refine zN ?_
          refine zC (fun hc => ?_) fun hc => ?_
          · first
            | (exact absurd hc (by decide))
            | (have mk44t : True := trivial
               refine awp_region ?_; refine zF 7 2 true ?_; refine zF 0 1 false ?_; refine zL1 ?_; refine zMv ?_
               refine zP (ap_max rfl rfl) ?_
               refine zMv ?_
               refine zP (ap_build zKr rfl zRc zFill) ?_
               refine zF 7 2 true ?_; refine zSt ?_; refine zN ?_; refine awp_seq ?_; refine zS ?_; refine zF 9 2 true ?_; refine zLd ?_; refine zLd ?_
               refine aops_call_v zRc (rcov_con m.prep ⟨hi, sv⟩) rfl rfl ?_
               refine zNo ?_; refine zN ?_
               refine zC (fun hc => ?_) fun hc => ?_
               · have mk57t : True := trivial
                 refine awp_region ?_; refine zLd ?_; refine zF 9 2 true ?_; refine zSt ?_; refine zN ?_
                 refine awp_draw (Hm := [.box b1 _ _]) zKr zSplit ?_
                 refine zT 0 rfl (AP.ar (ap_move rfl)) ?_
                 refine zT 1 rfl (AP.ar (ap_move rfl)) ?_
                 refine zTM 2 ?_
                 refine zT 3 rfl (AP.ar (ap_build zKr rfl zRc zFill)) ?_
                 refine zTF 4 6 1 false ?_
                 refine aany_one 5 zKr rfl (.none rfl) ?_
                 refine zSt ?_; refine aops_nil ?_; refine zTF 6 15 1 false ?_
                 refine aany_one 7 zKr rfl (.none rfl) ?_
                 refine zSt ?_; refine aops_nil ?_; refine zTF 8 16 1 false ?_
                 refine aany_one 9 zKr rfl (.none rfl) ?_
                 refine zSt ?_; refine aops_nil ?_; refine zTF 10 13 2 true ?_
                 refine aany_one 11 zKr rfl (.none rfl) ?_
                 refine zSt ?_; refine aops_nil ?_; refine zTF 12 11 2 true ?_
                 refine aany_one 13 zKr rfl (.none rfl) ?_
                 refine zSt ?_; refine aops_nil ?_; refine aany_nil zKr ?_
                 all_goals (
                   refine blockQ_n ?_; refine seqQ_n ?_; refine zS ?_; refine zLd ?_; refine zSt ?_; refine zN ?_; refine awp_ret ?_
                   first
                   | (have := mk69f; exact post_ret (.cell rfl zUpd rfl rfl .nil) zKeep ⟨m, rfl, StepR.refl hI, rfl⟩)
                   | (have := mk44t; have := mk57t; exact post_ret (.cell rfl zUpd rfl rfl .nil) zKeep ⟨{ m with bal := ⟨max m.bal.n hi, sv⟩, prep := ⟨hi, sv⟩, phase := 2, low := lo, high := hi, conf := ⟨hi, sv⟩, prime := Bal.none }, rfl, stepR_12 hI hp1 hyy.1 hyy.2.1 hyy.2.2 (.inr rfl) (.inr rfl), rfl⟩)
                   | (have := mk44t; have := mk57f; exact post_ret (.cell rfl zUpd rfl rfl .nil) zKeep ⟨{ m with bal := ⟨max m.bal.n hi, sv⟩, prep := m.prep, phase := 2, low := lo, high := hi, conf := ⟨hi, sv⟩, prime := Bal.none }, rfl, stepR_12 hI hp1 hyy.1 hyy.2.1 hyy.2.2 (.inr rfl) (.inl rfl), rfl⟩)
                   | (have := mk44f; have := mk57t; exact post_ret (.cell rfl zUpd rfl rfl .nil) zKeep ⟨{ m with bal := m.bal, prep := ⟨hi, sv⟩, phase := 2, low := lo, high := hi, conf := ⟨hi, sv⟩, prime := Bal.none }, rfl, stepR_12 hI hp1 hyy.1 hyy.2.1 hyy.2.2 (.inl rfl) (.inr rfl), rfl⟩)
                   | (have := mk44f; have := mk57f; exact post_ret (.cell rfl zUpd rfl rfl .nil) zKeep ⟨{ m with bal := m.bal, prep := m.prep, phase := 2, low := lo, high := hi, conf := ⟨hi, sv⟩, prime := Bal.none }, rfl, stepR_12 hI hp1 hyy.1 hyy.2.1 hyy.2.2 (.inl rfl) (.inl rfl), rfl⟩)
                   | (have h9 : m.phase = 2 := hp2; exact post_ret (.cell rfl zUpd rfl rfl .nil) zKeep ⟨{ m with low := r, high := k, bal := ⟨max m.bal.n k, m.bal.v⟩, conf := ⟨max m.conf.n k, m.bal.v⟩, prep := ⟨max m.prep.n k, m.prep.v⟩ }, rfl, stepR_ext hI hp2 hr hk hrk, rfl⟩)
                   )
               · have mk57f : True := trivial
                 refine awp_skip ?_; refine seqQ_n ?_
                 refine awp_draw (Hm := [.box b1 _ _]) zKr zSplit ?_
                 refine zT 0 rfl (AP.ar (ap_move rfl)) ?_
                 refine zT 1 rfl (AP.ar (ap_move rfl)) ?_
                 refine zTM 2 ?_
                 refine zT 3 rfl (AP.ar (ap_build zKr rfl zRc zFill)) ?_
                 refine zTF 4 6 1 false ?_
                 refine aany_one 5 zKr rfl (.none rfl) ?_
                 refine zSt ?_; refine aops_nil ?_; refine zTF 6 15 1 false ?_
                 refine aany_one 7 zKr rfl (.none rfl) ?_
                 refine zSt ?_; refine aops_nil ?_; refine zTF 8 16 1 false ?_
                 refine aany_one 9 zKr rfl (.none rfl) ?_
                 refine zSt ?_; refine aops_nil ?_; refine zTF 10 13 2 true ?_
                 refine aany_one 11 zKr rfl (.none rfl) ?_
                 refine zSt ?_; refine aops_nil ?_; refine zTF 12 11 2 true ?_
                 refine aany_one 13 zKr rfl (.none rfl) ?_
                 refine zSt ?_; refine aops_nil ?_; refine aany_nil zKr ?_
                 all_goals (
                   refine blockQ_n ?_; refine seqQ_n ?_; refine zS ?_; refine zLd ?_; refine zSt ?_; refine zN ?_; refine awp_ret ?_
                   first
                   | (have := mk69f; exact post_ret (.cell rfl zUpd rfl rfl .nil) zKeep ⟨m, rfl, StepR.refl hI, rfl⟩)
                   | (have := mk44t; have := mk57t; exact post_ret (.cell rfl zUpd rfl rfl .nil) zKeep ⟨{ m with bal := ⟨max m.bal.n hi, sv⟩, prep := ⟨hi, sv⟩, phase := 2, low := lo, high := hi, conf := ⟨hi, sv⟩, prime := Bal.none }, rfl, stepR_12 hI hp1 hyy.1 hyy.2.1 hyy.2.2 (.inr rfl) (.inr rfl), rfl⟩)
                   | (have := mk44t; have := mk57f; exact post_ret (.cell rfl zUpd rfl rfl .nil) zKeep ⟨{ m with bal := ⟨max m.bal.n hi, sv⟩, prep := m.prep, phase := 2, low := lo, high := hi, conf := ⟨hi, sv⟩, prime := Bal.none }, rfl, stepR_12 hI hp1 hyy.1 hyy.2.1 hyy.2.2 (.inr rfl) (.inl rfl), rfl⟩)
                   | (have := mk44f; have := mk57t; exact post_ret (.cell rfl zUpd rfl rfl .nil) zKeep ⟨{ m with bal := m.bal, prep := ⟨hi, sv⟩, phase := 2, low := lo, high := hi, conf := ⟨hi, sv⟩, prime := Bal.none }, rfl, stepR_12 hI hp1 hyy.1 hyy.2.1 hyy.2.2 (.inl rfl) (.inr rfl), rfl⟩)
                   | (have := mk44f; have := mk57f; exact post_ret (.cell rfl zUpd rfl rfl .nil) zKeep ⟨{ m with bal := m.bal, prep := m.prep, phase := 2, low := lo, high := hi, conf := ⟨hi, sv⟩, prime := Bal.none }, rfl, stepR_12 hI hp1 hyy.1 hyy.2.1 hyy.2.2 (.inl rfl) (.inl rfl), rfl⟩)
                   | (have h9 : m.phase = 2 := hp2; exact post_ret (.cell rfl zUpd rfl rfl .nil) zKeep ⟨{ m with low := r, high := k, bal := ⟨max m.bal.n k, m.bal.v⟩, conf := ⟨max m.conf.n k, m.bal.v⟩, prep := ⟨max m.prep.n k, m.prep.v⟩ }, rfl, stepR_ext hI hp2 hr hk hrk, rfl⟩)
                   )
              )
          · first
            | (exact absurd hc (by decide))
            | (have mk44f : True := trivial
               refine awp_skip ?_; refine seqQ_n ?_; refine awp_seq ?_; refine zS ?_; refine zF 9 2 true ?_; refine zLd ?_; refine zLd ?_
               refine aops_call_v zRc (rcov_con m.prep ⟨hi, sv⟩) rfl rfl ?_
               refine zNo ?_; refine zN ?_
               refine zC (fun hc => ?_) fun hc => ?_
               · have mk57t : True := trivial
                 refine awp_region ?_; refine zLd ?_; refine zF 9 2 true ?_; refine zSt ?_; refine zN ?_
                 refine awp_draw (Hm := [.box b1 _ _]) zKr zSplit ?_
                 refine zT 0 rfl (AP.ar (ap_move rfl)) ?_
                 refine zT 1 rfl (AP.ar (ap_move rfl)) ?_
                 refine zTM 2 ?_
                 refine zT 3 rfl (AP.ar (ap_build zKr rfl zRc zFill)) ?_
                 refine zTF 4 6 1 false ?_
                 refine aany_one 5 zKr rfl (.none rfl) ?_
                 refine zSt ?_; refine aops_nil ?_; refine zTF 6 15 1 false ?_
                 refine aany_one 7 zKr rfl (.none rfl) ?_
                 refine zSt ?_; refine aops_nil ?_; refine zTF 8 16 1 false ?_
                 refine aany_one 9 zKr rfl (.none rfl) ?_
                 refine zSt ?_; refine aops_nil ?_; refine zTF 10 13 2 true ?_
                 refine aany_one 11 zKr rfl (.none rfl) ?_
                 refine zSt ?_; refine aops_nil ?_; refine zTF 12 11 2 true ?_
                 refine aany_one 13 zKr rfl (.none rfl) ?_
                 refine zSt ?_; refine aops_nil ?_; refine aany_nil zKr ?_
                 all_goals (
                   refine blockQ_n ?_; refine seqQ_n ?_; refine zS ?_; refine zLd ?_; refine zSt ?_; refine zN ?_; refine awp_ret ?_
                   first
                   | (have := mk69f; exact post_ret (.cell rfl zUpd rfl rfl .nil) zKeep ⟨m, rfl, StepR.refl hI, rfl⟩)
                   | (have := mk44t; have := mk57t; exact post_ret (.cell rfl zUpd rfl rfl .nil) zKeep ⟨{ m with bal := ⟨max m.bal.n hi, sv⟩, prep := ⟨hi, sv⟩, phase := 2, low := lo, high := hi, conf := ⟨hi, sv⟩, prime := Bal.none }, rfl, stepR_12 hI hp1 hyy.1 hyy.2.1 hyy.2.2 (.inr rfl) (.inr rfl), rfl⟩)
                   | (have := mk44t; have := mk57f; exact post_ret (.cell rfl zUpd rfl rfl .nil) zKeep ⟨{ m with bal := ⟨max m.bal.n hi, sv⟩, prep := m.prep, phase := 2, low := lo, high := hi, conf := ⟨hi, sv⟩, prime := Bal.none }, rfl, stepR_12 hI hp1 hyy.1 hyy.2.1 hyy.2.2 (.inr rfl) (.inl rfl), rfl⟩)
                   | (have := mk44f; have := mk57t; exact post_ret (.cell rfl zUpd rfl rfl .nil) zKeep ⟨{ m with bal := m.bal, prep := ⟨hi, sv⟩, phase := 2, low := lo, high := hi, conf := ⟨hi, sv⟩, prime := Bal.none }, rfl, stepR_12 hI hp1 hyy.1 hyy.2.1 hyy.2.2 (.inl rfl) (.inr rfl), rfl⟩)
                   | (have := mk44f; have := mk57f; exact post_ret (.cell rfl zUpd rfl rfl .nil) zKeep ⟨{ m with bal := m.bal, prep := m.prep, phase := 2, low := lo, high := hi, conf := ⟨hi, sv⟩, prime := Bal.none }, rfl, stepR_12 hI hp1 hyy.1 hyy.2.1 hyy.2.2 (.inl rfl) (.inl rfl), rfl⟩)
                   | (have h9 : m.phase = 2 := hp2; exact post_ret (.cell rfl zUpd rfl rfl .nil) zKeep ⟨{ m with low := r, high := k, bal := ⟨max m.bal.n k, m.bal.v⟩, conf := ⟨max m.conf.n k, m.bal.v⟩, prep := ⟨max m.prep.n k, m.prep.v⟩ }, rfl, stepR_ext hI hp2 hr hk hrk, rfl⟩)
                   )
               · have mk57f : True := trivial
                 refine awp_skip ?_; refine seqQ_n ?_
                 refine awp_draw (Hm := [.box b1 _ _]) zKr zSplit ?_
                 refine zT 0 rfl (AP.ar (ap_move rfl)) ?_
                 refine zT 1 rfl (AP.ar (ap_move rfl)) ?_
                 refine zTM 2 ?_
                 refine zT 3 rfl (AP.ar (ap_build zKr rfl zRc zFill)) ?_
                 refine zTF 4 6 1 false ?_
                 refine aany_one 5 zKr rfl (.none rfl) ?_
                 refine zSt ?_; refine aops_nil ?_; refine zTF 6 15 1 false ?_
                 refine aany_one 7 zKr rfl (.none rfl) ?_
                 refine zSt ?_; refine aops_nil ?_; refine zTF 8 16 1 false ?_
                 refine aany_one 9 zKr rfl (.none rfl) ?_
                 refine zSt ?_; refine aops_nil ?_; refine zTF 10 13 2 true ?_
                 refine aany_one 11 zKr rfl (.none rfl) ?_
                 refine zSt ?_; refine aops_nil ?_; refine zTF 12 11 2 true ?_
                 refine aany_one 13 zKr rfl (.none rfl) ?_
                 refine zSt ?_; refine aops_nil ?_; refine aany_nil zKr ?_
                 all_goals (
                   refine blockQ_n ?_; refine seqQ_n ?_; refine zS ?_; refine zLd ?_; refine zSt ?_; refine zN ?_; refine awp_ret ?_
                   first
                   | (have := mk69f; exact post_ret (.cell rfl zUpd rfl rfl .nil) zKeep ⟨m, rfl, StepR.refl hI, rfl⟩)
                   | (have := mk44t; have := mk57t; exact post_ret (.cell rfl zUpd rfl rfl .nil) zKeep ⟨{ m with bal := ⟨max m.bal.n hi, sv⟩, prep := ⟨hi, sv⟩, phase := 2, low := lo, high := hi, conf := ⟨hi, sv⟩, prime := Bal.none }, rfl, stepR_12 hI hp1 hyy.1 hyy.2.1 hyy.2.2 (.inr rfl) (.inr rfl), rfl⟩)
                   | (have := mk44t; have := mk57f; exact post_ret (.cell rfl zUpd rfl rfl .nil) zKeep ⟨{ m with bal := ⟨max m.bal.n hi, sv⟩, prep := m.prep, phase := 2, low := lo, high := hi, conf := ⟨hi, sv⟩, prime := Bal.none }, rfl, stepR_12 hI hp1 hyy.1 hyy.2.1 hyy.2.2 (.inr rfl) (.inl rfl), rfl⟩)
                   | (have := mk44f; have := mk57t; exact post_ret (.cell rfl zUpd rfl rfl .nil) zKeep ⟨{ m with bal := m.bal, prep := ⟨hi, sv⟩, phase := 2, low := lo, high := hi, conf := ⟨hi, sv⟩, prime := Bal.none }, rfl, stepR_12 hI hp1 hyy.1 hyy.2.1 hyy.2.2 (.inl rfl) (.inr rfl), rfl⟩)
                   | (have := mk44f; have := mk57f; exact post_ret (.cell rfl zUpd rfl rfl .nil) zKeep ⟨{ m with bal := m.bal, prep := m.prep, phase := 2, low := lo, high := hi, conf := ⟨hi, sv⟩, prime := Bal.none }, rfl, stepR_12 hI hp1 hyy.1 hyy.2.1 hyy.2.2 (.inl rfl) (.inl rfl), rfl⟩)
                   | (have h9 : m.phase = 2 := hp2; exact post_ret (.cell rfl zUpd rfl rfl .nil) zKeep ⟨{ m with low := r, high := k, bal := ⟨max m.bal.n k, m.bal.v⟩, conf := ⟨max m.conf.n k, m.bal.v⟩, prep := ⟨max m.prep.n k, m.prep.v⟩ }, rfl, stepR_ext hI hp2 hr hk hrk, rfl⟩)
                   )
              )
          )
      )
  · have hp1 : ¬ m.phase = 1 := of_decide_eq_false hc
    refine zS ?_; refine zCm ?_; refine zAs ?_; refine zN ?_
    refine zC (fun hc => ?_) fun hc => ?_
    · have hp2 : m.phase = 2 := of_decide_eq_true hc
      refine awp_seq ?_
      refine awp_draw2 (stB [18, 19, 20]) zKr ?_
      first | refine aany2_pure 0 rfl (.none rfl) zKr zKr zKr (ap_fieldAddr (off := 0) (sz := 1) (g := false) rfl rfl) rfl rfl ?_ | refine aany2_pure 0 rfl (.none rfl) zKr zKr zKr (ap_fieldAddr_el (off := 0) (sz := 1) (g := false) rfl rfl zRc) rfl rfl ?_
      first | refine aany2_take 1 rfl (.none rfl) zKr zKr zKr zKr (stB_out zKr) (aq_load1 rfl zUpd List.not_mem_nil rfl zRc) rfl rfl ?_ | refine aany2_take 1 rfl (.none rfl) zKr zKr zKr zKr (stB_out zKr) (aq_load_el1 rfl rfl zScal (fun _ h => absurd h List.not_mem_nil)) rfl rfl ?_ | refine aany2_take 1 rfl (.none rfl) zKr zKr zKr zKr (stB_out zKr) (aq_load_el1' rfl rfl zScal (fun _ h => absurd h List.not_mem_nil)) rfl rfl ?_ | refine aany2_take 1 rfl (.none rfl) zKr zKr zKr zKr (stB_out zKr) (aq_load_own1 rfl zUpd List.not_mem_nil rfl zAss zScal) rfl rfl ?_
      first | refine aany2_pure 2 rfl (.none rfl) zKr zKr zKr (ap_fieldAddr (off := 3) (sz := 3) (g := true) rfl rfl) rfl rfl ?_ | refine aany2_pure 2 rfl (.none rfl) zKr zKr zKr (ap_fieldAddr_el (off := 3) (sz := 3) (g := true) rfl rfl zRc) rfl rfl ?_
      first | refine aany2_take 3 rfl (.none rfl) zKr zKr zKr zKr (stB_out zKr) (aq_load rfl zUpd List.not_mem_nil rfl rfl zRc) rfl rfl ?_ | refine aany2_take 3 rfl (.none rfl) zKr zKr zKr zKr (stB_out zKr) (aq_load_el rfl rfl rfl rfl (fun _ h => absurd h List.not_mem_nil)) rfl rfl ?_
      first | refine aany2_take 4 rfl (.none rfl) zKr zKr zKr zKr (stB_out zKr) (aq_load rfl zUpd List.not_mem_nil rfl rfl zRc) rfl rfl ?_ | refine aany2_take 4 rfl (.none rfl) zKr zKr zKr zKr (stB_out zKr) (aq_load_el rfl rfl rfl rfl (fun _ h => absurd h List.not_mem_nil)) rfl rfl ?_
      first | refine aany2_pure 6 rfl (.none rfl) zKr zKr zKr (ap_fieldAddr (off := 7) (sz := 2) (g := true) rfl rfl) rfl rfl ?_ | refine aany2_pure 6 rfl (.none rfl) zKr zKr zKr (ap_fieldAddr_el (off := 7) (sz := 2) (g := true) rfl rfl zRc) rfl rfl ?_
      first | refine aany2_pure 7 rfl (.none rfl) zKr zKr zKr (ap_fieldAddr (off := 1) (sz := 1) (g := false) rfl rfl) rfl rfl ?_ | refine aany2_pure 7 rfl (.none rfl) zKr zKr zKr (ap_fieldAddr_el (off := 1) (sz := 1) (g := false) rfl rfl zRc) rfl rfl ?_
      first | refine aany2_take 8 rfl (.none rfl) zKr zKr zKr zKr (stB_out zKr) (aq_load1 rfl zUpd List.not_mem_nil rfl zRc) rfl rfl ?_ | refine aany2_take 8 rfl (.none rfl) zKr zKr zKr zKr (stB_out zKr) (aq_load_el1 rfl rfl zScal (fun _ h => absurd h List.not_mem_nil)) rfl rfl ?_ | refine aany2_take 8 rfl (.none rfl) zKr zKr zKr zKr (stB_out zKr) (aq_load_el1' rfl rfl zScal (fun _ h => absurd h List.not_mem_nil)) rfl rfl ?_ | refine aany2_take 8 rfl (.none rfl) zKr zKr zKr zKr (stB_out zKr) (aq_load_own1 rfl zUpd List.not_mem_nil rfl zAss zScal) rfl rfl ?_
      first | refine aany2_pure 9 rfl (.none rfl) zKr zKr zKr (ap_fieldAddr (off := 15) (sz := 1) (g := false) rfl rfl) rfl rfl ?_ | refine aany2_pure 9 rfl (.none rfl) zKr zKr zKr (ap_fieldAddr_el (off := 15) (sz := 1) (g := false) rfl rfl zRc) rfl rfl ?_
      first | refine aany2_take 10 rfl (.none rfl) zKr zKr zKr zKr (stB_out zKr) (aq_load1 rfl zUpd List.not_mem_nil rfl zRc) rfl rfl ?_ | refine aany2_take 10 rfl (.none rfl) zKr zKr zKr zKr (stB_out zKr) (aq_load_el1 rfl rfl zScal (fun _ h => absurd h List.not_mem_nil)) rfl rfl ?_ | refine aany2_take 10 rfl (.none rfl) zKr zKr zKr zKr (stB_out zKr) (aq_load_el1' rfl rfl zScal (fun _ h => absurd h List.not_mem_nil)) rfl rfl ?_ | refine aany2_take 10 rfl (.none rfl) zKr zKr zKr zKr (stB_out zKr) (aq_load_own1 rfl zUpd List.not_mem_nil rfl zAss zScal) rfl rfl ?_
      first | refine aany2_pure 11 rfl (.none rfl) zKr zKr zKr (ap_fieldAddr (off := 16) (sz := 1) (g := false) rfl rfl) rfl rfl ?_ | refine aany2_pure 11 rfl (.none rfl) zKr zKr zKr (ap_fieldAddr_el (off := 16) (sz := 1) (g := false) rfl rfl zRc) rfl rfl ?_
      first | refine aany2_take 12 rfl (.none rfl) zKr zKr zKr zKr (stB_out zKr) (aq_load1 rfl zUpd List.not_mem_nil rfl zRc) rfl rfl ?_ | refine aany2_take 12 rfl (.none rfl) zKr zKr zKr zKr (stB_out zKr) (aq_load_el1 rfl rfl zScal (fun _ h => absurd h List.not_mem_nil)) rfl rfl ?_ | refine aany2_take 12 rfl (.none rfl) zKr zKr zKr zKr (stB_out zKr) (aq_load_el1' rfl rfl zScal (fun _ h => absurd h List.not_mem_nil)) rfl rfl ?_ | refine aany2_take 12 rfl (.none rfl) zKr zKr zKr zKr (stB_out zKr) (aq_load_own1 rfl zUpd List.not_mem_nil rfl zAss zScal) rfl rfl ?_
      refine aany2_call 5 zKr rfl zRc (rall_con m (by omega) (by omega) hhs) rfl rfl ?_
      rintro _ _ ⟨l, rfl, ⟨hl1, hl2⟩, rfl⟩
      refine ⟨rfl, ?_⟩
      refine aany2_call 13 zKr rfl zRc (rextend_con m.node m.t l (by omega) hl2 m.bal.v m.low m.high hI.low hI.high) rfl rfl ?_
      rintro _ _ ⟨r, k, rfl, ⟨hr, hk, hrk⟩, rfl⟩
      refine ⟨rfl, ?_⟩
      refine aany2_pure 14 rfl (.none rfl) zKr zKr zKr (ap_move rfl) rfl rfl ?_
      refine aany2_pure 15 rfl (.none rfl) zKr zKr zKr (ap_extract rfl rfl) rfl rfl ?_
      refine aany2_pure 16 rfl (.none rfl) zKr zKr zKr (ap_extract rfl rfl) rfl rfl ?_
      first | refine aany2_pure 17 rfl (.none rfl) zKr zKr zKr (ap_fieldAddr (off := 15) (sz := 1) (g := false) rfl rfl) rfl rfl ?_ | refine aany2_pure 17 rfl (.none rfl) zKr zKr zKr (ap_fieldAddr_el (off := 15) (sz := 1) (g := false) rfl rfl zRc) rfl rfl ?_
      refine aany2_switch (Hm := [.box b1 _ _]) zKr zKr zSplit ?_
      refine aany_one 18 zKr rfl (.none rfl) ?_
      refine zSt ?_; refine aops_nil ?_; refine zTF 19 16 1 false ?_
      refine aany_one 20 zKr rfl (.none rfl) ?_
      refine zSt ?_; refine aops_nil ?_; refine aany_nil zKr ?_
      all_goals (
        refine seqQ_n ?_; refine zS ?_; refine zF 7 2 true ?_; refine zF 0 1 false ?_; refine zL1 ?_; refine zF 16 1 false ?_; refine zL1 ?_
        refine zP (ap_max rfl rfl) ?_
        refine zF 7 2 true ?_; refine zF 0 1 false ?_; refine zSt ?_; refine zN (zS ?_); refine zF 13 2 true ?_; refine zF 0 1 false ?_; refine zL1 ?_; refine zF 16 1 false ?_; refine zL1 ?_
        refine zP (ap_max rfl rfl) ?_
        refine zF 7 2 true ?_; refine zF 1 1 false ?_; refine zL1 ?_
        refine zP (ap_build zKr rfl zRc zFill) ?_
        refine zF 13 2 true ?_; refine zSt ?_; refine zN ?_; refine awp_region ?_; refine zF 9 2 true ?_; refine zF 0 1 false ?_; refine zL1 ?_; refine zF 16 1 false ?_; refine zL1 ?_
        refine zP (ap_max rfl rfl) ?_
        refine zF 9 2 true ?_; refine zF 0 1 false ?_; refine zSt ?_; refine aops_nil ?_; refine blockQ_n ?_; refine seqQ_n ?_; refine zS ?_; refine zLd ?_; refine zSt ?_; refine zN ?_; refine awp_ret ?_
        first
        | (have := mk69f; exact post_ret (.cell rfl zUpd rfl rfl .nil) zKeep ⟨m, rfl, StepR.refl hI, rfl⟩)
        | (have := mk44t; have := mk57t; exact post_ret (.cell rfl zUpd rfl rfl .nil) zKeep ⟨{ m with bal := ⟨max m.bal.n hi, sv⟩, prep := ⟨hi, sv⟩, phase := 2, low := lo, high := hi, conf := ⟨hi, sv⟩, prime := Bal.none }, rfl, stepR_12 hI hp1 hyy.1 hyy.2.1 hyy.2.2 (.inr rfl) (.inr rfl), rfl⟩)
        | (have := mk44t; have := mk57f; exact post_ret (.cell rfl zUpd rfl rfl .nil) zKeep ⟨{ m with bal := ⟨max m.bal.n hi, sv⟩, prep := m.prep, phase := 2, low := lo, high := hi, conf := ⟨hi, sv⟩, prime := Bal.none }, rfl, stepR_12 hI hp1 hyy.1 hyy.2.1 hyy.2.2 (.inr rfl) (.inl rfl), rfl⟩)
        | (have := mk44f; have := mk57t; exact post_ret (.cell rfl zUpd rfl rfl .nil) zKeep ⟨{ m with bal := m.bal, prep := ⟨hi, sv⟩, phase := 2, low := lo, high := hi, conf := ⟨hi, sv⟩, prime := Bal.none }, rfl, stepR_12 hI hp1 hyy.1 hyy.2.1 hyy.2.2 (.inl rfl) (.inr rfl), rfl⟩)
        | (have := mk44f; have := mk57f; exact post_ret (.cell rfl zUpd rfl rfl .nil) zKeep ⟨{ m with bal := m.bal, prep := m.prep, phase := 2, low := lo, high := hi, conf := ⟨hi, sv⟩, prime := Bal.none }, rfl, stepR_12 hI hp1 hyy.1 hyy.2.1 hyy.2.2 (.inl rfl) (.inl rfl), rfl⟩)
        | (have h9 : m.phase = 2 := hp2; exact post_ret (.cell rfl zUpd rfl rfl .nil) zKeep ⟨{ m with low := r, high := k, bal := ⟨max m.bal.n k, m.bal.v⟩, conf := ⟨max m.conf.n k, m.bal.v⟩, prep := ⟨max m.prep.n k, m.prep.v⟩ }, rfl, stepR_ext hI hp2 hr hk hrk, rfl⟩)
        )
    · have mk69f : True := trivial
      refine awp_skip ?_; refine blockQ_n ?_; refine seqQ_n ?_; refine zS ?_; refine zLd ?_; refine zSt ?_; refine zN ?_; refine awp_ret ?_
      first
      | (have := mk69f; exact post_ret (.cell rfl zUpd rfl rfl .nil) zKeep ⟨m, rfl, StepR.refl hI, rfl⟩)
      | (have := mk44t; have := mk57t; exact post_ret (.cell rfl zUpd rfl rfl .nil) zKeep ⟨{ m with bal := ⟨max m.bal.n hi, sv⟩, prep := ⟨hi, sv⟩, phase := 2, low := lo, high := hi, conf := ⟨hi, sv⟩, prime := Bal.none }, rfl, stepR_12 hI hp1 hyy.1 hyy.2.1 hyy.2.2 (.inr rfl) (.inr rfl), rfl⟩)
      | (have := mk44t; have := mk57f; exact post_ret (.cell rfl zUpd rfl rfl .nil) zKeep ⟨{ m with bal := ⟨max m.bal.n hi, sv⟩, prep := m.prep, phase := 2, low := lo, high := hi, conf := ⟨hi, sv⟩, prime := Bal.none }, rfl, stepR_12 hI hp1 hyy.1 hyy.2.1 hyy.2.2 (.inr rfl) (.inl rfl), rfl⟩)
      | (have := mk44f; have := mk57t; exact post_ret (.cell rfl zUpd rfl rfl .nil) zKeep ⟨{ m with bal := m.bal, prep := ⟨hi, sv⟩, phase := 2, low := lo, high := hi, conf := ⟨hi, sv⟩, prime := Bal.none }, rfl, stepR_12 hI hp1 hyy.1 hyy.2.1 hyy.2.2 (.inl rfl) (.inr rfl), rfl⟩)
      | (have := mk44f; have := mk57f; exact post_ret (.cell rfl zUpd rfl rfl .nil) zKeep ⟨{ m with bal := m.bal, prep := m.prep, phase := 2, low := lo, high := hi, conf := ⟨hi, sv⟩, prime := Bal.none }, rfl, stepR_12 hI hp1 hyy.1 hyy.2.1 hyy.2.2 (.inl rfl) (.inl rfl), rfl⟩)
      | (have h9 : m.phase = 2 := hp2; exact post_ret (.cell rfl zUpd rfl rfl .nil) zKeep ⟨{ m with low := r, high := k, bal := ⟨max m.bal.n k, m.bal.v⟩, conf := ⟨max m.conf.n k, m.bal.v⟩, prep := ⟨max m.prep.n k, m.prep.v⟩ }, rfl, stepR_ext hI hp2 hr hk hrk, rfl⟩)
set_option maxHeartbeats 2000000 in
theorem rfinalm_con (m : Mach) (hI : InvM m) : Con Tryz.prog 96 [mcv m] [] (fun d H => ∃ m' : Mach, d = mcv m' ∧ StepR m m' ∧ H = []) := by
  have hcap : capB = 140737488355328 := rfl
  have hsz1 := hI.sz
  have hhl := hI.hl
  have hhs : ∀ e ∈ m.heard, sizeT e.t ≤ 200000 := fun e he => by have := (hI.hs e he).1; omega
  have hbn := hI.baln
  have hbn0 := hI.bal.n0
  have hlw := hI.low
  have hhg := hI.high
  have hmlen : (m.heard.map ev).length = m.heard.length := by simp
  refine con_intro Tryz.func96 rfl Tryz.call96 rfl ?_
  refine zS ?_
  refine aops_box rfl zFlat rfl rfl (fun b1 => ?_)
  refine aops_alloc rfl zRc rfl rfl (fun b2 => ?_)
  refine zN ?_; refine awp_seq ?_; refine zS ?_; refine zF 6 1 false ?_; refine zL1 ?_; refine zCm ?_; refine zN ?_
  refine zC (fun hc => ?_) fun hc => ?_
  · refine awp_seq ?_
    refine awp_region ?_; refine zLd ?_; refine zSt ?_; refine zN ?_; refine awp_ret ?_; refine seqQ_r ?_
    exact post_ret (.cell rfl zUpd rfl rfl .nil) zKeep ⟨m, rfl, StepR.refl hI, rfl⟩
  · have hp2 : m.phase = 2 := of_neq_false hc
    refine awp_skip ?_; refine seqQ_n ?_; refine awp_seq ?_
    refine awp_draw (Hm := []) zKr zSplit ?_
    refine zTF 0 0 1 false ?_; refine zTL 1 ?_; refine zTF 2 3 3 true ?_; refine zTM 3 ?_; refine zTM 4 ?_; refine zTF 6 7 2 true ?_; refine zTF 7 1 1 false ?_; refine zTL 8 ?_
    refine aany_one 5 zKr rfl (.none rfl) ?_
    (refine aops_call zRc (rall_con m (by omega) (by omega) hhs) zSplit rfl rfl ?_; rintro _ _ ⟨l, rfl, ⟨hl1, hl2⟩, rfl⟩)
    refine aops_nil ?_
    refine aany_one 9 zKr rfl (.none rfl) ?_
    (refine aops_call zRc (rfinal_con m.node m.t l (by omega) hl2 m.bal.v) zSplit rfl rfl ?_; rintro _ _ ⟨r, k, y, rfl, hy, rfl⟩)
    refine aops_nil ?_
    refine zT 10 rfl (AP.ar (ap_move rfl)) ?_
    refine zT 11 rfl (AP.ar (ap_extract rfl rfl)) ?_
    refine zT 12 rfl (AP.ar (ap_extract rfl rfl)) ?_
    refine zT 13 rfl (AP.ar (ap_extract rfl rfl)) ?_
    refine zT 14 rfl (AP.ar (ap_assign rfl)) ?_
    refine zT 15 rfl (AP.ar (ap_assign rfl)) ?_
    refine zT 16 rfl (AP.ar (ap_assign rfl)) ?_
    refine aany_nil zKr ?_
    all_goals (
      refine seqQ_n ?_; refine awp_seq ?_; refine zS ?_; refine zMv ?_; refine zNo ?_; refine zN ?_
      refine zC (fun hc => ?_) fun hc => ?_
      · refine awp_seq ?_
        refine awp_region ?_; refine zLd ?_; refine zSt ?_; refine zN ?_; refine awp_ret ?_; refine seqQ_r ?_
        exact post_ret (.cell rfl zUpd rfl rfl .nil) zKeep ⟨m, rfl, StepR.refl hI, rfl⟩
      · have hyy := hy (not_f hc)
        refine awp_skip ?_; refine seqQ_n ?_; refine zS ?_; refine zMv ?_; refine zMv ?_; refine zF 6 1 false ?_; refine zSt ?_; refine zF 15 1 false ?_; refine zSt ?_; refine zF 16 1 false ?_; refine zSt ?_; refine zN (zS ?_); refine zMv ?_; refine zF 7 2 true ?_; refine zF 0 1 false ?_; refine zSt ?_; refine zN (zS ?_)
        refine zP (ap_build zKr rfl zRc zFill) ?_
        refine zP (ap_build zKr rfl zRc zFill) ?_
        refine zP (ap_build zKr rfl zRc zFill) ?_
        refine zF 9 2 true ?_; refine zSt ?_; refine zF 11 2 true ?_; refine zSt ?_; refine zF 13 2 true ?_; refine zSt ?_; refine zN (zS ?_); refine zLd ?_; refine zSt ?_; refine zN ?_; refine awp_ret ?_
        exact post_ret (.cell rfl zUpd rfl rfl .nil) zKeep ⟨{ m with phase := 3, low := r, high := k, bal := ⟨k, m.bal.v⟩, prep := Bal.none, prime := Bal.none, conf := Bal.none }, rfl, stepR_3 hI hp2 hyy.1 hyy.2, rfl⟩
      )
set_option maxHeartbeats 2000000 in
theorem rcaught_con (m : Mach) (hI : InvM m) : Con Tryz.prog 97 [mcv m] [] (fun d H => ∃ m' : Mach, d = mcv m' ∧ StepR m m' ∧ H = []) := by
  have hcap : capB = 140737488355328 := rfl
  have hsz1 := hI.sz
  have hhl := hI.hl
  have hhs : ∀ e ∈ m.heard, sizeT e.t ≤ 200000 := fun e he => by have := (hI.hs e he).1; omega
  have hbn := hI.baln
  have hbn0 := hI.bal.n0
  have hlw := hI.low
  have hhg := hI.high
  have hmlen : (m.heard.map ev).length = m.heard.length := by simp
  refine con_intro Tryz.func97 rfl Tryz.call97 rfl ?_
  refine zS ?_
  refine aops_box rfl zFlat rfl rfl (fun b1 => ?_)
  refine aops_alloc rfl zRc rfl rfl (fun b2 => ?_)
  refine zN ?_; refine awp_seq ?_; refine zS ?_; refine zF 6 1 false ?_; refine zL1 ?_; refine zCm ?_; refine zMv ?_
  all_goals first | (refine zY ?_; refine zLd ?_) | refine zU ?_ | refine zNf ?_ | (refine zGf (fun hg => ?_) fun hg => ?_; case' _ => refine zLd ?_)
  all_goals first | (refine zY ?_; refine zF 7 2 true ?_) | refine zU ?_ | refine zNf ?_ | (refine zGf (fun hg => ?_) fun hg => ?_; case' _ => refine zF 7 2 true ?_)
  all_goals first | (refine zY ?_; refine zF 0 1 false ?_) | refine zU ?_ | refine zNf ?_ | (refine zGf (fun hg => ?_) fun hg => ?_; case' _ => refine zF 0 1 false ?_)
  all_goals first | (refine zY ?_; refine zL1 ?_) | refine zU ?_ | refine zNf ?_ | (refine zGf (fun hg => ?_) fun hg => ?_; case' _ => refine zL1 ?_)
  all_goals first | (refine zY ?_; (refine aops_call zRc (rahead_con m (by omega) (by omega) hhs m.bal.n) zSplit rfl rfl ?_; rintro _ _ ⟨y16, rfl, rfl⟩)) | refine zU ?_ | refine zNf ?_ | (refine zGf (fun hg => ?_) fun hg => ?_; case' _ => (refine aops_call zRc (rahead_con m (by omega) (by omega) hhs m.bal.n) zSplit rfl rfl ?_; rintro _ _ ⟨y16, rfl, rfl⟩))
  all_goals first | (refine zY ?_; refine zNo ?_) | refine zU ?_ | refine zNf ?_ | (refine zGf (fun hg => ?_) fun hg => ?_; case' _ => refine zNo ?_)
  all_goals refine zPk ?_
  all_goals (
    refine zN ?_
    refine zC (fun hc => ?_) fun hc => ?_
    · first
      | (exact absurd hc (by decide))
      | (refine awp_seq ?_
         refine awp_region ?_; refine zLd ?_; refine zSt ?_; refine zN ?_; refine awp_ret ?_; refine seqQ_r ?_
         exact post_ret (.cell rfl zUpd rfl rfl .nil) zKeep ⟨m, rfl, StepR.refl hI, rfl⟩
        )
    · first
      | (exact absurd hc (by decide))
      | (have hp3 : ¬ m.phase = 3 := of_decide_eq_false (by first | with_reducible assumption | exact hg)
         have hp12 : m.phase = 1 ∨ m.phase = 2 := by have := hI.ph; omega
         refine awp_skip ?_; refine seqQ_n ?_; refine zS ?_; refine zAs ?_; refine zN ?_; refine awp_seq ?_; refine zS ?_; refine zF 18 1 false ?_; refine zL1 ?_
         first | refine aops_len rfl rfl rfl rfl (fun _ => ?_) | refine zP (ap_len_arr rfl zUpd rfl) ?_ | refine zP (ap_len_nil rfl rfl) ?_
         refine zMv ?_; refine zN ?_; refine awp_block ?_
         refine awp_loop2 [1, 2, 21, 22] [.box b2 _ _, .box b1 _ _] (fun (k : Nat) (best : Int) r => (3, .i best) :: (23, .i (k : Int)) :: r) (fun (k : Nat) (best : Int) r => r) (fun (k : Nat) (best : Int) => k ≤ m.heard.length ∧ 0 ≤ best) (fun (k : Nat) (best : Int) => m.heard.length - k) (0) (1000000) zRc ⟨by omega, by omega⟩ (wk zSub zKeep) ?_
         intro k best ⟨hk, hbest⟩
         refine zS ?_; refine zCm ?_; refine zN ?_; refine awp_seq ?_
         refine zC (fun hc => ?_) fun hc => ?_
         · have hlt := of_decide_eq_true hc
           obtain ⟨x, hx, hd⟩ := drop_cons (l := m.heard) (k := k) (by omega)
           have hx' := getMap ev hx
           have hxs := hhs x (List.mem_of_getElem? hx)
           refine awp_skip ?_; refine seqQ_n ?_; refine awp_seq ?_; refine awp_block ?_; refine zS ?_
           first | refine zP (ap_index rfl rfl rfl rfl (by decide) rfl zAss) ?_ | refine zP (ap_index rfl rfl rfl rfl (by decide) (by omega) zAss) ?_ | refine zP (ap_index_own rfl rfl rfl rfl rfl (by first | omega | (simp only [List.length_map, List.length_set, avs_len]; omega))) ?_
           refine zLd ?_
           refine aops_alloc rfl zRc rfl rfl (fun b5 => ?_)
           refine zSt ?_; refine zN (zS ?_); refine zLd ?_
           refine aops_call_v zRc (rcount_con x (by omega)) rfl rfl ?_
           refine zAs ?_; refine zN (zS ?_); refine zMv ?_; refine zF 7 2 true ?_; refine zF 0 1 false ?_; refine zL1 ?_; refine zCm ?_; refine zMv ?_
           all_goals first | (refine zY ?_; refine zMv ?_) | refine zU ?_ | refine zNt ?_ | (refine zGt (fun hg => ?_) fun hg => ?_; case' _ => refine zMv ?_)
           all_goals first | (refine zY ?_; refine zMv ?_) | refine zU ?_ | refine zNt ?_ | (refine zGt (fun hg => ?_) fun hg => ?_; case' _ => refine zMv ?_)
           all_goals first | (refine zY ?_; refine zCm ?_) | refine zU ?_ | refine zNt ?_ | (refine zGt (fun hg => ?_) fun hg => ?_; case' _ => refine zCm ?_)
           all_goals refine zPk ?_
           all_goals refine zMv ?_
           all_goals first | (refine zY ?_; refine zLd ?_) | refine zU ?_ | refine zNt ?_ | (refine zGt (fun hg => ?_) fun hg => ?_; case' _ => refine zLd ?_)
           all_goals first | (refine zY ?_; refine zMv ?_) | refine zU ?_ | refine zNt ?_ | (refine zGt (fun hg => ?_) fun hg => ?_; case' _ => refine zMv ?_)
           all_goals first | (refine zY ?_; (refine aops_call zRc (rahead_con m (by omega) (by omega) hhs (cntR x)) zSplit rfl rfl ?_; rintro _ _ ⟨y42, rfl, rfl⟩)) | refine zU ?_ | refine zNt ?_ | (refine zGt (fun hg => ?_) fun hg => ?_; case' _ => (refine aops_call zRc (rahead_con m (by omega) (by omega) hhs (cntR x)) zSplit rfl rfl ?_; rintro _ _ ⟨y42, rfl, rfl⟩))
           all_goals first | (refine zY ?_; refine zNo ?_) | refine zU ?_ | refine zNt ?_ | (refine zGt (fun hg => ?_) fun hg => ?_; case' _ => refine zNo ?_)
           all_goals refine zPk ?_
           all_goals (
             refine zN ?_
             refine zC (fun hc => ?_) fun hc => ?_
             · first
               | (exact absurd hc (by decide))
               | (have mk44t : True := trivial
                  refine awp_region ?_; refine zMv ?_; refine zAs ?_; refine aops_nil ?_; refine blockQ_n ?_; refine seqQ_n ?_; refine awp_region ?_; refine zAr ?_; refine zMv ?_; refine zN ?_
                  first
                  | (have := mk44t; have hgt := of_decide_eq_true (show decide (cntR x > m.bal.n) = true by first | with_reducible assumption | exact hg); refine ⟨k + 1, cntR x, ⟨by omega, by omega⟩, by omega, wk zSub zKeep⟩)
                  | (refine ⟨k + 1, best, ⟨by omega, hbest⟩, by omega, wk zSub zKeep⟩)
                 )
             · first
               | (exact absurd hc (by decide))
               | (have mk44f : True := trivial
                  refine awp_skip ?_; refine blockQ_n ?_; refine seqQ_n ?_; refine awp_region ?_; refine zAr ?_; refine zMv ?_; refine zN ?_
                  first
                  | (have := mk44t; have hgt := of_decide_eq_true (show decide (cntR x > m.bal.n) = true by first | with_reducible assumption | exact hg); refine ⟨k + 1, cntR x, ⟨by omega, by omega⟩, by omega, wk zSub zKeep⟩)
                  | (refine ⟨k + 1, best, ⟨by omega, hbest⟩, by omega, wk zSub zKeep⟩)
                 )
             )
         · refine awp_exit ?_
           refine seqQ_x ?_; refine seqQ_x ?_; refine blockQ_x rfl ?_; refine seqQ_n ?_; refine zS ?_; refine zF 7 2 true ?_; refine zF 1 1 false ?_; refine zL1 ?_; refine zAs ?_; refine zN ?_; refine awp_seq ?_; refine zS ?_; refine zF 6 1 false ?_; refine zL1 ?_; refine zCm ?_; refine zN ?_
           refine zC (fun hc => ?_) fun hc => ?_
           · have hp1 : m.phase = 1 := of_decide_eq_true hc
             have mk52t : True := trivial
             refine awp_region ?_; refine zLd ?_
             refine aops_call_v zRc (rvalue_con m (by omega)) rfl rfl ?_
             refine zAs ?_; refine zN ?_; refine awp_seq ?_; refine zS ?_; refine zMv ?_; refine zF 7 2 true ?_; refine zF 1 1 false ?_; refine zL1 ?_
             refine zP (ap_scmp rfl rfl rfl) ?_
             refine zN ?_
             refine zC (fun hc => ?_) fun hc => ?_
             · have hve := sne_t hc
               have mk59t : True := trivial
               refine awp_region ?_; refine zF 15 1 false ?_; refine zSt ?_; refine zN (zS ?_); refine zF 7 2 true ?_; refine zF 0 1 false ?_; refine zL1 ?_; refine zMv ?_
               refine zP (ap_min rfl rfl) ?_
               refine zP (ap_max rfl rfl) ?_
               refine zMv ?_
               refine zP (ap_build zKr rfl zRc zFill) ?_
               refine zF 7 2 true ?_; refine zSt ?_; refine zN (zS ?_); refine zLd ?_; refine zSt ?_; refine zN ?_; refine awp_ret ?_
               first
               | (have := mk52t; have := mk59t; exact post_ret (.cell rfl zUpd rfl rfl .nil) zKeep ⟨{ m with low := 0, bal := ⟨max m.bal.n (min best 1000), valM m⟩ }, rfl, stepR_caught hI hp12 (by omega) (by rw [if_pos hp1]) (by rw [if_neg hve]), rfl⟩)
               | (have := mk52t; have := mk59f; exact post_ret (.cell rfl zUpd rfl rfl .nil) zKeep ⟨{ m with low := m.low, bal := ⟨max m.bal.n (min best 1000), valM m⟩ }, rfl, stepR_caught hI hp12 (by omega) (by rw [if_pos hp1]) (by rw [if_pos hve]), rfl⟩)
               | (have := mk52f; have := mk59t; exact absurd rfl hve)
               | (have := mk52f; have := mk59f; exact post_ret (.cell rfl zUpd rfl rfl .nil) zKeep ⟨{ m with low := m.low, bal := ⟨max m.bal.n (min best 1000), m.bal.v⟩ }, rfl, stepR_caught hI hp12 (by omega) (by rw [if_neg hp1]) (by rw [if_pos rfl]), rfl⟩)
             · have hve := sne_f hc
               have mk59f : True := trivial
               refine awp_skip ?_; refine seqQ_n ?_; refine zS ?_; refine zF 7 2 true ?_; refine zF 0 1 false ?_; refine zL1 ?_; refine zMv ?_
               refine zP (ap_min rfl rfl) ?_
               refine zP (ap_max rfl rfl) ?_
               refine zMv ?_
               refine zP (ap_build zKr rfl zRc zFill) ?_
               refine zF 7 2 true ?_; refine zSt ?_; refine zN (zS ?_); refine zLd ?_; refine zSt ?_; refine zN ?_; refine awp_ret ?_
               first
               | (have := mk52t; have := mk59t; exact post_ret (.cell rfl zUpd rfl rfl .nil) zKeep ⟨{ m with low := 0, bal := ⟨max m.bal.n (min best 1000), valM m⟩ }, rfl, stepR_caught hI hp12 (by omega) (by rw [if_pos hp1]) (by rw [if_neg hve]), rfl⟩)
               | (have := mk52t; have := mk59f; exact post_ret (.cell rfl zUpd rfl rfl .nil) zKeep ⟨{ m with low := m.low, bal := ⟨max m.bal.n (min best 1000), valM m⟩ }, rfl, stepR_caught hI hp12 (by omega) (by rw [if_pos hp1]) (by rw [if_pos hve]), rfl⟩)
               | (have := mk52f; have := mk59t; exact absurd rfl hve)
               | (have := mk52f; have := mk59f; exact post_ret (.cell rfl zUpd rfl rfl .nil) zKeep ⟨{ m with low := m.low, bal := ⟨max m.bal.n (min best 1000), m.bal.v⟩ }, rfl, stepR_caught hI hp12 (by omega) (by rw [if_neg hp1]) (by rw [if_pos rfl]), rfl⟩)
           · have hp1 : ¬ m.phase = 1 := of_decide_eq_false hc
             have mk52f : True := trivial
             refine awp_skip ?_; refine seqQ_n ?_; refine awp_seq ?_; refine zS ?_; refine zMv ?_; refine zF 7 2 true ?_; refine zF 1 1 false ?_; refine zL1 ?_
             refine zP (ap_scmp rfl rfl rfl) ?_
             refine zN ?_
             refine zC (fun hc => ?_) fun hc => ?_
             · have hve := sne_t hc
               have mk59t : True := trivial
               refine awp_region ?_; refine zF 15 1 false ?_; refine zSt ?_; refine zN (zS ?_); refine zF 7 2 true ?_; refine zF 0 1 false ?_; refine zL1 ?_; refine zMv ?_
               refine zP (ap_min rfl rfl) ?_
               refine zP (ap_max rfl rfl) ?_
               refine zMv ?_
               refine zP (ap_build zKr rfl zRc zFill) ?_
               refine zF 7 2 true ?_; refine zSt ?_; refine zN (zS ?_); refine zLd ?_; refine zSt ?_; refine zN ?_; refine awp_ret ?_
               first
               | (have := mk52t; have := mk59t; exact post_ret (.cell rfl zUpd rfl rfl .nil) zKeep ⟨{ m with low := 0, bal := ⟨max m.bal.n (min best 1000), valM m⟩ }, rfl, stepR_caught hI hp12 (by omega) (by rw [if_pos hp1]) (by rw [if_neg hve]), rfl⟩)
               | (have := mk52t; have := mk59f; exact post_ret (.cell rfl zUpd rfl rfl .nil) zKeep ⟨{ m with low := m.low, bal := ⟨max m.bal.n (min best 1000), valM m⟩ }, rfl, stepR_caught hI hp12 (by omega) (by rw [if_pos hp1]) (by rw [if_pos hve]), rfl⟩)
               | (have := mk52f; have := mk59t; exact absurd rfl hve)
               | (have := mk52f; have := mk59f; exact post_ret (.cell rfl zUpd rfl rfl .nil) zKeep ⟨{ m with low := m.low, bal := ⟨max m.bal.n (min best 1000), m.bal.v⟩ }, rfl, stepR_caught hI hp12 (by omega) (by rw [if_neg hp1]) (by rw [if_pos rfl]), rfl⟩)
             · have hve := sne_f hc
               have mk59f : True := trivial
               refine awp_skip ?_; refine seqQ_n ?_; refine zS ?_; refine zF 7 2 true ?_; refine zF 0 1 false ?_; refine zL1 ?_; refine zMv ?_
               refine zP (ap_min rfl rfl) ?_
               refine zP (ap_max rfl rfl) ?_
               refine zMv ?_
               refine zP (ap_build zKr rfl zRc zFill) ?_
               refine zF 7 2 true ?_; refine zSt ?_; refine zN (zS ?_); refine zLd ?_; refine zSt ?_; refine zN ?_; refine awp_ret ?_
               first
               | (have := mk52t; have := mk59t; exact post_ret (.cell rfl zUpd rfl rfl .nil) zKeep ⟨{ m with low := 0, bal := ⟨max m.bal.n (min best 1000), valM m⟩ }, rfl, stepR_caught hI hp12 (by omega) (by rw [if_pos hp1]) (by rw [if_neg hve]), rfl⟩)
               | (have := mk52t; have := mk59f; exact post_ret (.cell rfl zUpd rfl rfl .nil) zKeep ⟨{ m with low := m.low, bal := ⟨max m.bal.n (min best 1000), valM m⟩ }, rfl, stepR_caught hI hp12 (by omega) (by rw [if_pos hp1]) (by rw [if_pos hve]), rfl⟩)
               | (have := mk52f; have := mk59t; exact absurd rfl hve)
               | (have := mk52f; have := mk59f; exact post_ret (.cell rfl zUpd rfl rfl .nil) zKeep ⟨{ m with low := m.low, bal := ⟨max m.bal.n (min best 1000), m.bal.v⟩ }, rfl, stepR_caught hI hp12 (by omega) (by rw [if_neg hp1]) (by rw [if_pos rfl]), rfl⟩)
        )
    )
theorem inv_seq {m : Mach} (h : InvM m) (k : Int) : InvM { m with seq := k } := ⟨h.ph, h.bal, h.baln, h.prep, h.prime, h.conf, h.confn, h.low, h.high, h.prop, h.sz, h.hl, h.hs⟩
/-- What Advance answers. -/
def AdvR (m m' : Mach) : Prop := InvM m' ∧ m'.heard = m.heard
theorem sdec {a b : Mach} (h : StepR a b) (hn : sameV a b = false) : mu b < mu a := h.2.2.resolve_left (sameV_f hn)
end Go.Proofs.YtegejdhkckndaaaGreat
