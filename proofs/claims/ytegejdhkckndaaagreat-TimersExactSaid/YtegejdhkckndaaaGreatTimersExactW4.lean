/- The walks of: rvalid24_con, rap_con, rvp_con, rac_con, rvc_con, rcount_con, rsame24_con, into_con, rballots_con, rvalues_con, rbounds_con, rconfirms_con. Each says what one function of the program answers, for the arguments that its statement names. No condition beyond what each theorem says. -/
import Derived.Test.YtegejdhkckndaaaGreatTimersExactW3
import Derived.Test.YtegejdhkckndaaaGreatProg
import Derived.KernelRfl
import Derived.Tactics
import Derived.Tactics2
import Derived.StillTactics
set_option linter.unusedVariables false
set_option linter.unusedSimpArgs false
set_option linter.unnecessarySimpa false
set_option maxRecDepth 4000
namespace Go.Proofs.YtegejdhkckndaaaGreat
open Go Go.Av Go.Tq
set_option maxHeartbeats 8000000 in
theorem rvalid24_con (e : Evp) (hs : sizeT e.t ≤ 1000000000) : Con Tryz.prog 50 [ev e] [] (Is (.b (vE e)) []) := by
  have hcap : capB = 140737488355328 := rfl
  refine con_intro Tryz.func50 rfl Tryz.call50 rfl ?_
  refine zS ?_
  refine aops_box rfl zFlat rfl rfl (fun b1 => ?_)
  refine zAs ?_; refine zN ?_; refine awp_seq ?_; refine zS ?_; refine zF 0 1 false ?_; refine zL1 ?_; refine zCm ?_; refine zMv ?_
  all_goals first | (refine zY ?_; refine zF 0 1 false ?_) | refine zU ?_ | refine zNf ?_ | (refine zGf (fun hg => ?_) fun hg => ?_; case' _ => refine zF 0 1 false ?_)
  all_goals first | (refine zY ?_; refine zL1 ?_) | refine zU ?_ | refine zNf ?_ | (refine zGf (fun hg => ?_) fun hg => ?_; case' _ => refine zL1 ?_)
  all_goals first | (refine zY ?_; refine zCm ?_) | refine zU ?_ | refine zNf ?_ | (refine zGf (fun hg => ?_) fun hg => ?_; case' _ => refine zCm ?_)
  all_goals refine zPk ?_
  all_goals refine zMv ?_
  all_goals first | (refine zY ?_; refine zF 1 1 false ?_) | refine zU ?_ | refine zNf ?_ | (refine zGf (fun hg => ?_) fun hg => ?_; case' _ => refine zF 1 1 false ?_)
  all_goals first | (refine zY ?_; refine zL1 ?_) | refine zU ?_ | refine zNf ?_ | (refine zGf (fun hg => ?_) fun hg => ?_; case' _ => refine zL1 ?_)
  all_goals first | (refine zY ?_; refine zCm ?_) | refine zU ?_ | refine zNf ?_ | (refine zGf (fun hg => ?_) fun hg => ?_; case' _ => refine zCm ?_)
  all_goals refine zPk ?_
  all_goals refine zMv ?_
  all_goals first | (refine zY ?_; refine zF 1 1 false ?_) | refine zU ?_ | refine zNf ?_ | (refine zGf (fun hg => ?_) fun hg => ?_; case' _ => refine zF 1 1 false ?_)
  all_goals first | (refine zY ?_; refine zL1 ?_) | refine zU ?_ | refine zNf ?_ | (refine zGf (fun hg => ?_) fun hg => ?_; case' _ => refine zL1 ?_)
  all_goals first | (refine zY ?_; refine zCm ?_) | refine zU ?_ | refine zNf ?_ | (refine zGf (fun hg => ?_) fun hg => ?_; case' _ => refine zCm ?_)
  all_goals refine zPk ?_
  all_goals refine zMv ?_
  all_goals first | (refine zY ?_; refine zF 2 1 false ?_) | refine zU ?_ | refine zNf ?_ | (refine zGf (fun hg => ?_) fun hg => ?_; case' _ => refine zF 2 1 false ?_)
  all_goals first | (refine zY ?_; refine zL1 ?_) | refine zU ?_ | refine zNf ?_ | (refine zGf (fun hg => ?_) fun hg => ?_; case' _ => refine zL1 ?_)
  all_goals first | (refine zY ?_; refine zCm ?_) | refine zU ?_ | refine zNf ?_ | (refine zGf (fun hg => ?_) fun hg => ?_; case' _ => refine zCm ?_)
  all_goals refine zPk ?_
  all_goals refine zMv ?_
  all_goals first | (refine zY ?_; refine zF 2 1 false ?_) | refine zU ?_ | refine zNf ?_ | (refine zGf (fun hg => ?_) fun hg => ?_; case' _ => refine zF 2 1 false ?_)
  all_goals first | (refine zY ?_; refine zL1 ?_) | refine zU ?_ | refine zNf ?_ | (refine zGf (fun hg => ?_) fun hg => ?_; case' _ => refine zL1 ?_)
  all_goals first | (refine zY ?_; refine zCm ?_) | refine zU ?_ | refine zNf ?_ | (refine zGf (fun hg => ?_) fun hg => ?_; case' _ => refine zCm ?_)
  all_goals refine zPk ?_
  all_goals refine zMv ?_
  all_goals first | (refine zY ?_; refine zF 3 3 true ?_) | refine zU ?_ | refine zNf ?_ | (refine zGf (fun hg => ?_) fun hg => ?_; case' _ => refine zF 3 3 true ?_)
  all_goals first | (refine zY ?_; refine zLd ?_) | refine zU ?_ | refine zNf ?_ | (refine zGf (fun hg => ?_) fun hg => ?_; case' _ => refine zLd ?_)
  all_goals first | (refine zY ?_; refine aops_call_v zRc (rvalidT_con e.t hs) rfl rfl ?_) | refine zU ?_ | refine zNf ?_ | (refine zGf (fun hg => ?_) fun hg => ?_; case' _ => refine aops_call_v zRc (rvalidT_con e.t hs) rfl rfl ?_)
  all_goals first | (refine zY ?_; refine zCm ?_) | refine zU ?_ | refine zNf ?_ | (refine zGf (fun hg => ?_) fun hg => ?_; case' _ => refine zCm ?_)
  all_goals refine zPk ?_
  all_goals refine zMv ?_
  all_goals first | (refine zY ?_; refine zF 7 2 true ?_) | refine zU ?_ | refine zNf ?_ | (refine zGf (fun hg => ?_) fun hg => ?_; case' _ => refine zF 7 2 true ?_)
  all_goals first | (refine zY ?_; refine zLd ?_) | refine zU ?_ | refine zNf ?_ | (refine zGf (fun hg => ?_) fun hg => ?_; case' _ => refine zLd ?_)
  all_goals first | (refine zY ?_; refine aops_call_v zRc (rval_con e.bal) rfl rfl ?_) | refine zU ?_ | refine zNf ?_ | (refine zGf (fun hg => ?_) fun hg => ?_; case' _ => refine aops_call_v zRc (rval_con e.bal) rfl rfl ?_)
  all_goals first | (refine zY ?_; refine zNo ?_) | refine zU ?_ | refine zNf ?_ | (refine zGf (fun hg => ?_) fun hg => ?_; case' _ => refine zNo ?_)
  all_goals refine zPk ?_
  all_goals (
    refine zN ?_
    refine zC (fun hc => ?_) fun hc => ?_
    · first
      | (exact absurd hc (by decide))
      | (have hb : vE e = false := vE_headR (by first | (simp only [headR, headE]; simp [*]; done) | grind [headR, headE])
         refine zS ?_; refine zAs ?_; refine zN ?_; refine awp_ret ?_; refine seqQ_r ?_
         refine post_is (.tmp rfl .nil) zKeep (bcl hb.symm)
        )
    · first
      | (exact absurd hc (by decide))
      | (have hh : headE e = true := by first | (simp only [headE]; simp [*]; done) | grind [headE]
         have hvb : vB e.bal = true := by first | (simp [*]; done) | grind
         refine awp_skip ?_; refine seqQ_n ?_; refine zS ?_; refine zF 9 2 true ?_; refine zLd ?_
         refine aops_call_v zRc (rz_con e.prep) rfl rfl ?_
         refine zAs ?_; refine zN ?_; refine awp_seq ?_
         refine awp_draw (Hm := []) zKr zSplit ?_
         refine zTF 0 13 1 false ?_; refine zTL 1 ?_; refine zTF 2 7 2 true ?_; refine zTF 3 1 1 false ?_; refine zTL 4 ?_
         refine zT 5 rfl (AP.ar (ap_build zKr rfl zRc zFill)) ?_
         refine zTF 6 14 1 false ?_; refine zTL 7 ?_; refine zTF 8 7 2 true ?_; refine zTF 9 1 1 false ?_; refine zTL 10 ?_
         refine zT 11 rfl (AP.ar (ap_build zKr rfl zRc zFill)) ?_
         refine aany_each2 12 13 zKr rfl (.none rfl) ?_ rfl (.none rfl) ?_
         rotate_left
         case' _ =>
           refine aops_alloc rfl zRc rfl rfl (fun b5 => ?_)
           refine aops_nil ?_
           refine aany_one 12 zKr rfl (.none rfl) ?_
           refine aops_alloc rfl zRc rfl rfl (fun b4 => ?_)
           refine aops_nil ?_
           refine aany_one 14 zKr rfl (.none rfl) ?_
           refine zSt ?_; refine aops_nil ?_
           refine aany_one 15 zKr rfl (.none rfl) ?_
           refine zSt ?_; refine aops_nil ?_; refine aany_nil zKr ?_
         rotate_right
         case' _ =>
           refine aops_alloc rfl zRc rfl rfl (fun b4 => ?_)
           refine aops_nil ?_
           refine aany_one 13 zKr rfl (.none rfl) ?_
           refine aops_alloc rfl zRc rfl rfl (fun b5 => ?_)
           refine aops_nil ?_
           refine aany_one 14 zKr rfl (.none rfl) ?_
           refine zSt ?_; refine aops_nil ?_
           refine aany_one 15 zKr rfl (.none rfl) ?_
           refine zSt ?_; refine aops_nil ?_; refine aany_nil zKr ?_
         all_goals (
           refine seqQ_n ?_; refine awp_seq ?_; refine zS ?_; refine zF 6 1 false ?_; refine zL1 ?_; refine zN ?_; refine awp_block ?_; refine zS ?_; refine zCm ?_; refine zAs ?_; refine zN ?_
           refine zC (fun hc => ?_) fun hc => ?_
           · have hk1 := of_decide_eq_true hc
             refine awp_seq ?_; refine zS ?_; refine zF 7 2 true ?_; refine zF 0 1 false ?_; refine zL1 ?_; refine zCm ?_; refine zMv ?_
             all_goals first | (refine zY ?_; refine zMv ?_) | refine zU ?_ | refine zNf ?_ | (refine zGf (fun hg => ?_) fun hg => ?_; case' _ => refine zMv ?_)
             all_goals first | (refine zY ?_; refine zNo ?_) | refine zU ?_ | refine zNf ?_ | (refine zGf (fun hg => ?_) fun hg => ?_; case' _ => refine zNo ?_)
             all_goals first | (refine zY ?_; refine zMv ?_) | refine zU ?_ | refine zNf ?_ | (refine zGf (fun hg => ?_) fun hg => ?_; case' _ => refine zMv ?_)
             all_goals first | (refine zY ?_; refine zF 9 2 true ?_) | refine zU ?_ | refine zNt ?_ | (refine zGt (fun hg => ?_) fun hg => ?_; case' _ => refine zF 9 2 true ?_)
             all_goals first | (refine zY ?_; refine zLd ?_) | refine zU ?_ | refine zNt ?_ | (refine zGt (fun hg => ?_) fun hg => ?_; case' _ => refine zLd ?_)
             all_goals first | (refine zY ?_; refine aops_call_v zRc (rval_con e.prep) rfl rfl ?_) | refine zU ?_ | refine zNt ?_ | (refine zGt (fun hg => ?_) fun hg => ?_; case' _ => refine aops_call_v zRc (rval_con e.prep) rfl rfl ?_)
             all_goals first | (refine zY ?_; refine zNo ?_) | refine zU ?_ | refine zNt ?_ | (refine zGt (fun hg => ?_) fun hg => ?_; case' _ => refine zNo ?_)
             all_goals (first | (refine aops_yes rfl rfl rfl rfl zDec ?_; refine zPk ?_) | refine aops_no_u rfl rfl rfl ?_ | refine aops_no_f rfl rfl rfl rfl zDec ?_ | (refine aops_guard_f rfl rfl rfl rfl (fun hg => ?_) (fun hg => ?_); case' _ => refine zPk ?_))
             all_goals refine zPk ?_
             all_goals (
               refine zN ?_
               refine zC (fun hc => ?_) fun hc => ?_
               · first
                 | (exact absurd hc (by decide))
                 | (refine awp_seq ?_
                    refine awp_region ?_; refine zAs ?_; refine zN ?_; refine awp_ret ?_; refine seqQ_r ?_; refine blockQ_r ?_; refine seqQ_r ?_
                    refine post_is (.tmp rfl .nil) zKeep (bcl ?_)
                    unfold vE; rw [hh, Bool.true_and]
                    first | (simp only [kindE, prepE, finB, optB, rngE]; simp [*]; done) | grind [kindE, prepE, finB, optB, rngE]
                   )
               · first
                 | (exact absurd hc (by decide))
                 | (refine awp_skip ?_
                    refine seqQ_n ?_; refine awp_seq ?_; refine zS ?_; refine zF 11 2 true ?_; refine zLd ?_
                    refine aops_call_v zRc (rz_con e.prime) rfl rfl ?_
                    refine zNo ?_; refine zMv ?_
                    all_goals first | (refine zY ?_; refine zMv ?_) | refine zU ?_ | refine zNt ?_ | (refine zGt (fun hg => ?_) fun hg => ?_; case' _ => refine zMv ?_)
                    all_goals first | (refine zY ?_; refine zMv ?_) | refine zU ?_ | refine zNt ?_ | (refine zGt (fun hg => ?_) fun hg => ?_; case' _ => refine zMv ?_)
                    all_goals first | (refine zY ?_; refine zF 11 2 true ?_) | refine zU ?_ | refine zNf ?_ | (refine zGf (fun hg => ?_) fun hg => ?_; case' _ => refine zF 11 2 true ?_)
                    all_goals first | (refine zY ?_; refine zLd ?_) | refine zU ?_ | refine zNf ?_ | (refine zGf (fun hg => ?_) fun hg => ?_; case' _ => refine zLd ?_)
                    all_goals first | (refine zY ?_; refine aops_call_v zRc (rval_con e.prime) rfl rfl ?_) | refine zU ?_ | refine zNf ?_ | (refine zGf (fun hg => ?_) fun hg => ?_; case' _ => refine aops_call_v zRc (rval_con e.prime) rfl rfl ?_)
                    all_goals first | (refine zY ?_; refine zNo ?_) | refine zU ?_ | refine zNf ?_ | (refine zGf (fun hg => ?_) fun hg => ?_; case' _ => refine zNo ?_)
                    all_goals (first | (refine aops_yes rfl rfl rfl rfl zDec ?_; refine zPk ?_) | refine aops_no_u rfl rfl rfl ?_ | refine aops_no_t rfl rfl rfl rfl zDec ?_ | (refine aops_guard_t rfl rfl rfl rfl (fun hg => ?_) (fun hg => ?_); case' _ => refine zPk ?_))
                    all_goals first | (refine zY ?_; refine zMv ?_) | refine zU ?_ | refine zNt ?_ | (refine zGt (fun hg => ?_) fun hg => ?_; case' _ => refine zMv ?_)
                    all_goals first | (refine zY ?_; refine zF 11 2 true ?_) | refine zU ?_ | refine zNf ?_ | (refine zGf (fun hg => ?_) fun hg => ?_; case' _ => refine zF 11 2 true ?_)
                    all_goals first | (refine zY ?_; refine zLd ?_) | refine zU ?_ | refine zNf ?_ | (refine zGf (fun hg => ?_) fun hg => ?_; case' _ => refine zLd ?_)
                    all_goals first | (refine zY ?_; refine zF 9 2 true ?_) | refine zU ?_ | refine zNf ?_ | (refine zGf (fun hg => ?_) fun hg => ?_; case' _ => refine zF 9 2 true ?_)
                    all_goals first | (refine zY ?_; refine zLd ?_) | refine zU ?_ | refine zNf ?_ | (refine zGf (fun hg => ?_) fun hg => ?_; case' _ => refine zLd ?_)
                    all_goals first | (refine zY ?_; refine aops_call_v zRc (rl_con e.prime e.prep) rfl rfl ?_) | refine zU ?_ | refine zNf ?_ | (refine zGf (fun hg => ?_) fun hg => ?_; case' _ => refine aops_call_v zRc (rl_con e.prime e.prep) rfl rfl ?_)
                    all_goals first | (refine zY ?_; refine zNo ?_) | refine zU ?_ | refine zNf ?_ | (refine zGf (fun hg => ?_) fun hg => ?_; case' _ => refine zNo ?_)
                    all_goals (first | (refine aops_yes rfl rfl rfl rfl zDec ?_; refine zPk ?_) | refine aops_no_u rfl rfl rfl ?_ | refine aops_no_t rfl rfl rfl rfl zDec ?_ | (refine aops_guard_t rfl rfl rfl rfl (fun hg => ?_) (fun hg => ?_); case' _ => refine zPk ?_))
                    all_goals first | (refine zY ?_; refine zMv ?_) | refine zU ?_ | refine zNt ?_ | (refine zGt (fun hg => ?_) fun hg => ?_; case' _ => refine zMv ?_)
                    all_goals first | (refine zY ?_; refine zF 11 2 true ?_) | refine zU ?_ | refine zNf ?_ | (refine zGf (fun hg => ?_) fun hg => ?_; case' _ => refine zF 11 2 true ?_)
                    all_goals first | (refine zY ?_; refine zLd ?_) | refine zU ?_ | refine zNf ?_ | (refine zGf (fun hg => ?_) fun hg => ?_; case' _ => refine zLd ?_)
                    all_goals first | (refine zY ?_; refine zF 9 2 true ?_) | refine zU ?_ | refine zNf ?_ | (refine zGf (fun hg => ?_) fun hg => ?_; case' _ => refine zF 9 2 true ?_)
                    all_goals first | (refine zY ?_; refine zLd ?_) | refine zU ?_ | refine zNf ?_ | (refine zGf (fun hg => ?_) fun hg => ?_; case' _ => refine zLd ?_)
                    all_goals first | (refine zY ?_; refine aops_call_v zRc (rcp_con e.prime e.prep) rfl rfl ?_) | refine zU ?_ | refine zNf ?_ | (refine zGf (fun hg => ?_) fun hg => ?_; case' _ => refine aops_call_v zRc (rcp_con e.prime e.prep) rfl rfl ?_)
                    all_goals (first | (refine aops_yes rfl rfl rfl rfl zDec ?_; refine zPk ?_) | refine aops_no_u rfl rfl rfl ?_ | refine aops_no_t rfl rfl rfl rfl zDec ?_ | (refine aops_guard_t rfl rfl rfl rfl (fun hg => ?_) (fun hg => ?_); case' _ => refine zPk ?_))
                    all_goals refine zPk ?_
                    all_goals (
                      refine zN ?_
                      refine zC (fun hc => ?_) fun hc => ?_
                      · first
                        | (exact absurd hc (by decide))
                        | (refine awp_seq ?_
                           refine awp_region ?_; refine zAs ?_; refine zN ?_; refine awp_ret ?_; refine seqQ_r ?_; refine blockQ_r ?_; refine seqQ_r ?_
                           refine post_is (.tmp rfl .nil) zKeep (bcl ?_)
                           unfold vE; rw [hh, Bool.true_and]
                           first | (simp only [kindE, prepE, finB, optB, rngE]; simp [*]; done) | grind [kindE, prepE, finB, optB, rngE]
                          )
                      · first
                        | (exact absurd hc (by decide))
                        | (refine awp_skip ?_
                           refine seqQ_n ?_; refine awp_seq ?_; refine zS ?_; refine zF 13 1 false ?_; refine zL1 ?_; refine zCm ?_; refine zMv ?_
                           all_goals first | (refine zY ?_; refine zF 13 1 false ?_) | refine zU ?_ | refine zNf ?_ | (refine zGf (fun hg => ?_) fun hg => ?_; case' _ => refine zF 13 1 false ?_)
                           all_goals first | (refine zY ?_; refine zL1 ?_) | refine zU ?_ | refine zNf ?_ | (refine zGf (fun hg => ?_) fun hg => ?_; case' _ => refine zL1 ?_)
                           all_goals first | (refine zY ?_; refine zF 14 1 false ?_) | refine zU ?_ | refine zNf ?_ | (refine zGf (fun hg => ?_) fun hg => ?_; case' _ => refine zF 14 1 false ?_)
                           all_goals first | (refine zY ?_; refine zL1 ?_) | refine zU ?_ | refine zNf ?_ | (refine zGf (fun hg => ?_) fun hg => ?_; case' _ => refine zL1 ?_)
                           all_goals first | (refine zY ?_; refine zCm ?_) | refine zU ?_ | refine zNf ?_ | (refine zGf (fun hg => ?_) fun hg => ?_; case' _ => refine zCm ?_)
                           all_goals refine zPk ?_
                           all_goals refine zMv ?_
                           all_goals first | (refine zY ?_; refine zF 14 1 false ?_) | refine zU ?_ | refine zNf ?_ | (refine zGf (fun hg => ?_) fun hg => ?_; case' _ => refine zF 14 1 false ?_)
                           all_goals first | (refine zY ?_; refine zL1 ?_) | refine zU ?_ | refine zNf ?_ | (refine zGf (fun hg => ?_) fun hg => ?_; case' _ => refine zL1 ?_)
                           all_goals first | (refine zY ?_; refine zF 7 2 true ?_) | refine zU ?_ | refine zNf ?_ | (refine zGf (fun hg => ?_) fun hg => ?_; case' _ => refine zF 7 2 true ?_)
                           all_goals first | (refine zY ?_; refine zF 0 1 false ?_) | refine zU ?_ | refine zNf ?_ | (refine zGf (fun hg => ?_) fun hg => ?_; case' _ => refine zF 0 1 false ?_)
                           all_goals first | (refine zY ?_; refine zL1 ?_) | refine zU ?_ | refine zNf ?_ | (refine zGf (fun hg => ?_) fun hg => ?_; case' _ => refine zL1 ?_)
                           all_goals first | (refine zY ?_; refine zCm ?_) | refine zU ?_ | refine zNf ?_ | (refine zGf (fun hg => ?_) fun hg => ?_; case' _ => refine zCm ?_)
                           all_goals refine zPk ?_
                           all_goals (
                             refine zN ?_
                             refine zC (fun hc => ?_) fun hc => ?_
                             · first
                               | (exact absurd hc (by decide))
                               | (refine awp_seq ?_
                                  refine awp_region ?_; refine zAs ?_; refine zN ?_; refine awp_ret ?_; refine seqQ_r ?_; refine blockQ_r ?_; refine seqQ_r ?_
                                  refine post_is (.tmp rfl .nil) zKeep (bcl ?_)
                                  unfold vE; rw [hh, Bool.true_and]
                                  first | (simp only [kindE, prepE, finB, optB, rngE]; simp [*]; done) | grind [kindE, prepE, finB, optB, rngE]
                                 )
                             · first
                               | (exact absurd hc (by decide))
                               | (refine awp_skip ?_
                                  refine seqQ_n ?_; refine awp_seq ?_; refine zS ?_; refine zF 14 1 false ?_; refine zL1 ?_; refine zCm ?_; refine zMv ?_
                                  all_goals first | (refine zY ?_; refine zF 9 2 true ?_) | refine zU ?_ | refine zNt ?_ | (refine zGt (fun hg => ?_) fun hg => ?_; case' _ => refine zF 9 2 true ?_)
                                  all_goals first | (refine zY ?_; refine zLd ?_) | refine zU ?_ | refine zNt ?_ | (refine zGt (fun hg => ?_) fun hg => ?_; case' _ => refine zLd ?_)
                                  all_goals first | (refine zY ?_; refine zF 11 2 true ?_) | refine zU ?_ | refine zNt ?_ | (refine zGt (fun hg => ?_) fun hg => ?_; case' _ => refine zF 11 2 true ?_)
                                  all_goals first | (refine zY ?_; refine zLd ?_) | refine zU ?_ | refine zNt ?_ | (refine zGt (fun hg => ?_) fun hg => ?_; case' _ => refine zLd ?_)
                                  all_goals first | (refine zY ?_; refine zLd ?_) | refine zU ?_ | refine zNt ?_ | (refine zGt (fun hg => ?_) fun hg => ?_; case' _ => refine zLd ?_)
                                  all_goals first | (refine zY ?_; refine aops_call_v zRc (rpr_con e.prep e.prime (at_ e e.high)) rfl rfl ?_) | refine zU ?_ | refine zNt ?_ | (refine zGt (fun hg => ?_) fun hg => ?_; case' _ => refine aops_call_v zRc (rpr_con e.prep e.prime (at_ e e.high)) rfl rfl ?_)
                                  all_goals first | (refine zY ?_; refine zNo ?_) | refine zU ?_ | refine zNt ?_ | (refine zGt (fun hg => ?_) fun hg => ?_; case' _ => refine zNo ?_)
                                  all_goals refine zPk ?_
                                  all_goals (
                                    refine zN ?_
                                    refine zC (fun hc => ?_) fun hc => ?_
                                    · first
                                      | (exact absurd hc (by decide))
                                      | (refine awp_seq ?_
                                         refine awp_region ?_; refine zAs ?_; refine zN ?_; refine awp_ret ?_; refine seqQ_r ?_; refine blockQ_r ?_; refine seqQ_r ?_
                                         refine post_is (.tmp rfl .nil) zKeep (bcl ?_)
                                         unfold vE; rw [hh, Bool.true_and]
                                         first | (simp only [kindE, prepE, finB, optB, rngE]; simp [*]; done) | grind [kindE, prepE, finB, optB, rngE]
                                        )
                                    · first
                                      | (exact absurd hc (by decide))
                                      | (refine awp_skip ?_
                                         refine seqQ_n ?_; refine zS ?_; refine zF 13 1 false ?_; refine zL1 ?_; refine zCm ?_; refine zMv ?_
                                         all_goals first | (refine zY ?_; refine zF 9 2 true ?_) | refine zU ?_ | refine zNf ?_ | (refine zGf (fun hg => ?_) fun hg => ?_; case' _ => refine zF 9 2 true ?_)
                                         all_goals first | (refine zY ?_; refine zLd ?_) | refine zU ?_ | refine zNf ?_ | (refine zGf (fun hg => ?_) fun hg => ?_; case' _ => refine zLd ?_)
                                         all_goals first | (refine zY ?_; refine zLd ?_) | refine zU ?_ | refine zNf ?_ | (refine zGf (fun hg => ?_) fun hg => ?_; case' _ => refine zLd ?_)
                                         all_goals first | (refine zY ?_; refine aops_call_v zRc (rab_con e.prep (at_ e e.low)) rfl rfl ?_) | refine zU ?_ | refine zNf ?_ | (refine zGf (fun hg => ?_) fun hg => ?_; case' _ => refine aops_call_v zRc (rab_con e.prep (at_ e e.low)) rfl rfl ?_)
                                         all_goals first | (refine zY ?_; refine zNo ?_) | refine zU ?_ | refine zNf ?_ | (refine zGf (fun hg => ?_) fun hg => ?_; case' _ => refine zNo ?_)
                                         all_goals first | (refine zY ?_; refine zMv ?_) | refine zU ?_ | refine zNf ?_ | (refine zGf (fun hg => ?_) fun hg => ?_; case' _ => refine zMv ?_)
                                         all_goals first | (refine zY ?_; refine zF 11 2 true ?_) | refine zU ?_ | refine zNt ?_ | (refine zGt (fun hg => ?_) fun hg => ?_; case' _ => refine zF 11 2 true ?_)
                                         all_goals first | (refine zY ?_; refine zLd ?_) | refine zU ?_ | refine zNt ?_ | (refine zGt (fun hg => ?_) fun hg => ?_; case' _ => refine zLd ?_)
                                         all_goals first | (refine zY ?_; refine zLd ?_) | refine zU ?_ | refine zNt ?_ | (refine zGt (fun hg => ?_) fun hg => ?_; case' _ => refine zLd ?_)
                                         all_goals first | (refine zY ?_; refine aops_call_v zRc (rab_con e.prime (at_ e e.low)) rfl rfl ?_) | refine zU ?_ | refine zNt ?_ | (refine zGt (fun hg => ?_) fun hg => ?_; case' _ => refine aops_call_v zRc (rab_con e.prime (at_ e e.low)) rfl rfl ?_)
                                         all_goals first | (refine zY ?_; refine zNo ?_) | refine zU ?_ | refine zNt ?_ | (refine zGt (fun hg => ?_) fun hg => ?_; case' _ => refine zNo ?_)
                                         all_goals (first | (refine aops_yes rfl rfl rfl rfl zDec ?_; refine zPk ?_) | refine aops_no_u rfl rfl rfl ?_ | refine aops_no_f rfl rfl rfl rfl zDec ?_ | (refine aops_guard_f rfl rfl rfl rfl (fun hg => ?_) (fun hg => ?_); case' _ => refine zPk ?_))
                                         all_goals refine zPk ?_
                                         all_goals refine zAs ?_
                                         all_goals (
                                           refine zN ?_; refine awp_ret ?_; refine blockQ_r ?_; refine seqQ_r ?_
                                           refine post_is (.tmp rfl .nil) zKeep (bcl ?_)
                                           unfold vE; rw [hh, Bool.true_and]
                                           first | (simp only [kindE, prepE, finB, optB, rngE]; simp [*]; done) | grind [kindE, prepE, finB, optB, rngE]
                                           )
                                        )
                                    )
                                 )
                             )
                          )
                      )
                   )
               )
           · have hk1 := of_decide_eq_false hc
             refine zS ?_; refine zCm ?_; refine zAs ?_; refine zN ?_
             refine zC (fun hc => ?_) fun hc => ?_
             · have hk2 := of_decide_eq_true hc
               refine zS ?_; refine zF 7 2 true ?_; refine zF 0 1 false ?_; refine zL1 ?_; refine zCm ?_; refine zMv ?_
               all_goals first | (refine zY ?_; refine zF 9 2 true ?_) | refine zU ?_ | refine zNt ?_ | (refine zGt (fun hg => ?_) fun hg => ?_; case' _ => refine zF 9 2 true ?_)
               all_goals first | (refine zY ?_; refine zLd ?_) | refine zU ?_ | refine zNt ?_ | (refine zGt (fun hg => ?_) fun hg => ?_; case' _ => refine zLd ?_)
               all_goals first | (refine zY ?_; refine aops_call_v zRc (rval_con e.prep) rfl rfl ?_) | refine zU ?_ | refine zNt ?_ | (refine zGt (fun hg => ?_) fun hg => ?_; case' _ => refine aops_call_v zRc (rval_con e.prep) rfl rfl ?_)
               all_goals refine zPk ?_
               all_goals refine zMv ?_
               all_goals first | (refine zY ?_; refine zF 9 2 true ?_) | refine zU ?_ | refine zNt ?_ | (refine zGt (fun hg => ?_) fun hg => ?_; case' _ => refine zF 9 2 true ?_)
               all_goals first | (refine zY ?_; refine zLd ?_) | refine zU ?_ | refine zNt ?_ | (refine zGt (fun hg => ?_) fun hg => ?_; case' _ => refine zLd ?_)
               all_goals first | (refine zY ?_; refine zF 7 2 true ?_) | refine zU ?_ | refine zNt ?_ | (refine zGt (fun hg => ?_) fun hg => ?_; case' _ => refine zF 7 2 true ?_)
               all_goals first | (refine zY ?_; refine zLd ?_) | refine zU ?_ | refine zNt ?_ | (refine zGt (fun hg => ?_) fun hg => ?_; case' _ => refine zLd ?_)
               all_goals first | (refine zY ?_; refine aops_call_v zRc (rcp_con e.prep e.bal) rfl rfl ?_) | refine zU ?_ | refine zNt ?_ | (refine zGt (fun hg => ?_) fun hg => ?_; case' _ => refine aops_call_v zRc (rcp_con e.prep e.bal) rfl rfl ?_)
               all_goals refine zPk ?_
               all_goals refine zMv ?_
               all_goals first | (refine zY ?_; refine zF 11 2 true ?_) | refine zU ?_ | refine zNt ?_ | (refine zGt (fun hg => ?_) fun hg => ?_; case' _ => refine zF 11 2 true ?_)
               all_goals first | (refine zY ?_; refine zLd ?_) | refine zU ?_ | refine zNt ?_ | (refine zGt (fun hg => ?_) fun hg => ?_; case' _ => refine zLd ?_)
               all_goals first | (refine zY ?_; refine aops_call_v zRc (rz_con e.prime) rfl rfl ?_) | refine zU ?_ | refine zNt ?_ | (refine zGt (fun hg => ?_) fun hg => ?_; case' _ => refine aops_call_v zRc (rz_con e.prime) rfl rfl ?_)
               all_goals refine zPk ?_
               all_goals refine zMv ?_
               all_goals first | (refine zY ?_; refine zF 13 1 false ?_) | refine zU ?_ | refine zNt ?_ | (refine zGt (fun hg => ?_) fun hg => ?_; case' _ => refine zF 13 1 false ?_)
               all_goals first | (refine zY ?_; refine zL1 ?_) | refine zU ?_ | refine zNt ?_ | (refine zGt (fun hg => ?_) fun hg => ?_; case' _ => refine zL1 ?_)
               all_goals first | (refine zY ?_; refine zCm ?_) | refine zU ?_ | refine zNt ?_ | (refine zGt (fun hg => ?_) fun hg => ?_; case' _ => refine zCm ?_)
               all_goals refine zPk ?_
               all_goals refine zMv ?_
               all_goals first | (refine zY ?_; refine zF 13 1 false ?_) | refine zU ?_ | refine zNt ?_ | (refine zGt (fun hg => ?_) fun hg => ?_; case' _ => refine zF 13 1 false ?_)
               all_goals first | (refine zY ?_; refine zL1 ?_) | refine zU ?_ | refine zNt ?_ | (refine zGt (fun hg => ?_) fun hg => ?_; case' _ => refine zL1 ?_)
               all_goals first | (refine zY ?_; refine zF 14 1 false ?_) | refine zU ?_ | refine zNt ?_ | (refine zGt (fun hg => ?_) fun hg => ?_; case' _ => refine zF 14 1 false ?_)
               all_goals first | (refine zY ?_; refine zL1 ?_) | refine zU ?_ | refine zNt ?_ | (refine zGt (fun hg => ?_) fun hg => ?_; case' _ => refine zL1 ?_)
               all_goals first | (refine zY ?_; refine zCm ?_) | refine zU ?_ | refine zNt ?_ | (refine zGt (fun hg => ?_) fun hg => ?_; case' _ => refine zCm ?_)
               all_goals refine zPk ?_
               all_goals refine zMv ?_
               all_goals first | (refine zY ?_; refine zF 14 1 false ?_) | refine zU ?_ | refine zNt ?_ | (refine zGt (fun hg => ?_) fun hg => ?_; case' _ => refine zF 14 1 false ?_)
               all_goals first | (refine zY ?_; refine zL1 ?_) | refine zU ?_ | refine zNt ?_ | (refine zGt (fun hg => ?_) fun hg => ?_; case' _ => refine zL1 ?_)
               all_goals first | (refine zY ?_; refine zF 9 2 true ?_) | refine zU ?_ | refine zNt ?_ | (refine zGt (fun hg => ?_) fun hg => ?_; case' _ => refine zF 9 2 true ?_)
               all_goals first | (refine zY ?_; refine zF 0 1 false ?_) | refine zU ?_ | refine zNt ?_ | (refine zGt (fun hg => ?_) fun hg => ?_; case' _ => refine zF 0 1 false ?_)
               all_goals first | (refine zY ?_; refine zL1 ?_) | refine zU ?_ | refine zNt ?_ | (refine zGt (fun hg => ?_) fun hg => ?_; case' _ => refine zL1 ?_)
               all_goals first | (refine zY ?_; refine zCm ?_) | refine zU ?_ | refine zNt ?_ | (refine zGt (fun hg => ?_) fun hg => ?_; case' _ => refine zCm ?_)
               all_goals refine zPk ?_
               all_goals refine zMv ?_
               all_goals first | (refine zY ?_; refine zF 14 1 false ?_) | refine zU ?_ | refine zNt ?_ | (refine zGt (fun hg => ?_) fun hg => ?_; case' _ => refine zF 14 1 false ?_)
               all_goals first | (refine zY ?_; refine zL1 ?_) | refine zU ?_ | refine zNt ?_ | (refine zGt (fun hg => ?_) fun hg => ?_; case' _ => refine zL1 ?_)
               all_goals first | (refine zY ?_; refine zCm ?_) | refine zU ?_ | refine zNt ?_ | (refine zGt (fun hg => ?_) fun hg => ?_; case' _ => refine zCm ?_)
               all_goals refine zPk ?_
               all_goals refine zAs ?_
               all_goals (
                 refine zN ?_; refine awp_ret ?_; refine blockQ_r ?_; refine seqQ_r ?_
                 refine post_is (.tmp rfl .nil) zKeep (bcl ?_)
                 unfold vE; rw [hh, Bool.true_and]
                 first | (simp only [kindE, prepE, finB, optB, rngE]; simp [*]; done) | grind [kindE, prepE, finB, optB, rngE]
                 )
             · have hk2 := of_decide_eq_false hc
               refine zS ?_; refine zCm ?_; refine zAs ?_; refine zN ?_
               refine zC (fun hc => ?_) fun hc => ?_
               · have hk3 := of_decide_eq_true hc
                 refine zS ?_; refine zMv ?_; refine zMv ?_
                 all_goals first | (refine zY ?_; refine zF 11 2 true ?_) | refine zU ?_ | refine zNt ?_ | (refine zGt (fun hg => ?_) fun hg => ?_; case' _ => refine zF 11 2 true ?_)
                 all_goals first | (refine zY ?_; refine zLd ?_) | refine zU ?_ | refine zNt ?_ | (refine zGt (fun hg => ?_) fun hg => ?_; case' _ => refine zLd ?_)
                 all_goals first | (refine zY ?_; refine aops_call_v zRc (rz_con e.prime) rfl rfl ?_) | refine zU ?_ | refine zNt ?_ | (refine zGt (fun hg => ?_) fun hg => ?_; case' _ => refine aops_call_v zRc (rz_con e.prime) rfl rfl ?_)
                 all_goals refine zPk ?_
                 all_goals refine zMv ?_
                 all_goals first | (refine zY ?_; refine zF 13 1 false ?_) | refine zU ?_ | refine zNt ?_ | (refine zGt (fun hg => ?_) fun hg => ?_; case' _ => refine zF 13 1 false ?_)
                 all_goals first | (refine zY ?_; refine zL1 ?_) | refine zU ?_ | refine zNt ?_ | (refine zGt (fun hg => ?_) fun hg => ?_; case' _ => refine zL1 ?_)
                 all_goals first | (refine zY ?_; refine zCm ?_) | refine zU ?_ | refine zNt ?_ | (refine zGt (fun hg => ?_) fun hg => ?_; case' _ => refine zCm ?_)
                 all_goals refine zPk ?_
                 all_goals refine zMv ?_
                 all_goals first | (refine zY ?_; refine zF 13 1 false ?_) | refine zU ?_ | refine zNt ?_ | (refine zGt (fun hg => ?_) fun hg => ?_; case' _ => refine zF 13 1 false ?_)
                 all_goals first | (refine zY ?_; refine zL1 ?_) | refine zU ?_ | refine zNt ?_ | (refine zGt (fun hg => ?_) fun hg => ?_; case' _ => refine zL1 ?_)
                 all_goals first | (refine zY ?_; refine zF 14 1 false ?_) | refine zU ?_ | refine zNt ?_ | (refine zGt (fun hg => ?_) fun hg => ?_; case' _ => refine zF 14 1 false ?_)
                 all_goals first | (refine zY ?_; refine zL1 ?_) | refine zU ?_ | refine zNt ?_ | (refine zGt (fun hg => ?_) fun hg => ?_; case' _ => refine zL1 ?_)
                 all_goals first | (refine zY ?_; refine zCm ?_) | refine zU ?_ | refine zNt ?_ | (refine zGt (fun hg => ?_) fun hg => ?_; case' _ => refine zCm ?_)
                 all_goals refine zPk ?_
                 all_goals refine zMv ?_
                 all_goals first | (refine zY ?_; refine zF 14 1 false ?_) | refine zU ?_ | refine zNt ?_ | (refine zGt (fun hg => ?_) fun hg => ?_; case' _ => refine zF 14 1 false ?_)
                 all_goals first | (refine zY ?_; refine zL1 ?_) | refine zU ?_ | refine zNt ?_ | (refine zGt (fun hg => ?_) fun hg => ?_; case' _ => refine zL1 ?_)
                 all_goals first | (refine zY ?_; refine zCm ?_) | refine zU ?_ | refine zNt ?_ | (refine zGt (fun hg => ?_) fun hg => ?_; case' _ => refine zCm ?_)
                 all_goals refine zPk ?_
                 all_goals refine zAs ?_
                 all_goals (
                   refine zN ?_; refine awp_ret ?_; refine blockQ_r ?_; refine seqQ_r ?_
                   refine post_is (.tmp rfl .nil) zKeep (bcl ?_)
                   unfold vE; rw [hh, Bool.true_and]
                   first | (simp only [kindE, prepE, finB, optB, rngE]; simp [*]; done) | grind [kindE, prepE, finB, optB, rngE]
                   )
               · have hk3 := of_decide_eq_false hc
                 refine awp_skip ?_; refine blockQ_n ?_; refine seqQ_n ?_; refine zS ?_; refine zAs ?_; refine zN ?_; refine awp_ret ?_
                 refine post_is (.tmp rfl .nil) zKeep (bcl ?_)
                 unfold vE; rw [hh, Bool.true_and]
                 first | (simp only [kindE, prepE, finB, optB, rngE]; simp [*]; done) | grind [kindE, prepE, finB, optB, rngE]
           )
        )
    )
theorem rap_con (e : Evp) (hs : sizeT e.t ≤ 1000000000) (b : Bal) : Con Tryz.prog 153 [ev e, bv b] [] (fun d H => ∃ y : Bool, d = .b y ∧ H = []) := by
  have hcap : capB = 140737488355328 := rfl
  refine con_intro Tryz.func153 rfl Tryz.call153 rfl ?_
  refine zS ?_
  refine aops_box rfl zFlat rfl rfl (fun b2 => ?_)
  refine aops_box rfl zFlat rfl rfl (fun b3 => ?_)
  refine zAs ?_; refine zN ?_; refine awp_seq ?_; refine zS ?_; refine zLd ?_
  refine aops_call_v zRc (rvalid24_con e hs) rfl rfl ?_
  refine zNo ?_; refine zMv ?_
  all_goals first | (refine zY ?_; refine zLd ?_) | refine zU ?_ | refine zNf ?_ | (refine zGf (fun hg => ?_) fun hg => ?_; case' _ => refine zLd ?_)
  all_goals first | (refine zY ?_; refine aops_call_v zRc (rz_con b) rfl rfl ?_) | refine zU ?_ | refine zNf ?_ | (refine zGf (fun hg => ?_) fun hg => ?_; case' _ => refine aops_call_v zRc (rz_con b) rfl rfl ?_)
  all_goals refine zPk ?_
  all_goals (
    refine zN ?_
    refine zC (fun hc => ?_) fun hc => ?_
    · first
      | (exact absurd hc (by decide))
      | (refine awp_seq ?_
         refine awp_region ?_; refine zAs ?_; refine zN ?_; refine awp_ret ?_; refine seqQ_r ?_
         exact post_ret (.tmp rfl .nil) zKeep ⟨_, rfl, rfl⟩
        )
    · first
      | (exact absurd hc (by decide))
      | (refine awp_skip ?_
         refine seqQ_n ?_; refine awp_seq ?_; refine zS ?_; refine zF 6 1 false ?_; refine zL1 ?_; refine zCm ?_; refine zN ?_
         refine zC (fun hc => ?_) fun hc => ?_
         · refine awp_seq ?_
           refine awp_region ?_; refine zF 7 2 true ?_; refine zLd ?_; refine zLd ?_
           refine aops_call_v zRc (rcp_con e.bal b) rfl rfl ?_
           refine zAs ?_; refine zN ?_; refine awp_ret ?_; refine seqQ_r ?_
           exact post_ret (.tmp rfl .nil) zKeep ⟨_, rfl, rfl⟩
         · refine awp_skip ?_
           refine seqQ_n ?_; refine zS ?_; refine zF 9 2 true ?_; refine zLd ?_; refine zF 11 2 true ?_; refine zLd ?_; refine zLd ?_
           refine aops_call_v zRc (rpr_con e.prep e.prime b) rfl rfl ?_
           refine zAs ?_; refine zN ?_; refine awp_ret ?_
           exact post_ret (.tmp rfl .nil) zKeep ⟨_, rfl, rfl⟩
        )
    )
theorem rvp_con (e : Evp) (hs : sizeT e.t ≤ 1000000000) (b : Bal) : Con Tryz.prog 154 [ev e, bv b] [] (fun d H => ∃ y : Bool, d = .b y ∧ H = []) := by
  have hcap : capB = 140737488355328 := rfl
  refine con_intro Tryz.func154 rfl Tryz.call154 rfl ?_
  refine zS ?_
  refine aops_box rfl zFlat rfl rfl (fun b2 => ?_)
  refine aops_box rfl zFlat rfl rfl (fun b3 => ?_)
  refine zAs ?_; refine zN ?_; refine awp_seq ?_; refine zS ?_; refine zLd ?_
  refine aops_call_v zRc (rvalid24_con e hs) rfl rfl ?_
  refine zNo ?_; refine zMv ?_
  all_goals first | (refine zY ?_; refine zLd ?_) | refine zU ?_ | refine zNf ?_ | (refine zGf (fun hg => ?_) fun hg => ?_; case' _ => refine zLd ?_)
  all_goals first | (refine zY ?_; refine aops_call_v zRc (rz_con b) rfl rfl ?_) | refine zU ?_ | refine zNf ?_ | (refine zGf (fun hg => ?_) fun hg => ?_; case' _ => refine aops_call_v zRc (rz_con b) rfl rfl ?_)
  all_goals refine zPk ?_
  all_goals (
    refine zN ?_
    refine zC (fun hc => ?_) fun hc => ?_
    · first
      | (exact absurd hc (by decide))
      | (refine awp_seq ?_
         refine awp_region ?_; refine zAs ?_; refine zN ?_; refine awp_ret ?_; refine seqQ_r ?_
         exact post_ret (.tmp rfl .nil) zKeep ⟨_, rfl, rfl⟩
        )
    · first
      | (exact absurd hc (by decide))
      | (refine awp_skip ?_
         refine seqQ_n ?_; refine awp_seq ?_; refine zS ?_; refine zF 6 1 false ?_; refine zL1 ?_; refine zCm ?_; refine zN ?_
         refine zC (fun hc => ?_) fun hc => ?_
         · refine awp_seq ?_
           refine awp_region ?_; refine zF 7 2 true ?_; refine zLd ?_; refine zLd ?_
           refine aops_call_v zRc (rcov_con e.bal b) rfl rfl ?_
           refine zAs ?_; refine zN ?_; refine awp_ret ?_; refine seqQ_r ?_
           exact post_ret (.tmp rfl .nil) zKeep ⟨_, rfl, rfl⟩
         · refine awp_skip ?_
           refine seqQ_n ?_; refine zS ?_; refine zF 7 2 true ?_; refine zLd ?_; refine zLd ?_
           refine aops_call_v zRc (rcp_con e.bal b) rfl rfl ?_
           refine zAs ?_; refine zN ?_; refine awp_ret ?_
           exact post_ret (.tmp rfl .nil) zKeep ⟨_, rfl, rfl⟩
        )
    )
theorem rac_con (e : Evp) (hs : sizeT e.t ≤ 1000000000) (v : Str) (lo hi : Int) : Con Tryz.prog 155 [ev e, .v (.string v), .i lo, .i hi] [] (fun d H => ∃ y : Bool, d = .b y ∧ H = []) := by
  have hcap : capB = 140737488355328 := rfl
  refine con_intro Tryz.func155 rfl Tryz.call155 rfl ?_
  refine zS ?_
  refine aops_box rfl zFlat rfl rfl (fun b4 => ?_)
  refine zAs ?_; refine zN ?_; refine awp_seq ?_; refine zS ?_; refine zLd ?_
  refine aops_call_v zRc (rvalid24_con e hs) rfl rfl ?_
  refine zNo ?_; refine zMv ?_
  all_goals first | (refine zY ?_; refine zMv ?_) | refine zU ?_ | refine zNf ?_ | (refine zGf (fun hg => ?_) fun hg => ?_; case' _ => refine zMv ?_)
  all_goals first | (refine zY ?_; refine zCm ?_) | refine zU ?_ | refine zNf ?_ | (refine zGf (fun hg => ?_) fun hg => ?_; case' _ => refine zCm ?_)
  all_goals refine zPk ?_
  all_goals refine zMv ?_
  all_goals first | (refine zY ?_; refine zMv ?_) | refine zU ?_ | refine zNf ?_ | (refine zGf (fun hg => ?_) fun hg => ?_; case' _ => refine zMv ?_)
  all_goals first | (refine zY ?_; refine zMv ?_) | refine zU ?_ | refine zNf ?_ | (refine zGf (fun hg => ?_) fun hg => ?_; case' _ => refine zMv ?_)
  all_goals first | (refine zY ?_; refine zCm ?_) | refine zU ?_ | refine zNf ?_ | (refine zGf (fun hg => ?_) fun hg => ?_; case' _ => refine zCm ?_)
  all_goals refine zPk ?_
  all_goals refine zMv ?_
  all_goals first | (refine zY ?_; refine zF 6 1 false ?_) | refine zU ?_ | refine zNf ?_ | (refine zGf (fun hg => ?_) fun hg => ?_; case' _ => refine zF 6 1 false ?_)
  all_goals first | (refine zY ?_; refine zL1 ?_) | refine zU ?_ | refine zNf ?_ | (refine zGf (fun hg => ?_) fun hg => ?_; case' _ => refine zL1 ?_)
  all_goals first | (refine zY ?_; refine zCm ?_) | refine zU ?_ | refine zNf ?_ | (refine zGf (fun hg => ?_) fun hg => ?_; case' _ => refine zCm ?_)
  all_goals refine zPk ?_
  all_goals refine zMv ?_
  all_goals first | (refine zY ?_; refine zF 7 2 true ?_) | refine zU ?_ | refine zNf ?_ | (refine zGf (fun hg => ?_) fun hg => ?_; case' _ => refine zF 7 2 true ?_)
  all_goals first | (refine zY ?_; refine zF 1 1 false ?_) | refine zU ?_ | refine zNf ?_ | (refine zGf (fun hg => ?_) fun hg => ?_; case' _ => refine zF 1 1 false ?_)
  all_goals first | (refine zY ?_; refine zL1 ?_) | refine zU ?_ | refine zNf ?_ | (refine zGf (fun hg => ?_) fun hg => ?_; case' _ => refine zL1 ?_)
  all_goals first | (refine zY ?_; refine zMv ?_) | refine zU ?_ | refine zNf ?_ | (refine zGf (fun hg => ?_) fun hg => ?_; case' _ => refine zMv ?_)
  all_goals first | (refine zY ?_; refine zP (ap_scmp rfl rfl rfl) ?_) | refine zU ?_ | refine zNf ?_ | (refine zGf (fun hg => ?_) fun hg => ?_; case' _ => refine zP (ap_scmp rfl rfl rfl) ?_)
  all_goals refine zPk ?_
  all_goals refine zMv ?_
  all_goals first | (refine zY ?_; refine zF 13 1 false ?_) | refine zU ?_ | refine zNf ?_ | (refine zGf (fun hg => ?_) fun hg => ?_; case' _ => refine zF 13 1 false ?_)
  all_goals first | (refine zY ?_; refine zL1 ?_) | refine zU ?_ | refine zNf ?_ | (refine zGf (fun hg => ?_) fun hg => ?_; case' _ => refine zL1 ?_)
  all_goals first | (refine zY ?_; refine zMv ?_) | refine zU ?_ | refine zNf ?_ | (refine zGf (fun hg => ?_) fun hg => ?_; case' _ => refine zMv ?_)
  all_goals first | (refine zY ?_; refine zCm ?_) | refine zU ?_ | refine zNf ?_ | (refine zGf (fun hg => ?_) fun hg => ?_; case' _ => refine zCm ?_)
  all_goals refine zPk ?_
  all_goals (
    refine zN ?_
    refine zC (fun hc => ?_) fun hc => ?_
    · first
      | (exact absurd hc (by decide))
      | (refine awp_seq ?_
         refine awp_region ?_; refine zAs ?_; refine zN ?_; refine awp_ret ?_; refine seqQ_r ?_
         exact post_ret (.tmp rfl .nil) zKeep ⟨_, rfl, rfl⟩
        )
    · first
      | (exact absurd hc (by decide))
      | (refine awp_skip ?_
         refine seqQ_n ?_; refine zS ?_; refine zF 6 1 false ?_; refine zL1 ?_; refine zCm ?_; refine zMv ?_
         all_goals first | (refine zY ?_; refine zMv ?_) | refine zU ?_ | refine zNf ?_ | (refine zGf (fun hg => ?_) fun hg => ?_; case' _ => refine zMv ?_)
         all_goals first | (refine zY ?_; refine zF 14 1 false ?_) | refine zU ?_ | refine zNf ?_ | (refine zGf (fun hg => ?_) fun hg => ?_; case' _ => refine zF 14 1 false ?_)
         all_goals first | (refine zY ?_; refine zL1 ?_) | refine zU ?_ | refine zNf ?_ | (refine zGf (fun hg => ?_) fun hg => ?_; case' _ => refine zL1 ?_)
         all_goals first | (refine zY ?_; refine zCm ?_) | refine zU ?_ | refine zNf ?_ | (refine zGf (fun hg => ?_) fun hg => ?_; case' _ => refine zCm ?_)
         all_goals refine zPk ?_
         all_goals refine zAs ?_
         all_goals (
           refine zN ?_; refine awp_ret ?_
           exact post_ret (.tmp rfl .nil) zKeep ⟨_, rfl, rfl⟩
           )
        )
    )
theorem rvc_con (e : Evp) (hs : sizeT e.t ≤ 1000000000) (v : Str) (lo hi : Int) : Con Tryz.prog 156 [ev e, .v (.string v), .i lo, .i hi] [] (fun d H => ∃ y : Bool, d = .b y ∧ H = []) := by
  have hcap : capB = 140737488355328 := rfl
  refine con_intro Tryz.func156 rfl Tryz.call156 rfl ?_
  refine zS ?_
  refine aops_box rfl zFlat rfl rfl (fun b4 => ?_)
  refine zAs ?_; refine zN ?_; refine awp_seq ?_; refine zS ?_; refine zLd ?_
  refine aops_call_v zRc (rvalid24_con e hs) rfl rfl ?_
  refine zNo ?_; refine zMv ?_
  all_goals first | (refine zY ?_; refine zMv ?_) | refine zU ?_ | refine zNf ?_ | (refine zGf (fun hg => ?_) fun hg => ?_; case' _ => refine zMv ?_)
  all_goals first | (refine zY ?_; refine zCm ?_) | refine zU ?_ | refine zNf ?_ | (refine zGf (fun hg => ?_) fun hg => ?_; case' _ => refine zCm ?_)
  all_goals refine zPk ?_
  all_goals refine zMv ?_
  all_goals first | (refine zY ?_; refine zMv ?_) | refine zU ?_ | refine zNf ?_ | (refine zGf (fun hg => ?_) fun hg => ?_; case' _ => refine zMv ?_)
  all_goals first | (refine zY ?_; refine zMv ?_) | refine zU ?_ | refine zNf ?_ | (refine zGf (fun hg => ?_) fun hg => ?_; case' _ => refine zMv ?_)
  all_goals first | (refine zY ?_; refine zCm ?_) | refine zU ?_ | refine zNf ?_ | (refine zGf (fun hg => ?_) fun hg => ?_; case' _ => refine zCm ?_)
  all_goals refine zPk ?_
  all_goals refine zMv ?_
  all_goals first | (refine zY ?_; refine zF 7 2 true ?_) | refine zU ?_ | refine zNf ?_ | (refine zGf (fun hg => ?_) fun hg => ?_; case' _ => refine zF 7 2 true ?_)
  all_goals first | (refine zY ?_; refine zF 1 1 false ?_) | refine zU ?_ | refine zNf ?_ | (refine zGf (fun hg => ?_) fun hg => ?_; case' _ => refine zF 1 1 false ?_)
  all_goals first | (refine zY ?_; refine zL1 ?_) | refine zU ?_ | refine zNf ?_ | (refine zGf (fun hg => ?_) fun hg => ?_; case' _ => refine zL1 ?_)
  all_goals first | (refine zY ?_; refine zMv ?_) | refine zU ?_ | refine zNf ?_ | (refine zGf (fun hg => ?_) fun hg => ?_; case' _ => refine zMv ?_)
  all_goals first | (refine zY ?_; refine zP (ap_scmp rfl rfl rfl) ?_) | refine zU ?_ | refine zNf ?_ | (refine zGf (fun hg => ?_) fun hg => ?_; case' _ => refine zP (ap_scmp rfl rfl rfl) ?_)
  all_goals refine zPk ?_
  all_goals refine zMv ?_
  all_goals first | (refine zY ?_; refine zF 13 1 false ?_) | refine zU ?_ | refine zNf ?_ | (refine zGf (fun hg => ?_) fun hg => ?_; case' _ => refine zF 13 1 false ?_)
  all_goals first | (refine zY ?_; refine zL1 ?_) | refine zU ?_ | refine zNf ?_ | (refine zGf (fun hg => ?_) fun hg => ?_; case' _ => refine zL1 ?_)
  all_goals first | (refine zY ?_; refine zCm ?_) | refine zU ?_ | refine zNf ?_ | (refine zGf (fun hg => ?_) fun hg => ?_; case' _ => refine zCm ?_)
  all_goals refine zPk ?_
  all_goals refine zMv ?_
  all_goals first | (refine zY ?_; refine zF 13 1 false ?_) | refine zU ?_ | refine zNf ?_ | (refine zGf (fun hg => ?_) fun hg => ?_; case' _ => refine zF 13 1 false ?_)
  all_goals first | (refine zY ?_; refine zL1 ?_) | refine zU ?_ | refine zNf ?_ | (refine zGf (fun hg => ?_) fun hg => ?_; case' _ => refine zL1 ?_)
  all_goals first | (refine zY ?_; refine zMv ?_) | refine zU ?_ | refine zNf ?_ | (refine zGf (fun hg => ?_) fun hg => ?_; case' _ => refine zMv ?_)
  all_goals first | (refine zY ?_; refine zCm ?_) | refine zU ?_ | refine zNf ?_ | (refine zGf (fun hg => ?_) fun hg => ?_; case' _ => refine zCm ?_)
  all_goals refine zPk ?_
  all_goals (
    refine zN ?_
    refine zC (fun hc => ?_) fun hc => ?_
    · first
      | (exact absurd hc (by decide))
      | (refine awp_seq ?_
         refine awp_region ?_; refine zAs ?_; refine zN ?_; refine awp_ret ?_; refine seqQ_r ?_
         exact post_ret (.tmp rfl .nil) zKeep ⟨_, rfl, rfl⟩
        )
    · first
      | (exact absurd hc (by decide))
      | (refine awp_skip ?_
         refine seqQ_n ?_; refine zS ?_; refine zF 6 1 false ?_; refine zL1 ?_; refine zCm ?_; refine zMv ?_
         all_goals first | (refine zY ?_; refine zMv ?_) | refine zU ?_ | refine zNf ?_ | (refine zGf (fun hg => ?_) fun hg => ?_; case' _ => refine zMv ?_)
         all_goals first | (refine zY ?_; refine zF 14 1 false ?_) | refine zU ?_ | refine zNf ?_ | (refine zGf (fun hg => ?_) fun hg => ?_; case' _ => refine zF 14 1 false ?_)
         all_goals first | (refine zY ?_; refine zL1 ?_) | refine zU ?_ | refine zNf ?_ | (refine zGf (fun hg => ?_) fun hg => ?_; case' _ => refine zL1 ?_)
         all_goals first | (refine zY ?_; refine zCm ?_) | refine zU ?_ | refine zNf ?_ | (refine zGf (fun hg => ?_) fun hg => ?_; case' _ => refine zCm ?_)
         all_goals refine zPk ?_
         all_goals refine zAs ?_
         all_goals (
           refine zN ?_; refine awp_ret ?_
           exact post_ret (.tmp rfl .nil) zKeep ⟨_, rfl, rfl⟩
           )
        )
    )
def cntR (e : Evp) : Int := if vE e = true then cntE e else 0
theorem rcount_con (e : Evp) (hs : sizeT e.t ≤ 1000000000) : Con Tryz.prog 40 [ev e] [] (Is (.i (cntR e)) []) := by
  have hcap : capB = 140737488355328 := rfl
  refine con_intro Tryz.func40 rfl Tryz.call40 rfl ?_
  refine zS ?_
  refine aops_box rfl zFlat rfl rfl (fun b1 => ?_)
  refine zAs ?_; refine zN ?_; refine awp_seq ?_; refine awp_block ?_; refine zS ?_; refine zLd ?_
  refine aops_call_v zRc (rvalid24_con e hs) rfl rfl ?_
  refine zNo ?_; refine zAs ?_; refine zN ?_
  refine zC (fun hc => ?_) fun hc => ?_
  · have hv : vE e = false := not_t hc
    refine zS ?_; refine zAs ?_; refine zN ?_; refine awp_ret ?_; refine blockQ_r ?_; refine seqQ_r ?_
    refine post_is (.tmp rfl .nil) zKeep (icl ?_)
    unfold cntR
    first | (rw [if_neg (by rw [hv]; decide)]; done) | (rw [if_pos hv]; unfold cntE; rw [if_pos h3]; done) | (rw [if_pos hv]; unfold cntE; rw [if_neg h3]; done)
  · have hv : vE e = true := not_f hc
    refine zS ?_; refine zF 6 1 false ?_; refine zL1 ?_; refine zCm ?_; refine zAs ?_; refine zN ?_
    refine zC (fun hc => ?_) fun hc => ?_
    · have h3 := of_decide_eq_true hc
      refine zS ?_; refine zAs ?_; refine zN ?_; refine awp_ret ?_; refine blockQ_r ?_; refine seqQ_r ?_
      refine post_is (.tmp rfl .nil) zKeep (icl ?_)
      unfold cntR
      first | (rw [if_neg (by rw [hv]; decide)]; done) | (rw [if_pos hv]; unfold cntE; rw [if_pos h3]; done) | (rw [if_pos hv]; unfold cntE; rw [if_neg h3]; done)
    · have h3 := of_decide_eq_false hc
      refine awp_skip ?_; refine blockQ_n ?_; refine seqQ_n ?_; refine zS ?_; refine zF 7 2 true ?_; refine zF 0 1 false ?_; refine zL1 ?_; refine zAs ?_; refine zN ?_; refine awp_ret ?_
      refine post_is (.tmp rfl .nil) zKeep (icl ?_)
      unfold cntR
      first | (rw [if_neg (by rw [hv]; decide)]; done) | (rw [if_pos hv]; unfold cntE; rw [if_pos h3]; done) | (rw [if_pos hv]; unfold cntE; rw [if_neg h3]; done)
set_option maxHeartbeats 1000000 in
theorem rsame24_con (e f : Evp) : Con Tryz.prog 73 [ev e, ev f] [] (fun d H => ∃ y : Bool, d = .b y ∧ H = []) := by
  have hcap : capB = 140737488355328 := rfl
  refine con_intro Tryz.func73 rfl Tryz.call73 rfl ?_
  refine zS ?_
  refine aops_box rfl zFlat rfl rfl (fun b2 => ?_)
  refine aops_box rfl zFlat rfl rfl (fun b3 => ?_)
  refine zAs ?_; refine zN (zS ?_); refine zF 0 1 false ?_; refine zL1 ?_; refine zF 0 1 false ?_; refine zL1 ?_; refine zCm ?_; refine zMv ?_
  all_goals first | (refine zY ?_; refine zF 1 1 false ?_) | refine zU ?_ | refine zNt ?_ | (refine zGt (fun hg => ?_) fun hg => ?_; case' _ => refine zF 1 1 false ?_)
  all_goals first | (refine zY ?_; refine zL1 ?_) | refine zU ?_ | refine zNt ?_ | (refine zGt (fun hg => ?_) fun hg => ?_; case' _ => refine zL1 ?_)
  all_goals first | (refine zY ?_; refine zF 1 1 false ?_) | refine zU ?_ | refine zNt ?_ | (refine zGt (fun hg => ?_) fun hg => ?_; case' _ => refine zF 1 1 false ?_)
  all_goals first | (refine zY ?_; refine zL1 ?_) | refine zU ?_ | refine zNt ?_ | (refine zGt (fun hg => ?_) fun hg => ?_; case' _ => refine zL1 ?_)
  all_goals first | (refine zY ?_; refine zCm ?_) | refine zU ?_ | refine zNt ?_ | (refine zGt (fun hg => ?_) fun hg => ?_; case' _ => refine zCm ?_)
  all_goals refine zPk ?_
  all_goals refine zMv ?_
  all_goals first | (refine zY ?_; refine zF 2 1 false ?_) | refine zU ?_ | refine zNt ?_ | (refine zGt (fun hg => ?_) fun hg => ?_; case' _ => refine zF 2 1 false ?_)
  all_goals first | (refine zY ?_; refine zL1 ?_) | refine zU ?_ | refine zNt ?_ | (refine zGt (fun hg => ?_) fun hg => ?_; case' _ => refine zL1 ?_)
  all_goals first | (refine zY ?_; refine zF 2 1 false ?_) | refine zU ?_ | refine zNt ?_ | (refine zGt (fun hg => ?_) fun hg => ?_; case' _ => refine zF 2 1 false ?_)
  all_goals first | (refine zY ?_; refine zL1 ?_) | refine zU ?_ | refine zNt ?_ | (refine zGt (fun hg => ?_) fun hg => ?_; case' _ => refine zL1 ?_)
  all_goals first | (refine zY ?_; refine zCm ?_) | refine zU ?_ | refine zNt ?_ | (refine zGt (fun hg => ?_) fun hg => ?_; case' _ => refine zCm ?_)
  all_goals refine zPk ?_
  all_goals refine zMv ?_
  all_goals first | (refine zY ?_; refine zF 3 3 true ?_) | refine zU ?_ | refine zNt ?_ | (refine zGt (fun hg => ?_) fun hg => ?_; case' _ => refine zF 3 3 true ?_)
  all_goals first | (refine zY ?_; refine zLd ?_) | refine zU ?_ | refine zNt ?_ | (refine zGt (fun hg => ?_) fun hg => ?_; case' _ => refine zLd ?_)
  all_goals first | (refine zY ?_; refine zF 3 3 true ?_) | refine zU ?_ | refine zNt ?_ | (refine zGt (fun hg => ?_) fun hg => ?_; case' _ => refine zF 3 3 true ?_)
  all_goals first | (refine zY ?_; refine zLd ?_) | refine zU ?_ | refine zNt ?_ | (refine zGt (fun hg => ?_) fun hg => ?_; case' _ => refine zLd ?_)
  all_goals first | (refine zY ?_; refine aops_call_v zRc (rsame_con e.t f.t) rfl rfl ?_) | refine zU ?_ | refine zNt ?_ | (refine zGt (fun hg => ?_) fun hg => ?_; case' _ => refine aops_call_v zRc (rsame_con e.t f.t) rfl rfl ?_)
  all_goals refine zPk ?_
  all_goals refine zMv ?_
  all_goals first | (refine zY ?_; refine zF 6 1 false ?_) | refine zU ?_ | refine zNt ?_ | (refine zGt (fun hg => ?_) fun hg => ?_; case' _ => refine zF 6 1 false ?_)
  all_goals first | (refine zY ?_; refine zL1 ?_) | refine zU ?_ | refine zNt ?_ | (refine zGt (fun hg => ?_) fun hg => ?_; case' _ => refine zL1 ?_)
  all_goals first | (refine zY ?_; refine zF 6 1 false ?_) | refine zU ?_ | refine zNt ?_ | (refine zGt (fun hg => ?_) fun hg => ?_; case' _ => refine zF 6 1 false ?_)
  all_goals first | (refine zY ?_; refine zL1 ?_) | refine zU ?_ | refine zNt ?_ | (refine zGt (fun hg => ?_) fun hg => ?_; case' _ => refine zL1 ?_)
  all_goals first | (refine zY ?_; refine zCm ?_) | refine zU ?_ | refine zNt ?_ | (refine zGt (fun hg => ?_) fun hg => ?_; case' _ => refine zCm ?_)
  all_goals refine zPk ?_
  all_goals refine zMv ?_
  all_goals first | (refine zY ?_; refine zF 7 2 true ?_) | refine zU ?_ | refine zNt ?_ | (refine zGt (fun hg => ?_) fun hg => ?_; case' _ => refine zF 7 2 true ?_)
  all_goals first | (refine zY ?_; refine zLd ?_) | refine zU ?_ | refine zNt ?_ | (refine zGt (fun hg => ?_) fun hg => ?_; case' _ => refine zLd ?_)
  all_goals first | (refine zY ?_; refine zF 7 2 true ?_) | refine zU ?_ | refine zNt ?_ | (refine zGt (fun hg => ?_) fun hg => ?_; case' _ => refine zF 7 2 true ?_)
  all_goals first | (refine zY ?_; refine zLd ?_) | refine zU ?_ | refine zNt ?_ | (refine zGt (fun hg => ?_) fun hg => ?_; case' _ => refine zLd ?_)
  all_goals first | (refine zY ?_; refine zP (ap_eqs rfl rfl eq2_29) ?_) | refine zU ?_ | refine zNt ?_ | (refine zGt (fun hg => ?_) fun hg => ?_; case' _ => refine zP (ap_eqs rfl rfl eq2_29) ?_)
  all_goals refine zPk ?_
  all_goals refine zMv ?_
  all_goals first | (refine zY ?_; refine zF 9 2 true ?_) | refine zU ?_ | refine zNt ?_ | (refine zGt (fun hg => ?_) fun hg => ?_; case' _ => refine zF 9 2 true ?_)
  all_goals first | (refine zY ?_; refine zLd ?_) | refine zU ?_ | refine zNt ?_ | (refine zGt (fun hg => ?_) fun hg => ?_; case' _ => refine zLd ?_)
  all_goals first | (refine zY ?_; refine zF 9 2 true ?_) | refine zU ?_ | refine zNt ?_ | (refine zGt (fun hg => ?_) fun hg => ?_; case' _ => refine zF 9 2 true ?_)
  all_goals first | (refine zY ?_; refine zLd ?_) | refine zU ?_ | refine zNt ?_ | (refine zGt (fun hg => ?_) fun hg => ?_; case' _ => refine zLd ?_)
  all_goals first | (refine zY ?_; refine zP (ap_eqs rfl rfl eq2_29) ?_) | refine zU ?_ | refine zNt ?_ | (refine zGt (fun hg => ?_) fun hg => ?_; case' _ => refine zP (ap_eqs rfl rfl eq2_29) ?_)
  all_goals refine zPk ?_
  all_goals refine zMv ?_
  all_goals first | (refine zY ?_; refine zF 11 2 true ?_) | refine zU ?_ | refine zNt ?_ | (refine zGt (fun hg => ?_) fun hg => ?_; case' _ => refine zF 11 2 true ?_)
  all_goals first | (refine zY ?_; refine zLd ?_) | refine zU ?_ | refine zNt ?_ | (refine zGt (fun hg => ?_) fun hg => ?_; case' _ => refine zLd ?_)
  all_goals first | (refine zY ?_; refine zF 11 2 true ?_) | refine zU ?_ | refine zNt ?_ | (refine zGt (fun hg => ?_) fun hg => ?_; case' _ => refine zF 11 2 true ?_)
  all_goals first | (refine zY ?_; refine zLd ?_) | refine zU ?_ | refine zNt ?_ | (refine zGt (fun hg => ?_) fun hg => ?_; case' _ => refine zLd ?_)
  all_goals first | (refine zY ?_; refine zP (ap_eqs rfl rfl eq2_29) ?_) | refine zU ?_ | refine zNt ?_ | (refine zGt (fun hg => ?_) fun hg => ?_; case' _ => refine zP (ap_eqs rfl rfl eq2_29) ?_)
  all_goals refine zPk ?_
  all_goals refine zMv ?_
  all_goals first | (refine zY ?_; refine zF 13 1 false ?_) | refine zU ?_ | refine zNt ?_ | (refine zGt (fun hg => ?_) fun hg => ?_; case' _ => refine zF 13 1 false ?_)
  all_goals first | (refine zY ?_; refine zL1 ?_) | refine zU ?_ | refine zNt ?_ | (refine zGt (fun hg => ?_) fun hg => ?_; case' _ => refine zL1 ?_)
  all_goals first | (refine zY ?_; refine zF 13 1 false ?_) | refine zU ?_ | refine zNt ?_ | (refine zGt (fun hg => ?_) fun hg => ?_; case' _ => refine zF 13 1 false ?_)
  all_goals first | (refine zY ?_; refine zL1 ?_) | refine zU ?_ | refine zNt ?_ | (refine zGt (fun hg => ?_) fun hg => ?_; case' _ => refine zL1 ?_)
  all_goals first | (refine zY ?_; refine zCm ?_) | refine zU ?_ | refine zNt ?_ | (refine zGt (fun hg => ?_) fun hg => ?_; case' _ => refine zCm ?_)
  all_goals refine zPk ?_
  all_goals refine zMv ?_
  all_goals first | (refine zY ?_; refine zF 14 1 false ?_) | refine zU ?_ | refine zNt ?_ | (refine zGt (fun hg => ?_) fun hg => ?_; case' _ => refine zF 14 1 false ?_)
  all_goals first | (refine zY ?_; refine zL1 ?_) | refine zU ?_ | refine zNt ?_ | (refine zGt (fun hg => ?_) fun hg => ?_; case' _ => refine zL1 ?_)
  all_goals first | (refine zY ?_; refine zF 14 1 false ?_) | refine zU ?_ | refine zNt ?_ | (refine zGt (fun hg => ?_) fun hg => ?_; case' _ => refine zF 14 1 false ?_)
  all_goals first | (refine zY ?_; refine zL1 ?_) | refine zU ?_ | refine zNt ?_ | (refine zGt (fun hg => ?_) fun hg => ?_; case' _ => refine zL1 ?_)
  all_goals first | (refine zY ?_; refine zCm ?_) | refine zU ?_ | refine zNt ?_ | (refine zGt (fun hg => ?_) fun hg => ?_; case' _ => refine zCm ?_)
  all_goals refine zPk ?_
  all_goals refine zAs ?_
  all_goals (
    refine zN ?_; refine awp_ret ?_
    exact post_ret (.tmp rfl .nil) zKeep ⟨_, rfl, rfl⟩
    )
theorem at_ex {α : Type} (l : List α) (k : Nat) (d : α) : ∃ y, k < l.length → l[k]? = some y := by
  by_cases h : k < l.length
  · exact ⟨l[k], fun _ => List.getElem?_eq_getElem h⟩
  · exact ⟨d, fun h' => absurd h' h⟩
theorem map_put {α : Type} (f : α → D) (l : List α) (x : α) (k j : Nat) : (List.take k (l.map f) ++ [f x]) ++ List.drop j (l.map f) = (l.take k ++ [x] ++ l.drop j).map f := by simp [List.map_take, List.map_drop]
theorem put_mem {α : Type} {p : α → Prop} {l : List α} {x : α} {k j : Nat} (h : ∀ y ∈ l, p y) (hx : p x) : ∀ y ∈ l.take k ++ [x] ++ l.drop j, p y := fun y hy => by
  rcases List.mem_append.1 hy with hy | hy
  · rcases List.mem_append.1 hy with hy | hy
    · exact h y (List.mem_of_mem_take hy)
    · obtain rfl : y = x := by simpa using hy
      exact hx
  · exact h y (List.mem_of_mem_drop hy)
theorem put_len {α : Type} {l : List α} {x : α} {k j : Nat} (h : k ≤ j) : (l.take k ++ [x] ++ l.drop j).length ≤ l.length + 1 := by simp; omega
theorem into_con (p : Bal → Prop) (l : List Bal) (hlen : l.length ≤ 1000) (b : Bal) (hl : ∀ x ∈ l, p x) (hb : zB b = false → p b) : Con Tryz.prog 145 [.sl 2 (l.map bv), bv b] [] (fun d H => ∃ q : List Bal, d = .sl 2 (q.map bv) ∧ (q.length ≤ l.length + 1 ∧ ∀ x ∈ q, p x) ∧ H = []) := by
  have hcap : capB = 140737488355328 := rfl
  have hml : (l.map bv).length = l.length := by simp
  refine con_intro Tryz.func145 rfl Tryz.call145 rfl ?_
  refine zS ?_
  refine aops_box rfl zFlat rfl rfl (fun b3 => ?_)
  refine zAs ?_; refine zN ?_; refine awp_seq ?_; refine zS ?_; refine zLd ?_
  refine aops_call_v zRc (rz_con b) rfl rfl ?_
  refine zN ?_
  refine zC (fun hc => ?_) fun hc => ?_
  · refine awp_seq ?_
    refine awp_region ?_; refine zMv ?_; refine zAs ?_; refine zN ?_; refine awp_ret ?_; refine seqQ_r ?_
    exact post_ret (.tmp rfl .nil) zKeep ⟨l, rfl, ⟨by omega, hl⟩, rfl⟩
  · have hbz : zB b = false := hc
    refine awp_skip ?_; refine seqQ_n ?_; refine zS ?_; refine zAs ?_; refine zN ?_; refine awp_seq ?_; refine awp_block ?_
    refine awp_loop1 [0, 3] [.box b3 _ _] (fun (k : Nat) r => (5, .i (k : Int)) :: r) (fun (k : Nat) r => r) (fun (k : Nat) => k ≤ l.length) (fun (k : Nat) => l.length - k) (0) zRc (by omega) (wk zSub zKeep) ?_
    intro k hk
    obtain ⟨y, hy⟩ := at_ex l k b
    refine awp_seq ?_; refine awp_seq ?_
    refine awp_draw (Hm := []) zKr zSplit ?_
    refine zT 0 rfl (AP.ar (ap_move rfl)) ?_
    refine zT 1 rfl (AP.ar (ap_move rfl)) ?_
    first | refine zT 2 rfl (AP.ar (ap_len rfl rfl)) ?_ | refine zT 2 rfl (ar_len_arr rfl zUpd rfl) ?_ | refine zT 2 rfl (AP.ar (ap_len_nil rfl rfl)) ?_
    refine zT 3 rfl (AP.ar (ap_cmp rfl rfl rfl)) ?_
    refine zT 4 rfl (AP.ar (ap_move rfl)) ?_
    refine aany_guard 4 rfl (fun hg => ?_) (fun hg => ?_)
    rotate_left
    case' _ =>
      refine zK 5 ?_; refine zK 6 ?_; refine zK 7 ?_; refine zK 8 ?_; refine zK 9 ?_; refine zK 10 ?_; refine zTp 11 ?_; refine aany_nil zKr ?_
    rotate_right
    case' _ =>
      refine zTM 5 ?_
      refine zT 6 rfl (AP.ar (ap_move rfl)) ?_
      refine zT 7 rfl (AP.ar (ap_move rfl)) ?_
      refine aany_take 8 rfl (.yes rfl rfl zDec) zKr zKr zKr (AP.ar (ap_index (k := k) rfl rfl rfl rfl (by decide) rfl (getMap bv (hy (by have h9 : decide ((k : Int) < ((l.map bv).length : Int)) = true := (by first | with_reducible assumption | exact hg); have := of_decide_eq_true h9; simp only [List.length_map] at this; omega))))) rfl rfl ?_
      refine zTM 9 ?_
      refine aany_one 10 zKr rfl (.yes rfl rfl zDec) ?_
      refine aops_call_v zRc (rl_con b y) rfl rfl ?_
      refine aops_nil ?_; refine zTp 11 ?_; refine aany_nil zKr ?_
    all_goals (
      refine seqQ_n ?_
      refine zC (fun hc => ?_) fun hc => ?_
      · first
        | (exact absurd hc (by decide))
        | (refine awp_skip ?_
           refine seqQ_n ?_; refine awp_block ?_; refine awp_region ?_; refine zMv ?_; refine zAr ?_; refine zAs ?_; refine aops_nil ?_; refine blockQ_n ?_; refine seqQ_n ?_
           have hlt : k < l.length := by have h9 : decide ((k : Int) < ((l.map bv).length : Int)) = true := (by first | with_reducible assumption | exact hg | exact hc); have := of_decide_eq_true h9; omega
           refine ⟨k + 1, by omega, by omega, wk zSub zKeep⟩
          )
      · first
        | (exact absurd hc (by decide))
        | (refine awp_exit ?_
           refine seqQ_x ?_; refine seqQ_x ?_; refine blockQ_x rfl ?_; refine seqQ_n ?_; refine awp_seq ?_; refine awp_seq ?_
           refine awp_draw (Hm := []) zKr zSplit ?_
           refine zT 0 rfl (AP.ar (ap_move rfl)) ?_
           refine zT 1 rfl (AP.ar (ap_move rfl)) ?_
           first | refine zT 2 rfl (AP.ar (ap_len rfl rfl)) ?_ | refine zT 2 rfl (ar_len_arr rfl zUpd rfl) ?_ | refine zT 2 rfl (AP.ar (ap_len_nil rfl rfl)) ?_
           refine zT 3 rfl (AP.ar (ap_cmp rfl rfl rfl)) ?_
           refine zT 4 rfl (AP.ar (ap_move rfl)) ?_
           refine aany_guard 4 rfl (fun hg => ?_) (fun hg => ?_)
           rotate_left
           case' _ =>
             refine zK 5 ?_; refine zK 6 ?_; refine zK 7 ?_; refine zK 8 ?_; refine zK 9 ?_; refine zK 10 ?_; refine zTp 11 ?_; refine aany_nil zKr ?_
           rotate_right
           case' _ =>
             refine zT 5 rfl (AP.ar (ap_move rfl)) ?_
             refine zT 6 rfl (AP.ar (ap_move rfl)) ?_
             refine aany_take 7 rfl (.yes rfl rfl zDec) zKr zKr zKr (AP.ar (ap_index (k := k) rfl rfl rfl rfl (by decide) rfl (getMap bv (hy (by have h9 : decide ((k : Int) < ((l.map bv).length : Int)) = true := (by first | with_reducible assumption | exact hg); have := of_decide_eq_true h9; simp only [List.length_map] at this; omega))))) rfl rfl ?_
             refine zTM 8 ?_; refine zTM 9 ?_
             refine zT 10 rfl (AP.ar (ap_eqs rfl rfl eq2_29)) ?_
             refine zTp 11 ?_; refine aany_nil zKr ?_
           all_goals (
             refine seqQ_n ?_
             refine zC (fun hc => ?_) fun hc => ?_
             · first
               | (exact absurd hc (by decide))
               | (refine awp_seq ?_
                  refine awp_region ?_; refine zMv ?_; refine zAs ?_; refine zN ?_; refine awp_ret ?_; refine seqQ_r ?_
                  exact post_ret (.tmp rfl .nil) zKeep ⟨l, rfl, ⟨by omega, hl⟩, rfl⟩
                 )
             · first
               | (exact absurd hc (by decide))
               | (refine awp_skip ?_
                  refine seqQ_n ?_; refine awp_seq ?_
                  refine awp_draw (Hm := []) zKr zSplit ?_
                  refine zT 0 rfl (AP.ar (ap_move rfl)) ?_
                  refine zT 1 rfl (AP.ar (ap_move rfl)) ?_
                  refine zT 2 rfl (AP.ar (ap_slice_to rfl rfl rfl rfl rfl (by omega))) ?_
                  refine zTM 4 ?_
                  refine zT 7 rfl (AP.ar (ap_move rfl)) ?_
                  refine zT 8 rfl (AP.ar (ap_move rfl)) ?_
                  first | refine zT 9 rfl (AP.ar (ap_slice_own_from rfl zUpd rfl rfl rfl rfl (by omega))) ?_ | refine zT 9 rfl (AP.ar (ap_slice_from rfl rfl rfl rfl rfl (by simp only [List.length_map]; omega))) ?_
                  refine aany_each2 3 5 zKr rfl (.none rfl) ?_ rfl (.none rfl) ?_
                  rotate_left
                  case' _ =>
                    refine aops_lit (e := 29) (sz := 2) (by_ := 24) rfl rfl zRc rfl rfl rfl rfl ?_
                    refine aops_nil ?_
                    refine aany_one 3 zKr rfl (.none rfl) ?_
                    first | refine aops_append (e := 29) (sz := 2) (by_ := 24) rfl zUpd rfl rfl rfl rfl rfl (by simp only [List.length_cons, List.length_nil, List.length_append, List.length_map, List.length_take, List.length_drop]; omega) (fun v39 hv39 => ?_) | refine aops_append_nil (e := 29) (sz := 2) (by_ := 24) rfl rfl rfl rfl rfl rfl (by simp only [List.length_cons, List.length_nil, List.length_append, List.length_map, List.length_take, List.length_drop]; omega) (fun v39 hv39 => ?_)
                    refine aops_nil ?_
                    refine aany_one 6 zKr rfl (.none rfl) ?_
                    first | refine aops_append (e := 29) (sz := 2) (by_ := 24) rfl zUpd rfl rfl rfl rfl rfl (by simp only [List.length_cons, List.length_nil, List.length_append, List.length_map, List.length_take, List.length_drop]; omega) (fun v42 hv42 => ?_) | refine aops_append_nil (e := 29) (sz := 2) (by_ := 24) rfl rfl rfl rfl rfl rfl (by simp only [List.length_cons, List.length_nil, List.length_append, List.length_map, List.length_take, List.length_drop]; omega) (fun v42 hv42 => ?_)
                    refine aops_nil ?_
                    refine aany_one 10 zKr rfl (.none rfl) ?_
                    first | refine aops_append (e := 29) (sz := 2) (by_ := 24) rfl zUpd rfl rfl rfl rfl rfl (by simp only [List.length_cons, List.length_nil, List.length_append, List.length_map, List.length_take, List.length_drop]; omega) (fun v46 hv46 => ?_) | refine aops_append_nil (e := 29) (sz := 2) (by_ := 24) rfl rfl rfl rfl rfl rfl (by simp only [List.length_cons, List.length_nil, List.length_append, List.length_map, List.length_take, List.length_drop]; omega) (fun v46 hv46 => ?_)
                    refine aops_nil ?_
                    refine zT 11 rfl (AP.ar (ap_assign rfl)) ?_
                    refine aany_nil zKr ?_
                  rotate_right
                  case' _ =>
                    first | refine aops_append (e := 29) (sz := 2) (by_ := 24) rfl zUpd rfl rfl rfl rfl rfl (by simp only [List.length_cons, List.length_nil, List.length_append, List.length_map, List.length_take, List.length_drop]; omega) (fun v39 hv39 => ?_) | refine aops_append_nil (e := 29) (sz := 2) (by_ := 24) rfl rfl rfl rfl rfl rfl (by simp only [List.length_cons, List.length_nil, List.length_append, List.length_map, List.length_take, List.length_drop]; omega) (fun v39 hv39 => ?_)
                    refine aops_nil ?_
                    refine aany_one 5 zKr rfl (.none rfl) ?_
                    refine aops_lit (e := 29) (sz := 2) (by_ := 24) rfl rfl zRc rfl rfl rfl rfl ?_
                    refine aops_nil ?_
                    refine aany_one 6 zKr rfl (.none rfl) ?_
                    first | refine aops_append (e := 29) (sz := 2) (by_ := 24) rfl zUpd rfl rfl rfl rfl rfl (by simp only [List.length_cons, List.length_nil, List.length_append, List.length_map, List.length_take, List.length_drop]; omega) (fun v42 hv42 => ?_) | refine aops_append_nil (e := 29) (sz := 2) (by_ := 24) rfl rfl rfl rfl rfl rfl (by simp only [List.length_cons, List.length_nil, List.length_append, List.length_map, List.length_take, List.length_drop]; omega) (fun v42 hv42 => ?_)
                    refine aops_nil ?_
                    refine aany_one 10 zKr rfl (.none rfl) ?_
                    first | refine aops_append (e := 29) (sz := 2) (by_ := 24) rfl zUpd rfl rfl rfl rfl rfl (by simp only [List.length_cons, List.length_nil, List.length_append, List.length_map, List.length_take, List.length_drop]; omega) (fun v46 hv46 => ?_) | refine aops_append_nil (e := 29) (sz := 2) (by_ := 24) rfl rfl rfl rfl rfl rfl (by simp only [List.length_cons, List.length_nil, List.length_append, List.length_map, List.length_take, List.length_drop]; omega) (fun v46 hv46 => ?_)
                    refine aops_nil ?_
                    refine zT 11 rfl (AP.ar (ap_assign rfl)) ?_
                    refine aany_nil zKr ?_
                  all_goals (
                    refine seqQ_n ?_
                    rw [show D.agg [.i b.n, .v (.string b.v)] = bv b from rfl, List.nil_append, map_put]
                    refine awp_freeze v46 [4] zRem zSelC zHeapA ?_
                    refine awp_ret ?_
                    exact post_ret (.tmp rfl .nil) zKeep ⟨_, rfl, ⟨put_len (by omega), put_mem hl (hb hbz)⟩, rfl⟩
                    )
                 )
             )
          )
      )
theorem vB_BB {b : Bal} (h : vB b = true) : BB b := by
  simp only [vB, Bool.and_eq_true, Bool.or_eq_true, decide_eq_true_eq] at h
  exact ⟨by omega, by omega, by omega⟩
theorem opt_BB {b : Bal} (h : optB b = true) : BB b := by
  unfold optB at h
  rw [Bool.or_eq_true] at h
  rcases h with h | h
  · rw [zB_eq h]; exact BB_none
  · exact vB_BB h
theorem vE_BB {e : Evp} (h : vE e = true) : BB e.bal ∧ BB e.prep ∧ BB e.prime := by
  unfold vE at h
  rw [Bool.and_eq_true] at h
  have h2 := h.2
  unfold kindE at h2
  split at h2
  · unfold prepE finB at h2
    simp only [Bool.and_eq_true] at h2
    exact ⟨vB_BB h2.1.1.1, opt_BB h2.1.2.1, opt_BB h2.1.2.2.1⟩
  · split at h2
    · unfold finB at h2
      simp only [Bool.and_eq_true] at h2
      refine ⟨vB_BB h2.1.1, vB_BB h2.2.1, ?_⟩
      rw [zB_eq h2.2.2.2.1]; exact BB_none
    · split at h2
      · simp only [Bool.and_eq_true] at h2
        refine ⟨vB_BB h2.1, ?_, ?_⟩
        · rw [zB_eq h2.2.1]; exact BB_none
        · rw [zB_eq h2.2.2.1]; exact BB_none
      · cases h2
theorem vE_rng {e : Evp} (h : vE e = true) (h0 : ¬ e.low = 0) : (1 ≤ e.low ∧ e.low ≤ 1000) ∧ 1 ≤ e.high ∧ e.high ≤ 1000 := by
  unfold vE at h
  rw [Bool.and_eq_true] at h
  have h2 := h.2
  unfold kindE at h2
  split at h2
  · unfold prepE finB at h2
    simp only [Bool.and_eq_true, decide_eq_true_eq] at h2
    omega
  · split at h2
    · unfold rngE at h2
      simp only [Bool.and_eq_true, decide_eq_true_eq] at h2
      omega
    · split at h2
      · unfold rngE at h2
        simp only [Bool.and_eq_true, decide_eq_true_eq] at h2
        omega
      · cases h2
set_option maxHeartbeats 1000000 in
theorem rballots_con (l : List Evp) (hlen : l.length ≤ 100) (hl : ∀ e ∈ l, sizeT e.t ≤ 1000000000) : Con Tryz.prog 132 [.sl 15 (l.map ev)] [] (fun d H => ∃ q : List Bal, d = .sl 2 (q.map bv) ∧ (∀ x ∈ q, BB x ∧ zB x = false) ∧ H = []) := by
  have hcap : capB = 140737488355328 := rfl
  have hml : (l.map ev).length = l.length := by simp
  refine con_intro Tryz.func132 rfl Tryz.call132 rfl ?_
  refine zS ?_; refine zAs ?_; refine zN (zS ?_); refine zAs ?_; refine zN ?_; refine awp_seq ?_; refine awp_seq ?_
  refine awp_unnil [0,3] 2 rfl zSelC zHeapA ?_
  refine awp_region ?_; refine zMv ?_
  first | refine aops_len rfl rfl rfl rfl (fun _ => ?_) | refine zP (ap_len_arr rfl zUpd rfl) ?_ | refine zP (ap_len_nil rfl rfl) ?_
  refine zMv ?_; refine zN ?_; refine awp_block ?_
  refine awp_loop2 [9, 10] [] (fun (k : Nat) (q : List Bal) r => (3, .sl 2 (q.map bv)) :: (11, .i (k : Int)) :: r) (fun (k : Nat) (q : List Bal) r => r) (fun (k : Nat) (q : List Bal) => k ≤ l.length ∧ q.length ≤ 3 * k ∧ ∀ x ∈ q, BB x ∧ zB x = false) (fun (k : Nat) (q : List Bal) => l.length - k) (0) ([]) zRc ⟨by omega, by simp, fun x h => absurd h List.not_mem_nil⟩ (wk zSub zKeep) ?_
  intro k q ⟨hk, hql, hq⟩
  refine zS ?_; refine zCm ?_; refine zN ?_; refine awp_seq ?_
  refine zC (fun hc => ?_) fun hc => ?_
  · have hlt := of_decide_eq_true hc
    obtain ⟨x, hx, hd⟩ := drop_cons (l := l) (k := k) (by omega)
    have hx' := getMap ev hx
    have hxs := hl x (List.mem_of_getElem? hx)
    refine awp_skip ?_; refine seqQ_n ?_; refine awp_seq ?_; refine awp_block ?_; refine zS ?_
    first | refine zP (ap_index rfl rfl rfl rfl (by decide) rfl zAss) ?_ | refine zP (ap_index rfl rfl rfl rfl (by decide) (by omega) zAss) ?_ | refine zP (ap_index_own rfl rfl rfl rfl rfl (by first | omega | (simp only [List.length_map, List.length_set, avs_len]; omega))) ?_
    refine zLd ?_
    refine aops_alloc rfl zRc rfl rfl (fun b5 => ?_)
    refine zSt ?_; refine zN ?_; refine awp_seq ?_; refine zS ?_; refine zLd ?_
    refine aops_call_v zRc (rvalid24_con x hxs) rfl rfl ?_
    refine zNo ?_; refine zN ?_
    refine zC (fun hc => ?_) fun hc => ?_
    · refine awp_exit ?_
      refine seqQ_x ?_; refine blockQ_x rfl ?_; refine seqQ_n ?_; refine awp_region ?_; refine zAr ?_; refine zMv ?_; refine zN ?_
      first
      | (have hj9 : (j : Nat) = j := rfl; refine ⟨k + 1, q, ⟨by omega, by omega, hq⟩, by omega, wk zSub zKeep⟩)
      | (refine ⟨k + 1, q, ⟨by omega, by omega, hq⟩, by omega, wk zSub zKeep⟩)
    · have hve : vE x = true := not_f hc
      obtain ⟨bb1, bb2, bb3⟩ := vE_BB hve
      refine awp_skip ?_; refine seqQ_n ?_; refine zS ?_; refine zF 7 2 true ?_; refine zLd ?_; refine zF 9 2 true ?_; refine zLd ?_; refine zF 11 2 true ?_; refine zLd ?_
      refine aops_lit (e := 29) (sz := 2) (by_ := 24) rfl rfl zRc rfl rfl rfl rfl ?_
      refine zAs ?_; refine zN ?_; refine awp_seq ?_; refine zS ?_; refine zF 6 1 false ?_; refine zL1 ?_; refine zCm ?_; refine zN ?_
      refine zC (fun hc => ?_) fun hc => ?_
      · refine awp_region ?_
        refine zF 9 2 true ?_; refine zLd ?_; refine zF 7 2 true ?_; refine zF 1 1 false ?_; refine zL1 ?_
        refine zP (ap_build zKr rfl zRc zFill) ?_
        refine aops_lit (e := 29) (sz := 2) (by_ := 24) rfl rfl zRc rfl rfl rfl rfl ?_
        refine zAs ?_; refine zN ?_; refine awp_seq ?_
        first | (rw [show [D.agg [.i x.prep.n, .v (.string x.prep.v)], D.agg [.i 1000000, .v (.string x.bal.v)]] = [x.prep, ⟨1000000, x.bal.v⟩].map bv from rfl]; obtain ⟨ys, hys⟩ : ∃ ys : List Bal, ys = [x.prep, ⟨1000000, x.bal.v⟩] := ⟨_, rfl⟩; have hys2 : ∀ y ∈ ys, BB y := (by rw [hys]; intro y hy; simp only [List.mem_cons, List.not_mem_nil, or_false] at hy; rcases hy with rfl | rfl; exact bb2; exact ⟨show (0 : Int) ≤ 1000000 by omega, show (1000000 : Int) ≤ 1000000 by omega, bb1.sz⟩); have hysl : ys.length ≤ 3 := (by rw [hys]; simp); rw [← hys]) | (rw [show [D.agg [.i x.bal.n, .v (.string x.bal.v)], D.agg [.i x.prep.n, .v (.string x.prep.v)], D.agg [.i x.prime.n, .v (.string x.prime.v)]] = [x.bal, x.prep, x.prime].map bv from rfl]; obtain ⟨ys, hys⟩ : ∃ ys : List Bal, ys = [x.bal, x.prep, x.prime] := ⟨_, rfl⟩; have hys2 : ∀ y ∈ ys, BB y := (by rw [hys]; intro y hy; simp only [List.mem_cons, List.not_mem_nil, or_false] at hy; rcases hy with rfl | rfl | rfl; exact bb1; exact bb2; exact bb3); have hysl : ys.length ≤ 3 := (by rw [hys]; simp); rw [← hys])
        have hym : (ys.map bv).length = ys.length := by simp
        refine awp_region ?_; refine zMv ?_
        first | refine aops_len rfl rfl rfl rfl (fun _ => ?_) | refine zP (ap_len_arr rfl zUpd rfl) ?_ | refine zP (ap_len_nil rfl rfl) ?_
        refine zMv ?_; refine zN ?_; refine awp_block ?_
        refine awp_loop2 [9, 10, 11, 35, 36] [] (fun (j : Nat) (q : List Bal) r => (3, .sl 2 (q.map bv)) :: (37, .i (j : Int)) :: r) (fun (j : Nat) (q : List Bal) r => r) (fun (j : Nat) (q : List Bal) => j ≤ ys.length ∧ q.length ≤ 3 * k + j ∧ ∀ x ∈ q, BB x ∧ zB x = false) (fun (j : Nat) (q : List Bal) => ys.length - j) (0) (q) zRc ⟨by omega, by omega, hq⟩ (wk zSub zKeep) ?_
        intro j q ⟨hj, hql, hq⟩
        refine zS ?_; refine zCm ?_; refine zN ?_; refine awp_seq ?_
        refine zC (fun hc => ?_) fun hc => ?_
        · have hlt2 := of_decide_eq_true hc
          obtain ⟨y, hy, _⟩ := drop_cons (l := ys) (k := j) (by omega)
          have hy' := getMap bv hy
          have hyb := hys2 y (List.mem_of_getElem? hy)
          refine awp_skip ?_; refine seqQ_n ?_; refine awp_seq ?_; refine awp_block ?_; refine zS ?_
          first | refine zP (ap_index rfl rfl rfl rfl (by decide) rfl zAss) ?_ | refine zP (ap_index rfl rfl rfl rfl (by decide) (by omega) zAss) ?_ | refine zP (ap_index_own rfl rfl rfl rfl rfl (by first | omega | (simp only [List.length_map, List.length_set, avs_len]; omega))) ?_
          refine zLd ?_
          refine aops_alloc rfl zRc rfl rfl (fun b8 => ?_)
          refine zSt ?_; refine zN ?_; refine awp_region ?_; refine zMv ?_; refine zLd ?_
          (refine aops_call zRc (into_con (fun b => BB b ∧ zB b = false) q (by omega) y hq (fun h => ⟨hyb, h⟩)) zSplit rfl rfl ?_; rintro _ _ ⟨q2, rfl, ⟨hq2, hq3⟩, rfl⟩)
          refine zAs ?_; refine aops_nil ?_; refine blockQ_n ?_; refine seqQ_n ?_; refine awp_region ?_; refine zAr ?_; refine zMv ?_; refine zN ?_
          refine ⟨j + 1, q2, ⟨by omega, by omega, hq3⟩, by omega, wk zSub zKeep⟩
        · have hge2 := of_decide_eq_false hc
          refine awp_exit ?_; refine seqQ_x ?_; refine seqQ_x ?_; refine blockQ_x rfl ?_; refine blockQ_n ?_; refine seqQ_n ?_; refine awp_region ?_; refine zAr ?_; refine zMv ?_; refine zN ?_
          first
          | (have hj9 : (j : Nat) = j := rfl; refine ⟨k + 1, q, ⟨by omega, by omega, hq⟩, by omega, wk zSub zKeep⟩)
          | (refine ⟨k + 1, q, ⟨by omega, by omega, hq⟩, by omega, wk zSub zKeep⟩)
      · refine awp_skip ?_
        refine seqQ_n ?_; refine awp_seq ?_
        first | (rw [show [D.agg [.i x.prep.n, .v (.string x.prep.v)], D.agg [.i 1000000, .v (.string x.bal.v)]] = [x.prep, ⟨1000000, x.bal.v⟩].map bv from rfl]; obtain ⟨ys, hys⟩ : ∃ ys : List Bal, ys = [x.prep, ⟨1000000, x.bal.v⟩] := ⟨_, rfl⟩; have hys2 : ∀ y ∈ ys, BB y := (by rw [hys]; intro y hy; simp only [List.mem_cons, List.not_mem_nil, or_false] at hy; rcases hy with rfl | rfl; exact bb2; exact ⟨show (0 : Int) ≤ 1000000 by omega, show (1000000 : Int) ≤ 1000000 by omega, bb1.sz⟩); have hysl : ys.length ≤ 3 := (by rw [hys]; simp); rw [← hys]) | (rw [show [D.agg [.i x.bal.n, .v (.string x.bal.v)], D.agg [.i x.prep.n, .v (.string x.prep.v)], D.agg [.i x.prime.n, .v (.string x.prime.v)]] = [x.bal, x.prep, x.prime].map bv from rfl]; obtain ⟨ys, hys⟩ : ∃ ys : List Bal, ys = [x.bal, x.prep, x.prime] := ⟨_, rfl⟩; have hys2 : ∀ y ∈ ys, BB y := (by rw [hys]; intro y hy; simp only [List.mem_cons, List.not_mem_nil, or_false] at hy; rcases hy with rfl | rfl | rfl; exact bb1; exact bb2; exact bb3); have hysl : ys.length ≤ 3 := (by rw [hys]; simp); rw [← hys])
        have hym : (ys.map bv).length = ys.length := by simp
        refine awp_region ?_; refine zMv ?_
        first | refine aops_len rfl rfl rfl rfl (fun _ => ?_) | refine zP (ap_len_arr rfl zUpd rfl) ?_ | refine zP (ap_len_nil rfl rfl) ?_
        refine zMv ?_; refine zN ?_; refine awp_block ?_
        refine awp_loop2 [9, 10, 11, 35, 36] [] (fun (j : Nat) (q : List Bal) r => (3, .sl 2 (q.map bv)) :: (37, .i (j : Int)) :: r) (fun (j : Nat) (q : List Bal) r => r) (fun (j : Nat) (q : List Bal) => j ≤ ys.length ∧ q.length ≤ 3 * k + j ∧ ∀ x ∈ q, BB x ∧ zB x = false) (fun (j : Nat) (q : List Bal) => ys.length - j) (0) (q) zRc ⟨by omega, by omega, hq⟩ (wk zSub zKeep) ?_
        intro j q ⟨hj, hql, hq⟩
        refine zS ?_; refine zCm ?_; refine zN ?_; refine awp_seq ?_
        refine zC (fun hc => ?_) fun hc => ?_
        · have hlt2 := of_decide_eq_true hc
          obtain ⟨y, hy, _⟩ := drop_cons (l := ys) (k := j) (by omega)
          have hy' := getMap bv hy
          have hyb := hys2 y (List.mem_of_getElem? hy)
          refine awp_skip ?_; refine seqQ_n ?_; refine awp_seq ?_; refine awp_block ?_; refine zS ?_
          first | refine zP (ap_index rfl rfl rfl rfl (by decide) rfl zAss) ?_ | refine zP (ap_index rfl rfl rfl rfl (by decide) (by omega) zAss) ?_ | refine zP (ap_index_own rfl rfl rfl rfl rfl (by first | omega | (simp only [List.length_map, List.length_set, avs_len]; omega))) ?_
          refine zLd ?_
          refine aops_alloc rfl zRc rfl rfl (fun b8 => ?_)
          refine zSt ?_; refine zN ?_; refine awp_region ?_; refine zMv ?_; refine zLd ?_
          (refine aops_call zRc (into_con (fun b => BB b ∧ zB b = false) q (by omega) y hq (fun h => ⟨hyb, h⟩)) zSplit rfl rfl ?_; rintro _ _ ⟨q2, rfl, ⟨hq2, hq3⟩, rfl⟩)
          refine zAs ?_; refine aops_nil ?_; refine blockQ_n ?_; refine seqQ_n ?_; refine awp_region ?_; refine zAr ?_; refine zMv ?_; refine zN ?_
          refine ⟨j + 1, q2, ⟨by omega, by omega, hq3⟩, by omega, wk zSub zKeep⟩
        · have hge2 := of_decide_eq_false hc
          refine awp_exit ?_; refine seqQ_x ?_; refine seqQ_x ?_; refine blockQ_x rfl ?_; refine blockQ_n ?_; refine seqQ_n ?_; refine awp_region ?_; refine zAr ?_; refine zMv ?_; refine zN ?_
          first
          | (have hj9 : (j : Nat) = j := rfl; refine ⟨k + 1, q, ⟨by omega, by omega, hq⟩, by omega, wk zSub zKeep⟩)
          | (refine ⟨k + 1, q, ⟨by omega, by omega, hq⟩, by omega, wk zSub zKeep⟩)
  · refine awp_exit ?_
    refine seqQ_x ?_; refine seqQ_x ?_; refine blockQ_x rfl ?_; refine seqQ_n ?_; refine zS ?_; refine zMv ?_; refine zAs ?_; refine zN ?_; refine awp_ret ?_
    exact post_ret (.tmp rfl .nil) zKeep ⟨q, rfl, hq, rfl⟩
def strv (s : Str) : D := .v (.string s)
set_option maxHeartbeats 1000000 in
theorem rvalues_con (l : List Evp) (hlen : l.length ≤ 100) (hl : ∀ e ∈ l, sizeT e.t ≤ 1000000000) : Con Tryz.prog 136 [.sl 15 (l.map ev)] [] (fun d H => ∃ q : List Str, d = .sl 1 (q.map strv) ∧ (∀ x ∈ q, x.size ≤ 200) ∧ H = []) := by
  have hcap : capB = 140737488355328 := rfl
  have hml : (l.map ev).length = l.length := by simp
  refine con_intro Tryz.func136 rfl Tryz.call136 rfl ?_
  refine zS ?_; refine zAs ?_; refine zN (zS ?_); refine zAs ?_; refine zN ?_; refine awp_seq ?_; refine awp_seq ?_
  refine awp_unnil [0,3] 1 rfl zSelC zHeapA ?_
  refine awp_region ?_; refine zMv ?_
  first | refine aops_len rfl rfl rfl rfl (fun _ => ?_) | refine zP (ap_len_arr rfl zUpd rfl) ?_ | refine zP (ap_len_nil rfl rfl) ?_
  refine zMv ?_; refine zN ?_; refine awp_block ?_
  refine awp_loop2 [7, 8] [] (fun (i : Nat) (q : List Str) r => (3, .sl 1 (q.map strv)) :: (9, .i (i : Int)) :: r) (fun (i : Nat) (q : List Str) r => r) (fun (i : Nat) (q : List Str) => i ≤ l.length ∧ q.length ≤ i ∧ ∀ x ∈ q, x.size ≤ 200) (fun (i : Nat) (q : List Str) => l.length - i) (0) ([]) zRc ⟨by omega, by simp, fun x h => absurd h List.not_mem_nil⟩ (wk zSub zKeep) ?_
  intro i q ⟨hi, hql, hq⟩
  have hqm : (q.map strv).length = q.length := by simp
  refine zS ?_; refine zCm ?_; refine zN ?_; refine awp_seq ?_
  refine zC (fun hc => ?_) fun hc => ?_
  · have hlt := of_decide_eq_true hc
    obtain ⟨x, hx, hd⟩ := drop_cons (l := l) (k := i) (by omega)
    have hx' := getMap ev hx
    have hxs := hl x (List.mem_of_getElem? hx)
    refine awp_skip ?_; refine seqQ_n ?_; refine awp_seq ?_; refine awp_block ?_; refine zS ?_
    first | refine zP (ap_index rfl rfl rfl rfl (by decide) rfl zAss) ?_ | refine zP (ap_index rfl rfl rfl rfl (by decide) (by omega) zAss) ?_ | refine zP (ap_index_own rfl rfl rfl rfl rfl (by first | omega | (simp only [List.length_map, List.length_set, avs_len]; omega))) ?_
    refine zLd ?_
    refine aops_alloc rfl zRc rfl rfl (fun b5 => ?_)
    refine zSt ?_; refine zN ?_; refine awp_seq ?_; refine zS ?_; refine zLd ?_
    refine aops_call_v zRc (rvalid24_con x hxs) rfl rfl ?_
    refine zNo ?_; refine zN ?_
    refine zC (fun hc => ?_) fun hc => ?_
    · refine awp_exit ?_
      refine seqQ_x ?_; refine blockQ_x rfl ?_; refine seqQ_n ?_
      first | (rw [show D.v (.string x.bal.v) = strv x.bal.v from rfl, List.nil_append, map_put]; refine awp_freeze v58 [3,7,8,9] zRem zSelC zHeapA ?_) | skip
      refine awp_region ?_; refine zAr ?_; refine zMv ?_; refine zN ?_
      first
      | (have h58 : Value := v58; refine ⟨i + 1, q.take k ++ [x.bal.v] ++ q.drop k, ⟨by omega, by have := put_len (l := q) (x := x.bal.v) (Nat.le_refl k); omega, put_mem hq bb1.sz⟩, by omega, wk zSub zKeep⟩)
      | (refine ⟨i + 1, q, ⟨by omega, by omega, hq⟩, by omega, wk zSub zKeep⟩)
    · have hve : vE x = true := not_f hc
      obtain ⟨bb1, _, _⟩ := vE_BB hve
      refine awp_skip ?_; refine seqQ_n ?_; refine zS ?_; refine zAs ?_; refine zN ?_; refine awp_seq ?_; refine awp_block ?_
      refine awp_loop1 [3, 5, 7, 8, 9] [.box b5 _ _] (fun (k : Nat) r => (6, .i (k : Int)) :: r) (fun (k : Nat) r => r) (fun (k : Nat) => k ≤ q.length) (fun (k : Nat) => q.length - k) (0) zRc (by omega) (wk zSub zKeep) ?_
      intro k hk
      obtain ⟨y, hy⟩ := at_ex q k x.bal.v
      refine awp_seq ?_; refine awp_seq ?_
      refine awp_draw (Hm := []) zKr zSplit ?_
      refine zT 0 rfl (AP.ar (ap_move rfl)) ?_
      refine zT 1 rfl (AP.ar (ap_move rfl)) ?_
      first | refine zT 2 rfl (AP.ar (ap_len rfl rfl)) ?_ | refine zT 2 rfl (ar_len_arr rfl zUpd rfl) ?_ | refine zT 2 rfl (AP.ar (ap_len_nil rfl rfl)) ?_
      refine zT 3 rfl (AP.ar (ap_cmp rfl rfl rfl)) ?_
      refine zT 4 rfl (AP.ar (ap_move rfl)) ?_
      refine aany_guard 4 rfl (fun hg => ?_) (fun hg => ?_)
      rotate_left
      case' _ =>
        refine zK 5 ?_; refine zK 6 ?_; refine zK 7 ?_; refine zK 8 ?_; refine zK 9 ?_; refine zK 10 ?_; refine zK 11 ?_; refine zK 12 ?_; refine zTp 13 ?_; refine aany_nil zKr ?_
      rotate_right
      case' _ =>
        refine zT 5 rfl (AP.ar (ap_move rfl)) ?_
        refine zT 6 rfl (AP.ar (ap_move rfl)) ?_
        refine aany_take 7 rfl (.yes rfl rfl zDec) zKr zKr zKr (AP.ar (ap_index (k := k) rfl rfl rfl rfl (by decide) rfl (getMap strv (hy (by have h9 : decide ((k : Int) < ((q.map strv).length : Int)) = true := (by first | with_reducible assumption | exact hg); have := of_decide_eq_true h9; simp only [List.length_map] at this; omega))))) rfl rfl ?_
        refine zTL 8 ?_; refine zTF 9 7 2 true ?_; refine zTF 10 1 1 false ?_; refine zTL 11 ?_
        refine aany_one 12 zKr rfl (.yes rfl rfl zDec) ?_
        refine aops_call_v zRc (rlv_con y x.bal.v) rfl rfl ?_
        refine aops_nil ?_; refine zTp 13 ?_; refine aany_nil zKr ?_
      all_goals (
        refine seqQ_n ?_
        refine zC (fun hc => ?_) fun hc => ?_
        · first
          | (exact absurd hc (by decide))
          | (refine awp_skip ?_
             refine seqQ_n ?_; refine awp_block ?_; refine awp_region ?_; refine zMv ?_; refine zAr ?_; refine zAs ?_; refine aops_nil ?_; refine blockQ_n ?_; refine seqQ_n ?_
             have hlt : k < q.length := by have h9 : decide ((k : Int) < ((q.map strv).length : Int)) = true := (by first | with_reducible assumption | exact hg | exact hc); have := of_decide_eq_true h9; omega
             refine ⟨k + 1, by omega, by omega, wk zSub zKeep⟩
            )
        · first
          | (exact absurd hc (by decide))
          | (refine awp_exit ?_
             refine seqQ_x ?_; refine seqQ_x ?_; refine blockQ_x rfl ?_; refine seqQ_n ?_; refine awp_seq ?_
             refine awp_draw (Hm := []) zKr zSplit ?_
             refine zT 0 rfl (AP.ar (ap_move rfl)) ?_
             refine zT 1 rfl (AP.ar (ap_move rfl)) ?_
             first | refine zT 2 rfl (AP.ar (ap_len rfl rfl)) ?_ | refine zT 2 rfl (ar_len_arr rfl zUpd rfl) ?_ | refine zT 2 rfl (AP.ar (ap_len_nil rfl rfl)) ?_
             refine zT 3 rfl (AP.ar (ap_cmp rfl rfl rfl)) ?_
             refine zT 4 rfl (AP.ar (ap_move rfl)) ?_
             refine aany_guard 4 rfl (fun hg => ?_) (fun hg => ?_)
             rotate_left
             case' _ =>
               refine zT 5 rfl (AP.ar (ap_move rfl)) ?_
               refine zT 6 rfl (AP.ar (ap_move rfl)) ?_
               refine aany_take 7 rfl (.yes rfl rfl zDec) zKr zKr zKr (AP.ar (ap_index (k := k) rfl rfl rfl rfl (by decide) rfl (getMap strv (hy (by have h9 : decide ((k : Int) = ((q.map strv).length : Int)) = false := (by first | with_reducible assumption | exact hg); have := of_decide_eq_false h9; simp only [List.length_map] at this; omega))))) rfl rfl ?_
               refine zTL 8 ?_; refine zTF 9 7 2 true ?_; refine zTF 10 1 1 false ?_; refine zTL 11 ?_
               refine zT 12 rfl (AP.ar (ap_scmp rfl rfl rfl)) ?_
               refine zTp 13 ?_; refine aany_nil zKr ?_
             rotate_right
             case' _ =>
               refine zK 5 ?_; refine zK 6 ?_; refine zK 7 ?_; refine zK 8 ?_; refine zK 9 ?_; refine zK 10 ?_; refine zK 11 ?_; refine zK 12 ?_; refine zTp 13 ?_; refine aany_nil zKr ?_
             all_goals (
               refine seqQ_n ?_
               refine zC (fun hc => ?_) fun hc => ?_
               · first
                 | (exact absurd hc (by decide))
                 | (refine awp_draw (Hm := []) zKr zSplit ?_
                    refine zT 0 rfl (AP.ar (ap_move rfl)) ?_
                    refine zT 1 rfl (AP.ar (ap_move rfl)) ?_
                    refine zT 2 rfl (AP.ar (ap_slice_to rfl rfl rfl rfl rfl (by omega))) ?_
                    refine zTF 4 7 2 true ?_; refine zTF 5 1 1 false ?_; refine zTL 6 ?_
                    refine zT 9 rfl (AP.ar (ap_move rfl)) ?_
                    refine zT 10 rfl (AP.ar (ap_move rfl)) ?_
                    first | refine zT 11 rfl (AP.ar (ap_slice_own_from rfl zUpd rfl rfl rfl rfl (by omega))) ?_ | refine zT 11 rfl (AP.ar (ap_slice_from rfl rfl rfl rfl rfl (by simp only [List.length_map]; omega))) ?_
                    refine aany_each2 3 7 zKr rfl (.none rfl) ?_ rfl (.none rfl) ?_
                    rotate_left
                    case' _ =>
                      refine aops_lit (e := 9) (sz := 1) (by_ := 16) rfl rfl zRc rfl rfl rfl rfl ?_
                      refine aops_nil ?_
                      refine aany_one 3 zKr rfl (.none rfl) ?_
                      first | refine aops_append (e := 9) (sz := 1) (by_ := 16) rfl zUpd rfl rfl rfl rfl rfl (by simp only [List.length_cons, List.length_nil, List.length_append, List.length_map, List.length_take, List.length_drop]; omega) (fun v49 hv49 => ?_) | refine aops_append_nil (e := 9) (sz := 1) (by_ := 16) rfl rfl rfl rfl rfl rfl (by simp only [List.length_cons, List.length_nil, List.length_append, List.length_map, List.length_take, List.length_drop]; omega) (fun v49 hv49 => ?_)
                      refine aops_nil ?_
                      refine aany_one 8 zKr rfl (.none rfl) ?_
                      first | refine aops_append (e := 9) (sz := 1) (by_ := 16) rfl zUpd rfl rfl rfl rfl rfl (by simp only [List.length_cons, List.length_nil, List.length_append, List.length_map, List.length_take, List.length_drop]; omega) (fun v54 hv54 => ?_) | refine aops_append_nil (e := 9) (sz := 1) (by_ := 16) rfl rfl rfl rfl rfl rfl (by simp only [List.length_cons, List.length_nil, List.length_append, List.length_map, List.length_take, List.length_drop]; omega) (fun v54 hv54 => ?_)
                      refine aops_nil ?_
                      refine aany_one 12 zKr rfl (.none rfl) ?_
                      first | refine aops_append (e := 9) (sz := 1) (by_ := 16) rfl zUpd rfl rfl rfl rfl rfl (by simp only [List.length_cons, List.length_nil, List.length_append, List.length_map, List.length_take, List.length_drop]; omega) (fun v58 hv58 => ?_) | refine aops_append_nil (e := 9) (sz := 1) (by_ := 16) rfl rfl rfl rfl rfl rfl (by simp only [List.length_cons, List.length_nil, List.length_append, List.length_map, List.length_take, List.length_drop]; omega) (fun v58 hv58 => ?_)
                      refine aops_nil ?_
                      refine zT 13 rfl (AP.ar (ap_assign rfl)) ?_
                      refine aany_nil zKr ?_
                    rotate_right
                    case' _ =>
                      first | refine aops_append (e := 9) (sz := 1) (by_ := 16) rfl zUpd rfl rfl rfl rfl rfl (by simp only [List.length_cons, List.length_nil, List.length_append, List.length_map, List.length_take, List.length_drop]; omega) (fun v49 hv49 => ?_) | refine aops_append_nil (e := 9) (sz := 1) (by_ := 16) rfl rfl rfl rfl rfl rfl (by simp only [List.length_cons, List.length_nil, List.length_append, List.length_map, List.length_take, List.length_drop]; omega) (fun v49 hv49 => ?_)
                      refine aops_nil ?_
                      refine aany_one 7 zKr rfl (.none rfl) ?_
                      refine aops_lit (e := 9) (sz := 1) (by_ := 16) rfl rfl zRc rfl rfl rfl rfl ?_
                      refine aops_nil ?_
                      refine aany_one 8 zKr rfl (.none rfl) ?_
                      first | refine aops_append (e := 9) (sz := 1) (by_ := 16) rfl zUpd rfl rfl rfl rfl rfl (by simp only [List.length_cons, List.length_nil, List.length_append, List.length_map, List.length_take, List.length_drop]; omega) (fun v54 hv54 => ?_) | refine aops_append_nil (e := 9) (sz := 1) (by_ := 16) rfl rfl rfl rfl rfl rfl (by simp only [List.length_cons, List.length_nil, List.length_append, List.length_map, List.length_take, List.length_drop]; omega) (fun v54 hv54 => ?_)
                      refine aops_nil ?_
                      refine aany_one 12 zKr rfl (.none rfl) ?_
                      first | refine aops_append (e := 9) (sz := 1) (by_ := 16) rfl zUpd rfl rfl rfl rfl rfl (by simp only [List.length_cons, List.length_nil, List.length_append, List.length_map, List.length_take, List.length_drop]; omega) (fun v58 hv58 => ?_) | refine aops_append_nil (e := 9) (sz := 1) (by_ := 16) rfl rfl rfl rfl rfl rfl (by simp only [List.length_cons, List.length_nil, List.length_append, List.length_map, List.length_take, List.length_drop]; omega) (fun v58 hv58 => ?_)
                      refine aops_nil ?_
                      refine zT 13 rfl (AP.ar (ap_assign rfl)) ?_
                      refine aany_nil zKr ?_
                    all_goals (
                      refine blockQ_n ?_; refine seqQ_n ?_
                      first | (rw [show D.v (.string x.bal.v) = strv x.bal.v from rfl, List.nil_append, map_put]; refine awp_freeze v58 [3,7,8,9] zRem zSelC zHeapA ?_) | skip
                      refine awp_region ?_; refine zAr ?_; refine zMv ?_; refine zN ?_
                      first
                      | (have h58 : Value := v58; refine ⟨i + 1, q.take k ++ [x.bal.v] ++ q.drop k, ⟨by omega, by have := put_len (l := q) (x := x.bal.v) (Nat.le_refl k); omega, put_mem hq bb1.sz⟩, by omega, wk zSub zKeep⟩)
                      | (refine ⟨i + 1, q, ⟨by omega, by omega, hq⟩, by omega, wk zSub zKeep⟩)
                      )
                   )
               · first
                 | (exact absurd hc (by decide))
                 | (refine awp_skip ?_
                    refine blockQ_n ?_; refine seqQ_n ?_
                    first | (rw [show D.v (.string x.bal.v) = strv x.bal.v from rfl, List.nil_append, map_put]; refine awp_freeze v58 [3,7,8,9] zRem zSelC zHeapA ?_) | skip
                    refine awp_region ?_; refine zAr ?_; refine zMv ?_; refine zN ?_
                    first
                    | (have h58 : Value := v58; refine ⟨i + 1, q.take k ++ [x.bal.v] ++ q.drop k, ⟨by omega, by have := put_len (l := q) (x := x.bal.v) (Nat.le_refl k); omega, put_mem hq bb1.sz⟩, by omega, wk zSub zKeep⟩)
                    | (refine ⟨i + 1, q, ⟨by omega, by omega, hq⟩, by omega, wk zSub zKeep⟩)
                   )
               )
            )
        )
  · refine awp_exit ?_
    refine seqQ_x ?_; refine seqQ_x ?_; refine blockQ_x rfl ?_; refine seqQ_n ?_; refine zS ?_; refine zMv ?_; refine zAs ?_; refine zN ?_; refine awp_ret ?_
    exact post_ret (.tmp rfl .nil) zKeep ⟨q, rfl, hq, rfl⟩
theorem arr2 (a b : Int) {i : Nat} {p : Int → Prop} (h : i < 2) (ha : p a) (hb : p b) : ∃ z, SubL [D.i a, D.i b] (i * 1) 1 [D.i z] ∧ p z := by
  have : i = 0 ∨ i = 1 := by omega
  rcases this with rfl | rfl
  · exact ⟨a, by repeat constructor, ha⟩
  · exact ⟨b, by repeat constructor, hb⟩
set_option maxHeartbeats 1000000 in
theorem rbounds_con (l : List Evp) (hlen : l.length ≤ 100) (hl : ∀ e ∈ l, sizeT e.t ≤ 1000000000) (v : Str) : Con Tryz.prog 137 [.sl 15 (l.map ev), .v (.string v)] [] (fun d H => ∃ q : List Int, d = .sl 1 (q.map .i) ∧ (∀ x ∈ q, 1 ≤ x ∧ x ≤ 1000) ∧ H = []) := by
  have hcap : capB = 140737488355328 := rfl
  have hml : (l.map ev).length = l.length := by simp
  refine con_intro Tryz.func137 rfl Tryz.call137 rfl ?_
  refine zS ?_; refine zAs ?_; refine zN (zS ?_); refine zAs ?_; refine zN ?_; refine awp_seq ?_; refine awp_seq ?_
  refine awp_unnil [0,1,5] 1 rfl zSelC zHeapA ?_
  refine awp_region ?_; refine zMv ?_
  first | refine aops_len rfl rfl rfl rfl (fun _ => ?_) | refine zP (ap_len_arr rfl zUpd rfl) ?_ | refine zP (ap_len_nil rfl rfl) ?_
  refine zMv ?_; refine zN ?_; refine awp_block ?_
  refine awp_loop2 [1, 11, 12] [] (fun (i : Nat) (q : List Int) r => (5, .sl 1 (q.map .i)) :: (13, .i (i : Int)) :: r) (fun (i : Nat) (q : List Int) r => r) (fun (i : Nat) (q : List Int) => i ≤ l.length ∧ q.length ≤ 2 * i ∧ ∀ x ∈ q, 1 ≤ x ∧ x ≤ 1000) (fun (i : Nat) (q : List Int) => l.length - i) (0) ([]) zRc ⟨by omega, by simp, fun x h => absurd h List.not_mem_nil⟩ (wk zSub zKeep) ?_
  intro i q ⟨hi, hql, hq⟩
  refine zS ?_; refine zCm ?_; refine zN ?_; refine awp_seq ?_
  refine zC (fun hc => ?_) fun hc => ?_
  · have hlt := of_decide_eq_true hc
    obtain ⟨x, hx, hd⟩ := drop_cons (l := l) (k := i) (by omega)
    have hx' := getMap ev hx
    have hxs := hl x (List.mem_of_getElem? hx)
    refine awp_skip ?_; refine seqQ_n ?_; refine awp_seq ?_; refine awp_block ?_; refine zS ?_
    first | refine zP (ap_index rfl rfl rfl rfl (by decide) rfl zAss) ?_ | refine zP (ap_index rfl rfl rfl rfl (by decide) (by omega) zAss) ?_ | refine zP (ap_index_own rfl rfl rfl rfl rfl (by first | omega | (simp only [List.length_map, List.length_set, avs_len]; omega))) ?_
    refine zLd ?_
    refine aops_alloc rfl zRc rfl rfl (fun b7 => ?_)
    refine zSt ?_; refine zN ?_; refine awp_seq ?_; refine zS ?_; refine zLd ?_
    refine aops_call_v zRc (rvalid24_con x hxs) rfl rfl ?_
    refine zNo ?_; refine zMv ?_
    all_goals first | (refine zY ?_; refine zF 7 2 true ?_) | refine zU ?_ | refine zNf ?_ | (refine zGf (fun hg => ?_) fun hg => ?_; case' _ => refine zF 7 2 true ?_)
    all_goals first | (refine zY ?_; refine zF 1 1 false ?_) | refine zU ?_ | refine zNf ?_ | (refine zGf (fun hg => ?_) fun hg => ?_; case' _ => refine zF 1 1 false ?_)
    all_goals first | (refine zY ?_; refine zL1 ?_) | refine zU ?_ | refine zNf ?_ | (refine zGf (fun hg => ?_) fun hg => ?_; case' _ => refine zL1 ?_)
    all_goals first | (refine zY ?_; refine zMv ?_) | refine zU ?_ | refine zNf ?_ | (refine zGf (fun hg => ?_) fun hg => ?_; case' _ => refine zMv ?_)
    all_goals first | (refine zY ?_; refine zP (ap_scmp rfl rfl rfl) ?_) | refine zU ?_ | refine zNf ?_ | (refine zGf (fun hg => ?_) fun hg => ?_; case' _ => refine zP (ap_scmp rfl rfl rfl) ?_)
    all_goals refine zPk ?_
    all_goals refine zMv ?_
    all_goals first | (refine zY ?_; refine zF 13 1 false ?_) | refine zU ?_ | refine zNf ?_ | (refine zGf (fun hg => ?_) fun hg => ?_; case' _ => refine zF 13 1 false ?_)
    all_goals first | (refine zY ?_; refine zL1 ?_) | refine zU ?_ | refine zNf ?_ | (refine zGf (fun hg => ?_) fun hg => ?_; case' _ => refine zL1 ?_)
    all_goals first | (refine zY ?_; refine zCm ?_) | refine zU ?_ | refine zNf ?_ | (refine zGf (fun hg => ?_) fun hg => ?_; case' _ => refine zCm ?_)
    all_goals refine zPk ?_
    all_goals (
      refine zN ?_
      refine zC (fun hc => ?_) fun hc => ?_
      · first
        | (exact absurd hc (by decide))
        | (refine awp_exit ?_
           refine seqQ_x ?_; refine blockQ_x rfl ?_; refine seqQ_n ?_; refine awp_region ?_; refine zAr ?_; refine zMv ?_; refine zN ?_
           refine ⟨i + 1, q, ⟨by omega, by omega, hq⟩, by omega, wk zSub zKeep⟩
          )
      · first
        | (exact absurd hc (by decide))
        | (have hrng : (1 ≤ x.low ∧ x.low ≤ 1000) ∧ 1 ≤ x.high ∧ x.high ≤ 1000 := vE_rng (not_f (by first | with_reducible assumption | assumption)) (of_decide_eq_false hc)
           refine awp_skip ?_; refine seqQ_n ?_; refine zS ?_; refine zF 13 1 false ?_; refine zL1 ?_; refine zF 14 1 false ?_; refine zL1 ?_
           refine zP (ap_buildA rfl rfl rfl zRc zFill) ?_
           refine zMv ?_; refine zN ?_; refine awp_block ?_
           refine awp_loop2 [1, 11, 12, 13, 36] [] (fun (j : Nat) (q : List Int) r => (5, .sl 1 (q.map .i)) :: (37, .i (j : Int)) :: r) (fun (j : Nat) (q : List Int) r => r) (fun (j : Nat) (q : List Int) => j ≤ 2 ∧ q.length ≤ 2 * i + j ∧ ∀ x ∈ q, 1 ≤ x ∧ x ≤ 1000) (fun (j : Nat) (q : List Int) => 2 - j) (0) (q) zRc ⟨by omega, by omega, hq⟩ (wk zSub zKeep) ?_
           intro j q ⟨hj, hql, hq⟩
           have hqm : (q.map D.i).length = q.length := by simp
           refine zS ?_; refine zCm ?_; refine zN ?_; refine awp_seq ?_
           refine zC (fun hc => ?_) fun hc => ?_
           · have hj2 := of_decide_eq_true hc
             obtain ⟨z, hz, hzb⟩ := arr2 x.low x.high (i := j) (p := fun z => 1 ≤ z ∧ z ≤ 1000) (by omega) hrng.1 hrng.2
             refine awp_skip ?_; refine seqQ_n ?_; refine awp_seq ?_; refine awp_block ?_; refine zS ?_
             refine zP (ap_indexA1 (k := j) rfl rfl rfl rfl rfl rfl (by omega) hz) ?_
             refine zAs ?_; refine zN (zS ?_); refine zAs ?_; refine zN ?_; refine awp_seq ?_; refine awp_block ?_
             refine awp_loop1 [1, 5, 9, 11, 12, 13, 36, 37] [] (fun (k : Nat) r => (10, .i (k : Int)) :: r) (fun (k : Nat) r => r) (fun (k : Nat) => k ≤ q.length) (fun (k : Nat) => q.length - k) (0) zRc (by omega) (wk zSub zKeep) ?_
             intro k hk
             obtain ⟨y, hy⟩ := at_ex q k 0
             refine awp_seq ?_; refine zS ?_; refine zMv ?_; refine zMv ?_
             first | refine aops_len rfl rfl rfl rfl (fun _ => ?_) | refine zP (ap_len_arr rfl zUpd rfl) ?_ | refine zP (ap_len_nil rfl rfl) ?_
             refine zCm ?_; refine zMv ?_
             all_goals first | (refine zY ?_; refine zMv ?_) | refine zU ?_ | refine zNt ?_ | (refine zGt (fun hg => ?_) fun hg => ?_; case' _ => refine zMv ?_)
             all_goals first | (refine zY ?_; refine zMv ?_) | refine zU ?_ | refine zNt ?_ | (refine zGt (fun hg => ?_) fun hg => ?_; case' _ => refine zMv ?_)
             all_goals first | (refine zY ?_; (refine aops_p (ap_index (k := k) rfl rfl rfl rfl (by decide) rfl (getMap D.i (hy (by have h9 : decide ((k : Int) < ((q.map D.i).length : Int)) = true := (by first | with_reducible assumption | exact hg); have := of_decide_eq_true h9; simp only [List.length_map] at this; omega)))) rfl rfl rfl ?_)) | refine zU ?_ | refine zNt ?_ | (refine zGt (fun hg => ?_) fun hg => ?_; case' _ => (refine aops_p (ap_index (k := k) rfl rfl rfl rfl (by decide) rfl (getMap D.i (hy (by have h9 : decide ((k : Int) < ((q.map D.i).length : Int)) = true := (by first | with_reducible assumption | exact hg); have := of_decide_eq_true h9; simp only [List.length_map] at this; omega)))) rfl rfl rfl ?_))
             all_goals first | (refine zY ?_; refine zL1 ?_) | refine zU ?_ | refine zNt ?_ | (refine zGt (fun hg => ?_) fun hg => ?_; case' _ => refine zL1 ?_)
             all_goals first | (refine zY ?_; refine zMv ?_) | refine zU ?_ | refine zNt ?_ | (refine zGt (fun hg => ?_) fun hg => ?_; case' _ => refine zMv ?_)
             all_goals first | (refine zY ?_; refine zCm ?_) | refine zU ?_ | refine zNt ?_ | (refine zGt (fun hg => ?_) fun hg => ?_; case' _ => refine zCm ?_)
             all_goals refine zPk ?_
             all_goals (
               refine zN ?_
               refine zC (fun hc => ?_) fun hc => ?_
               · first
                 | (exact absurd hc (by decide))
                 | (refine awp_skip ?_
                    refine seqQ_n ?_; refine awp_block ?_; refine awp_region ?_; refine zMv ?_; refine zAr ?_; refine zAs ?_; refine aops_nil ?_; refine blockQ_n ?_; refine seqQ_n ?_
                    have hlt : k < q.length := by have h9 : decide ((k : Int) < ((q.map D.i).length : Int)) = true := (by first | with_reducible assumption | exact hg | exact hc); have := of_decide_eq_true h9; omega
                    refine ⟨k + 1, by omega, by omega, wk zSub zKeep⟩
                   )
               · first
                 | (exact absurd hc (by decide))
                 | (refine awp_exit ?_
                    refine seqQ_x ?_; refine seqQ_x ?_; refine blockQ_x rfl ?_; refine seqQ_n ?_; refine zS ?_; refine zMv ?_; refine zMv ?_
                    first | refine aops_len rfl rfl rfl rfl (fun _ => ?_) | refine zP (ap_len_arr rfl zUpd rfl) ?_ | refine zP (ap_len_nil rfl rfl) ?_
                    refine zCm ?_; refine zMv ?_
                    all_goals first | (refine zY ?_; refine zMv ?_) | refine zU ?_ | refine zNf ?_ | (refine zGf (fun hg => ?_) fun hg => ?_; case' _ => refine zMv ?_)
                    all_goals first | (refine zY ?_; refine zMv ?_) | refine zU ?_ | refine zNf ?_ | (refine zGf (fun hg => ?_) fun hg => ?_; case' _ => refine zMv ?_)
                    all_goals first | (refine zY ?_; (refine aops_p (ap_index (k := k) rfl rfl rfl rfl (by decide) rfl (getMap D.i (hy (by have h9 : decide ((k : Int) = ((q.map D.i).length : Int)) = false := (by first | with_reducible assumption | exact hg); have := of_decide_eq_false h9; simp only [List.length_map] at this; omega)))) rfl rfl rfl ?_)) | refine zU ?_ | refine zNf ?_ | (refine zGf (fun hg => ?_) fun hg => ?_; case' _ => (refine aops_p (ap_index (k := k) rfl rfl rfl rfl (by decide) rfl (getMap D.i (hy (by have h9 : decide ((k : Int) = ((q.map D.i).length : Int)) = false := (by first | with_reducible assumption | exact hg); have := of_decide_eq_false h9; simp only [List.length_map] at this; omega)))) rfl rfl rfl ?_))
                    all_goals first | (refine zY ?_; refine zL1 ?_) | refine zU ?_ | refine zNf ?_ | (refine zGf (fun hg => ?_) fun hg => ?_; case' _ => refine zL1 ?_)
                    all_goals first | (refine zY ?_; refine zMv ?_) | refine zU ?_ | refine zNf ?_ | (refine zGf (fun hg => ?_) fun hg => ?_; case' _ => refine zMv ?_)
                    all_goals first | (refine zY ?_; refine zCm ?_) | refine zU ?_ | refine zNf ?_ | (refine zGf (fun hg => ?_) fun hg => ?_; case' _ => refine zCm ?_)
                    all_goals refine zPk ?_
                    all_goals (
                      refine zN ?_
                      refine zC (fun hc => ?_) fun hc => ?_
                      · first
                        | (exact absurd hc (by decide))
                        | (refine awp_draw (Hm := []) zKr zSplit ?_
                           refine zT 0 rfl (AP.ar (ap_move rfl)) ?_
                           refine zT 1 rfl (AP.ar (ap_move rfl)) ?_
                           refine zT 2 rfl (AP.ar (ap_slice_to rfl rfl rfl rfl rfl (by omega))) ?_
                           refine zT 4 rfl (AP.ar (ap_move rfl)) ?_
                           refine zT 7 rfl (AP.ar (ap_move rfl)) ?_
                           refine zT 8 rfl (AP.ar (ap_move rfl)) ?_
                           first | refine zT 9 rfl (AP.ar (ap_slice_own_from rfl zUpd rfl rfl rfl rfl (by omega))) ?_ | refine zT 9 rfl (AP.ar (ap_slice_from rfl rfl rfl rfl rfl (by simp only [List.length_map]; omega))) ?_
                           refine aany_each2 3 5 zKr rfl (.none rfl) ?_ rfl (.none rfl) ?_
                           rotate_left
                           case' _ =>
                             refine aops_lit (e := 3) (sz := 1) (by_ := 8) rfl rfl zRc rfl rfl rfl rfl ?_
                             refine aops_nil ?_
                             refine aany_one 3 zKr rfl (.none rfl) ?_
                             first | refine aops_append (e := 3) (sz := 1) (by_ := 8) rfl zUpd rfl rfl rfl rfl rfl (by simp only [List.length_cons, List.length_nil, List.length_append, List.length_map, List.length_take, List.length_drop]; omega) (fun v69 hv69 => ?_) | refine aops_append_nil (e := 3) (sz := 1) (by_ := 8) rfl rfl rfl rfl rfl rfl (by simp only [List.length_cons, List.length_nil, List.length_append, List.length_map, List.length_take, List.length_drop]; omega) (fun v69 hv69 => ?_)
                             refine aops_nil ?_
                             refine aany_one 6 zKr rfl (.none rfl) ?_
                             first | refine aops_append (e := 3) (sz := 1) (by_ := 8) rfl zUpd rfl rfl rfl rfl rfl (by simp only [List.length_cons, List.length_nil, List.length_append, List.length_map, List.length_take, List.length_drop]; omega) (fun v72 hv72 => ?_) | refine aops_append_nil (e := 3) (sz := 1) (by_ := 8) rfl rfl rfl rfl rfl rfl (by simp only [List.length_cons, List.length_nil, List.length_append, List.length_map, List.length_take, List.length_drop]; omega) (fun v72 hv72 => ?_)
                             refine aops_nil ?_
                             refine aany_one 10 zKr rfl (.none rfl) ?_
                             first | refine aops_append (e := 3) (sz := 1) (by_ := 8) rfl zUpd rfl rfl rfl rfl rfl (by simp only [List.length_cons, List.length_nil, List.length_append, List.length_map, List.length_take, List.length_drop]; omega) (fun v76 hv76 => ?_) | refine aops_append_nil (e := 3) (sz := 1) (by_ := 8) rfl rfl rfl rfl rfl rfl (by simp only [List.length_cons, List.length_nil, List.length_append, List.length_map, List.length_take, List.length_drop]; omega) (fun v76 hv76 => ?_)
                             refine aops_nil ?_
                             refine zT 11 rfl (AP.ar (ap_assign rfl)) ?_
                             refine aany_nil zKr ?_
                           rotate_right
                           case' _ =>
                             first | refine aops_append (e := 3) (sz := 1) (by_ := 8) rfl zUpd rfl rfl rfl rfl rfl (by simp only [List.length_cons, List.length_nil, List.length_append, List.length_map, List.length_take, List.length_drop]; omega) (fun v69 hv69 => ?_) | refine aops_append_nil (e := 3) (sz := 1) (by_ := 8) rfl rfl rfl rfl rfl rfl (by simp only [List.length_cons, List.length_nil, List.length_append, List.length_map, List.length_take, List.length_drop]; omega) (fun v69 hv69 => ?_)
                             refine aops_nil ?_
                             refine aany_one 5 zKr rfl (.none rfl) ?_
                             refine aops_lit (e := 3) (sz := 1) (by_ := 8) rfl rfl zRc rfl rfl rfl rfl ?_
                             refine aops_nil ?_
                             refine aany_one 6 zKr rfl (.none rfl) ?_
                             first | refine aops_append (e := 3) (sz := 1) (by_ := 8) rfl zUpd rfl rfl rfl rfl rfl (by simp only [List.length_cons, List.length_nil, List.length_append, List.length_map, List.length_take, List.length_drop]; omega) (fun v72 hv72 => ?_) | refine aops_append_nil (e := 3) (sz := 1) (by_ := 8) rfl rfl rfl rfl rfl rfl (by simp only [List.length_cons, List.length_nil, List.length_append, List.length_map, List.length_take, List.length_drop]; omega) (fun v72 hv72 => ?_)
                             refine aops_nil ?_
                             refine aany_one 10 zKr rfl (.none rfl) ?_
                             first | refine aops_append (e := 3) (sz := 1) (by_ := 8) rfl zUpd rfl rfl rfl rfl rfl (by simp only [List.length_cons, List.length_nil, List.length_append, List.length_map, List.length_take, List.length_drop]; omega) (fun v76 hv76 => ?_) | refine aops_append_nil (e := 3) (sz := 1) (by_ := 8) rfl rfl rfl rfl rfl rfl (by simp only [List.length_cons, List.length_nil, List.length_append, List.length_map, List.length_take, List.length_drop]; omega) (fun v76 hv76 => ?_)
                             refine aops_nil ?_
                             refine zT 11 rfl (AP.ar (ap_assign rfl)) ?_
                             refine aany_nil zKr ?_
                           all_goals (
                             refine blockQ_n ?_; refine seqQ_n ?_
                             first | (rw [map_put D.i]; refine awp_freeze v76 [1,5,11,12,13,36,37] zRem zSelC zHeapA ?_) | skip
                             refine awp_region ?_; refine zAr ?_; refine zMv ?_; refine zN ?_
                             first
                             | (have h76 : Value := v76; refine ⟨j + 1, q.take k ++ [z] ++ q.drop k, ⟨by omega, by have := put_len (l := q) (x := z) (Nat.le_refl k); omega, put_mem hq hzb⟩, by omega, wk zSub zKeep⟩)
                             | (refine ⟨j + 1, q, ⟨by omega, by omega, hq⟩, by omega, wk zSub zKeep⟩)
                             )
                          )
                      · first
                        | (exact absurd hc (by decide))
                        | (refine awp_skip ?_
                           refine blockQ_n ?_; refine seqQ_n ?_
                           first | (rw [map_put D.i]; refine awp_freeze v76 [1,5,11,12,13,36,37] zRem zSelC zHeapA ?_) | skip
                           refine awp_region ?_; refine zAr ?_; refine zMv ?_; refine zN ?_
                           first
                           | (have h76 : Value := v76; refine ⟨j + 1, q.take k ++ [z] ++ q.drop k, ⟨by omega, by have := put_len (l := q) (x := z) (Nat.le_refl k); omega, put_mem hq hzb⟩, by omega, wk zSub zKeep⟩)
                           | (refine ⟨j + 1, q, ⟨by omega, by omega, hq⟩, by omega, wk zSub zKeep⟩)
                          )
                      )
                   )
               )
           · have hj2 := of_decide_eq_false hc
             refine awp_exit ?_; refine seqQ_x ?_; refine seqQ_x ?_; refine blockQ_x rfl ?_; refine blockQ_n ?_; refine seqQ_n ?_; refine awp_region ?_; refine zAr ?_; refine zMv ?_; refine zN ?_
             refine ⟨i + 1, q, ⟨by omega, by omega, hq⟩, by omega, wk zSub zKeep⟩
          )
      )
  · refine awp_exit ?_
    refine seqQ_x ?_; refine seqQ_x ?_; refine blockQ_x rfl ?_; refine seqQ_n ?_; refine zS ?_; refine zMv ?_; refine zAs ?_; refine zN ?_; refine awp_ret ?_
    exact post_ret (.tmp rfl .nil) zKeep ⟨q, rfl, hq, rfl⟩
theorem rconfirms_con (c : List Mem) (v a : Int) : Con Tryz.prog 148 [cv c, .i v, .i a] [] (Is (.b (confirmsC c v a)) []) := by
  have hcap : capB = 140737488355328 := rfl
  refine con_intro Tryz.func148 rfl Tryz.call148 rfl ?_
  refine zS ?_
  refine aops_box rfl zFlat rfl rfl (fun b3 => ?_)
  refine zAs ?_; refine zN (zS ?_); refine zLd ?_; refine zMv ?_
  refine aops_call_v zRc (rgreat_con c a) rfl rfl ?_
  refine zMv ?_
  refine aops_call_v zRc (rhas_con _ _) rfl rfl ?_
  refine zAs ?_; refine zN ?_; refine awp_ret ?_
  refine post_is (.tmp rfl .nil) zKeep rfl
theorem co1023 {m : Nat} (h : m < 1024) : 1023 &&& (2 ^ 63 - 1 - m) = 1023 - m := by
  refine Nat.eq_of_testBit_eq fun i => ?_
  rw [Nat.testBit_and, show (1023 : Nat) - m = 2 ^ 10 - (m + 1) from by omega, Nat.testBit_two_pow_sub_succ (n := 10) h, show (1023 : Nat) = 2 ^ 10 - 1 from rfl, Nat.testBit_two_pow_sub_one]
  by_cases hi : i < 10
  · rw [compl_bit h hi]
  · simp [hi]
end Go.Proofs.YtegejdhkckndaaaGreat
