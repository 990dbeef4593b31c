/- The walks of: rchk_con, rmessage_con, rtog_con, rwait_con, rtvalid_con, rtstep_con, few_con, SPick_con, SOdd_con, texact_con. Each says what one function of the program answers, for the arguments that its statement names. No condition beyond what each theorem says. -/
import Derived.Test.YtegejdhkckndaaaGreatTimersExactW9
import Derived.Test.YtegejdhkckndaaaGreatProg
import Derived.KernelRfl
import Derived.Tactics
import Derived.Tactics2
import Derived.StillTactics
set_option linter.unusedVariables false
set_option linter.unusedSimpArgs false
set_option linter.unnecessarySimpa false
set_option maxRecDepth 4000
namespace Go.Proofs.YtegejdhkckndaaaGreat
open Go Go.Av Go.Tq
set_option maxHeartbeats 8000000 in
theorem rchk_con (m : Mach) (hs : sizeT m.t ≤ 1000000000) (hh : ∀ e ∈ m.heard, sizeT e.t ≤ 1000000000) : Con Tryz.prog 45 [mcv m] [] (Is (.b (checkM m)) []) := by
  have hcap : capB = 140737488355328 := rfl
  have hmlen : (m.heard.map ev).length = m.heard.length := by simp
  refine con_intro Tryz.func45 rfl Tryz.call45 rfl ?_
  refine zS ?_
  refine aops_box rfl zFlat rfl rfl (fun b1 => ?_)
  refine zAs ?_; refine zN ?_; refine awp_seq ?_; refine zS ?_; refine zF 0 1 false ?_; refine zL1 ?_; refine zCm ?_; refine zMv ?_
  all_goals first | (refine zY ?_; refine zF 0 1 false ?_) | refine zU ?_ | refine zNf ?_ | (refine zGf (fun hg => ?_) fun hg => ?_; case' _ => refine zF 0 1 false ?_)
  all_goals first | (refine zY ?_; refine zL1 ?_) | refine zU ?_ | refine zNf ?_ | (refine zGf (fun hg => ?_) fun hg => ?_; case' _ => refine zL1 ?_)
  all_goals first | (refine zY ?_; refine zCm ?_) | refine zU ?_ | refine zNf ?_ | (refine zGf (fun hg => ?_) fun hg => ?_; case' _ => refine zCm ?_)
  all_goals refine zPk ?_
  all_goals refine zMv ?_
  all_goals first | (refine zY ?_; refine zF 1 1 false ?_) | refine zU ?_ | refine zNf ?_ | (refine zGf (fun hg => ?_) fun hg => ?_; case' _ => refine zF 1 1 false ?_)
  all_goals first | (refine zY ?_; refine zL1 ?_) | refine zU ?_ | refine zNf ?_ | (refine zGf (fun hg => ?_) fun hg => ?_; case' _ => refine zL1 ?_)
  all_goals first | (refine zY ?_; refine zCm ?_) | refine zU ?_ | refine zNf ?_ | (refine zGf (fun hg => ?_) fun hg => ?_; case' _ => refine zCm ?_)
  all_goals refine zPk ?_
  all_goals refine zMv ?_
  all_goals first | (refine zY ?_; refine zF 1 1 false ?_) | refine zU ?_ | refine zNf ?_ | (refine zGf (fun hg => ?_) fun hg => ?_; case' _ => refine zF 1 1 false ?_)
  all_goals first | (refine zY ?_; refine zL1 ?_) | refine zU ?_ | refine zNf ?_ | (refine zGf (fun hg => ?_) fun hg => ?_; case' _ => refine zL1 ?_)
  all_goals first | (refine zY ?_; refine zCm ?_) | refine zU ?_ | refine zNf ?_ | (refine zGf (fun hg => ?_) fun hg => ?_; case' _ => refine zCm ?_)
  all_goals refine zPk ?_
  all_goals refine zMv ?_
  all_goals first | (refine zY ?_; refine zF 2 1 false ?_) | refine zU ?_ | refine zNf ?_ | (refine zGf (fun hg => ?_) fun hg => ?_; case' _ => refine zF 2 1 false ?_)
  all_goals first | (refine zY ?_; refine zL1 ?_) | refine zU ?_ | refine zNf ?_ | (refine zGf (fun hg => ?_) fun hg => ?_; case' _ => refine zL1 ?_)
  all_goals first | (refine zY ?_; refine zCm ?_) | refine zU ?_ | refine zNf ?_ | (refine zGf (fun hg => ?_) fun hg => ?_; case' _ => refine zCm ?_)
  all_goals refine zPk ?_
  all_goals refine zMv ?_
  all_goals first | (refine zY ?_; refine zF 2 1 false ?_) | refine zU ?_ | refine zNf ?_ | (refine zGf (fun hg => ?_) fun hg => ?_; case' _ => refine zF 2 1 false ?_)
  all_goals first | (refine zY ?_; refine zL1 ?_) | refine zU ?_ | refine zNf ?_ | (refine zGf (fun hg => ?_) fun hg => ?_; case' _ => refine zL1 ?_)
  all_goals first | (refine zY ?_; refine zCm ?_) | refine zU ?_ | refine zNf ?_ | (refine zGf (fun hg => ?_) fun hg => ?_; case' _ => refine zCm ?_)
  all_goals refine zPk ?_
  all_goals refine zMv ?_
  all_goals first | (refine zY ?_; refine zF 3 3 true ?_) | refine zU ?_ | refine zNf ?_ | (refine zGf (fun hg => ?_) fun hg => ?_; case' _ => refine zF 3 3 true ?_)
  all_goals first | (refine zY ?_; refine zLd ?_) | refine zU ?_ | refine zNf ?_ | (refine zGf (fun hg => ?_) fun hg => ?_; case' _ => refine zLd ?_)
  all_goals first | (refine zY ?_; refine aops_call_v zRc (rvalidT_con m.t hs) rfl rfl ?_) | refine zU ?_ | refine zNf ?_ | (refine zGf (fun hg => ?_) fun hg => ?_; case' _ => refine aops_call_v zRc (rvalidT_con m.t hs) rfl rfl ?_)
  all_goals first | (refine zY ?_; refine zCm ?_) | refine zU ?_ | refine zNf ?_ | (refine zGf (fun hg => ?_) fun hg => ?_; case' _ => refine zCm ?_)
  all_goals refine zPk ?_
  all_goals refine zMv ?_
  all_goals first | (refine zY ?_; refine zF 17 1 false ?_) | refine zU ?_ | refine zNf ?_ | (refine zGf (fun hg => ?_) fun hg => ?_; case' _ => refine zF 17 1 false ?_)
  all_goals first | (refine zY ?_; refine zL1 ?_) | refine zU ?_ | refine zNf ?_ | (refine zGf (fun hg => ?_) fun hg => ?_; case' _ => refine zL1 ?_)
  all_goals first | (refine zY ?_; refine zP (ap_len_str rfl rfl) ?_) | refine zU ?_ | refine zNf ?_ | (refine zGf (fun hg => ?_) fun hg => ?_; case' _ => refine zP (ap_len_str rfl rfl) ?_)
  all_goals first | (refine zY ?_; refine zCm ?_) | refine zU ?_ | refine zNf ?_ | (refine zGf (fun hg => ?_) fun hg => ?_; case' _ => refine zCm ?_)
  all_goals refine zPk ?_
  all_goals (
    refine zN ?_
    refine zC (fun hc => ?_) fun hc => ?_
    · first
      | (exact absurd hc (by decide))
      | (have hd1 : headRb m = true := by first | (simp only [headRb, *, Bool.or_true, Bool.true_or, Bool.or_false, Bool.false_or, Bool.and_true, Bool.true_and, Bool.and_false, Bool.false_and, Bool.not_true, Bool.not_false]; done) | (simp only [headRb]; simp [*]; done) | grind [headRb]
         refine zS ?_; refine zAs ?_; refine zN ?_; refine awp_ret ?_; refine seqQ_r ?_
         refine post_is (.tmp rfl .nil) zKeep (bcl ?_)
         rw [check_1 hd1]
        )
    · first
      | (exact absurd hc (by decide))
      | (have hd1 : headRb m = false := by first | (simp only [headRb, *, Bool.or_true, Bool.true_or, Bool.or_false, Bool.false_or, Bool.and_true, Bool.true_and, Bool.and_false, Bool.false_and, Bool.not_true, Bool.not_false]; done) | (simp only [headRb]; simp [*]; done) | grind [headRb]
         refine awp_skip ?_; refine seqQ_n ?_; refine awp_seq ?_; refine zS ?_; refine zF 18 1 false ?_; refine zL1 ?_
         first | refine aops_len rfl rfl rfl rfl (fun _ => ?_) | refine zP (ap_len_arr rfl zUpd rfl) ?_ | refine zP (ap_len_nil rfl rfl) ?_
         refine zMv ?_; refine zN ?_; refine awp_block ?_
         refine awp_loop1 [1, 46, 47] [.box b1 _ _] (fun (k : Nat) r => (48, .i (k : Int)) :: r) (fun (k : Nat) r => r) (fun (k : Nat) => k ≤ m.heard.length ∧ heardGo m (prevE m.heard k) (m.heard.drop k) = heardM m) (fun (k : Nat) => m.heard.length - k) (0) zRc ⟨by omega, rfl⟩ (wk zSub zKeep) ?_
         intro k ⟨hk, hI⟩
         refine zS ?_; refine zCm ?_; refine zN ?_; refine awp_seq ?_
         refine zC (fun hc => ?_) fun hc => ?_
         · have hlt := of_decide_eq_true hc
           obtain ⟨x, hx, hd⟩ := drop_cons (l := m.heard) (k := k) (by omega)
           have hx' := getMap ev hx
           obtain ⟨y, hy⟩ := prev_ex x hk
           have hq := okP_at (x := x) hy
           have hxs := hh x (List.mem_of_getElem? hx)
           refine awp_skip ?_; refine seqQ_n ?_; refine awp_seq ?_; refine awp_block ?_; refine zS ?_; refine zMv ?_
           first | refine zP (ap_index rfl rfl rfl rfl (by decide) rfl zAss) ?_ | refine zP (ap_index rfl rfl rfl rfl (by decide) (by omega) zAss) ?_ | refine zP (ap_index_own rfl rfl rfl rfl rfl (by first | omega | (simp only [List.length_map, List.length_set, avs_len]; omega))) ?_
           refine zLd ?_
           refine aops_alloc rfl zRc rfl rfl (fun b4 => ?_)
           refine zAs ?_; refine zSt ?_; refine zN ?_; refine awp_seq ?_
           refine awp_draw (Hm := []) zKr zSplit ?_
           refine zTM 0 ?_
           refine aany_one 1 zKr rfl (.none rfl) ?_
           refine aops_call_v zRc (rvalid24_con x hxs) rfl rfl ?_
           refine aops_nil ?_
           refine zT 2 rfl (AP.ar (ap_not rfl)) ?_
           refine zT 3 rfl (AP.ar (ap_move rfl)) ?_
           refine aany_guard 3 rfl (fun hg => ?_) (fun hg => ?_)
           rotate_left
           case' _ =>
             refine zTF 4 1 1 false ?_; refine zTL 5 ?_; refine zTF 6 1 1 false ?_; refine zTL 7 ?_
             refine zT 8 rfl (AP.ar (ap_cmp rfl rfl rfl)) ?_
             refine zTp 9 ?_
             refine zT 10 rfl (AP.ar (ap_move rfl)) ?_
             refine aany_guard 10 rfl (fun hg => ?_) (fun hg => ?_)
             rotate_left
             case' _ =>
               refine zTF 11 0 1 false ?_; refine zTL 12 ?_; refine zTF 13 0 1 false ?_; refine zTL 14 ?_
               refine zT 15 rfl (AP.ar (ap_cmp rfl rfl rfl)) ?_
               refine zTp 16 ?_
               refine zT 17 rfl (AP.ar (ap_move rfl)) ?_
               refine aany_guard 17 rfl (fun hg => ?_) (fun hg => ?_)
               rotate_left
               case' _ =>
                 refine zT 18 rfl (AP.ar (ap_move rfl)) ?_
                 refine zT 19 rfl (AP.ar (ap_cmp rfl rfl rfl)) ?_
                 refine zT 20 rfl (AP.ar (ap_move rfl)) ?_
                 refine aany_guard 20 rfl (fun hg => ?_) (fun hg => ?_)
                 rotate_left
                 case' _ =>
                   refine zK 21 ?_; refine zK 22 ?_; refine zK 23 ?_; refine zK 24 ?_; refine zK 25 ?_; refine zK 26 ?_; refine zK 27 ?_; refine zK 28 ?_; refine zK 29 ?_; refine zK 30 ?_; refine zTp 31 ?_; refine zTp 32 ?_; refine aany_nil zKr ?_
                 rotate_right
                 case' _ =>
                   refine zTF 21 18 1 false ?_; refine zTL 22 ?_
                   refine zT 23 rfl (AP.ar (ap_move rfl)) ?_
                   refine zT 24 rfl (AP.ar (ap_arith rfl rfl rfl (by omega))) ?_
                   refine aany_take 25 rfl (.yes rfl rfl zDec) zKr zKr zKr (AP.ar (ap_index (k := k - 1) rfl rfl rfl rfl (by decide) (by have h9 : decide ((k : Int) > 0) = true := (by first | with_reducible assumption | exact hg); have := of_decide_eq_true h9; omega) (getMap ev (hy (by have h9 : decide ((k : Int) > 0) = true := (by first | with_reducible assumption | exact hg); have := of_decide_eq_true h9; omega))))) rfl rfl ?_
                   refine zTF 26 0 1 false ?_; refine zTL 27 ?_; refine zTF 28 0 1 false ?_; refine zTL 29 ?_
                   refine zT 30 rfl (AP.ar (ap_cmp rfl rfl rfl)) ?_
                   refine zTp 31 ?_; refine zTp 32 ?_; refine aany_nil zKr ?_
               rotate_right
               case' _ =>
                 refine zK 18 ?_; refine zK 19 ?_
                 refine aany_skipu 20 rfl (.no rfl rfl (by first | (show _ = true; with_reducible assumption) | exact zDec)) zKr zKr zKr rfl rfl ?_
                 refine zK 21 ?_; refine zK 22 ?_; refine zK 23 ?_; refine zK 24 ?_; refine zK 25 ?_; refine zK 26 ?_; refine zK 27 ?_; refine zK 28 ?_; refine zK 29 ?_; refine zK 30 ?_; refine zK 31 ?_; refine zTp 32 ?_; refine aany_nil zKr ?_
             rotate_right
             case' _ =>
               refine zK 11 ?_; refine zK 12 ?_; refine zK 13 ?_; refine zK 14 ?_; refine zK 15 ?_; refine zTp 16 ?_
               refine zT 17 rfl (AP.ar (ap_move rfl)) ?_
               refine zK 18 ?_; refine zK 19 ?_
               refine aany_skipu 20 rfl (.no rfl rfl (by first | (show _ = true; with_reducible assumption) | exact zDec)) zKr zKr zKr rfl rfl ?_
               refine zK 21 ?_; refine zK 22 ?_; refine zK 23 ?_; refine zK 24 ?_; refine zK 25 ?_; refine zK 26 ?_; refine zK 27 ?_; refine zK 28 ?_; refine zK 29 ?_; refine zK 30 ?_; refine zK 31 ?_; refine zTp 32 ?_; refine aany_nil zKr ?_
           rotate_right
           case' _ =>
             refine zK 4 ?_; refine zK 5 ?_; refine zK 6 ?_; refine zK 7 ?_; refine zK 8 ?_; refine zTp 9 ?_
             refine zT 10 rfl (AP.ar (ap_move rfl)) ?_
             refine zK 11 ?_; refine zK 12 ?_; refine zK 13 ?_; refine zK 14 ?_; refine zK 15 ?_; refine zTp 16 ?_
             refine zT 17 rfl (AP.ar (ap_move rfl)) ?_
             refine zK 18 ?_; refine zK 19 ?_
             refine aany_skipu 20 rfl (.no rfl rfl (by first | (show _ = true; with_reducible assumption) | exact zDec)) zKr zKr zKr rfl rfl ?_
             refine zK 21 ?_; refine zK 22 ?_; refine zK 23 ?_; refine zK 24 ?_; refine zK 25 ?_; refine zK 26 ?_; refine zK 27 ?_; refine zK 28 ?_; refine zK 29 ?_; refine zK 30 ?_; refine zK 31 ?_; refine zTp 32 ?_; refine aany_nil zKr ?_
           all_goals (
             refine seqQ_n ?_
             refine zC (fun hc => ?_) fun hc => ?_
             · first
               | (exact absurd hc (by decide))
               | (have hq0 : (vE x && (decide (x.slot = m.slot) && (!decide (x.node = m.node) && okP (prevE m.heard k) x))) = false := by rw [hq]; first | (simp [*]; done) | grind
                  refine zS ?_; refine zAs ?_; refine zN ?_; refine awp_ret ?_; refine blockQ_r ?_; refine seqQ_r ?_; refine seqQ_r ?_; refine blockQ_r ?_; refine seqQ_r ?_
                  refine post_is (.tmp rfl .nil) zKeep (bcl ?_)
                  rw [hd, heardGo_cons, hq0, Bool.false_and] at hI
                  rw [check_2 hI.symm]
                 )
             · first
               | (exact absurd hc (by decide))
               | (have hq0 : (vE x && (decide (x.slot = m.slot) && (!decide (x.node = m.node) && okP (prevE m.heard k) x))) = true := by rw [hq]; first | (simp [*]; done) | grind
                  refine awp_skip ?_; refine blockQ_n ?_; refine seqQ_n ?_; refine awp_region ?_; refine zAr ?_; refine zMv ?_; refine zN ?_
                  rw [hd, heardGo_cons, hq0, Bool.true_and, ← prevE_next hx] at hI
                  refine ⟨k + 1, ⟨by omega, hI⟩, by omega, wk zSub zKeep⟩
                 )
             )
         · have hge := of_decide_eq_false hc
           rw [drop_nil (by omega)] at hI
           have hhd : headM m = true := head_ok hd1 hI.symm
           refine awp_exit ?_; refine seqQ_x ?_; refine seqQ_x ?_; refine blockQ_x rfl ?_; refine seqQ_n ?_; refine awp_seq ?_; refine zS ?_; refine zF 7 2 true ?_; refine zLd ?_
           refine aops_call_v zRc (rz_con m.bal) rfl rfl ?_
           refine zN ?_
           refine zC (fun hc => ?_) fun hc => ?_
           · have hz : zB m.bal = true := hc
             refine zS ?_; refine zF 6 1 false ?_; refine zL1 ?_; refine zCm ?_; refine zMv ?_
             all_goals first | (refine zY ?_; refine zF 2 1 false ?_) | refine zU ?_ | refine zNt ?_ | (refine zGt (fun hg => ?_) fun hg => ?_; case' _ => refine zF 2 1 false ?_)
             all_goals first | (refine zY ?_; refine zL1 ?_) | refine zU ?_ | refine zNt ?_ | (refine zGt (fun hg => ?_) fun hg => ?_; case' _ => refine zL1 ?_)
             all_goals first | (refine zY ?_; refine zCm ?_) | refine zU ?_ | refine zNt ?_ | (refine zGt (fun hg => ?_) fun hg => ?_; case' _ => refine zCm ?_)
             all_goals refine zPk ?_
             all_goals refine zMv ?_
             all_goals first | (refine zY ?_; refine zF 9 2 true ?_) | refine zU ?_ | refine zNt ?_ | (refine zGt (fun hg => ?_) fun hg => ?_; case' _ => refine zF 9 2 true ?_)
             all_goals first | (refine zY ?_; refine zLd ?_) | refine zU ?_ | refine zNt ?_ | (refine zGt (fun hg => ?_) fun hg => ?_; case' _ => refine zLd ?_)
             all_goals first | (refine zY ?_; refine aops_call_v zRc (rz_con m.prep) rfl rfl ?_) | refine zU ?_ | refine zNt ?_ | (refine zGt (fun hg => ?_) fun hg => ?_; case' _ => refine aops_call_v zRc (rz_con m.prep) rfl rfl ?_)
             all_goals refine zPk ?_
             all_goals refine zMv ?_
             all_goals first | (refine zY ?_; refine zF 11 2 true ?_) | refine zU ?_ | refine zNt ?_ | (refine zGt (fun hg => ?_) fun hg => ?_; case' _ => refine zF 11 2 true ?_)
             all_goals first | (refine zY ?_; refine zLd ?_) | refine zU ?_ | refine zNt ?_ | (refine zGt (fun hg => ?_) fun hg => ?_; case' _ => refine zLd ?_)
             all_goals first | (refine zY ?_; refine aops_call_v zRc (rz_con m.prime) rfl rfl ?_) | refine zU ?_ | refine zNt ?_ | (refine zGt (fun hg => ?_) fun hg => ?_; case' _ => refine aops_call_v zRc (rz_con m.prime) rfl rfl ?_)
             all_goals refine zPk ?_
             all_goals refine zMv ?_
             all_goals first | (refine zY ?_; refine zF 13 2 true ?_) | refine zU ?_ | refine zNt ?_ | (refine zGt (fun hg => ?_) fun hg => ?_; case' _ => refine zF 13 2 true ?_)
             all_goals first | (refine zY ?_; refine zLd ?_) | refine zU ?_ | refine zNt ?_ | (refine zGt (fun hg => ?_) fun hg => ?_; case' _ => refine zLd ?_)
             all_goals first | (refine zY ?_; refine aops_call_v zRc (rz_con m.conf) rfl rfl ?_) | refine zU ?_ | refine zNt ?_ | (refine zGt (fun hg => ?_) fun hg => ?_; case' _ => refine aops_call_v zRc (rz_con m.conf) rfl rfl ?_)
             all_goals refine zPk ?_
             all_goals refine zMv ?_
             all_goals first | (refine zY ?_; refine zF 15 1 false ?_) | refine zU ?_ | refine zNt ?_ | (refine zGt (fun hg => ?_) fun hg => ?_; case' _ => refine zF 15 1 false ?_)
             all_goals first | (refine zY ?_; refine zL1 ?_) | refine zU ?_ | refine zNt ?_ | (refine zGt (fun hg => ?_) fun hg => ?_; case' _ => refine zL1 ?_)
             all_goals first | (refine zY ?_; refine zCm ?_) | refine zU ?_ | refine zNt ?_ | (refine zGt (fun hg => ?_) fun hg => ?_; case' _ => refine zCm ?_)
             all_goals refine zPk ?_
             all_goals refine zMv ?_
             all_goals first | (refine zY ?_; refine zF 16 1 false ?_) | refine zU ?_ | refine zNt ?_ | (refine zGt (fun hg => ?_) fun hg => ?_; case' _ => refine zF 16 1 false ?_)
             all_goals first | (refine zY ?_; refine zL1 ?_) | refine zU ?_ | refine zNt ?_ | (refine zGt (fun hg => ?_) fun hg => ?_; case' _ => refine zL1 ?_)
             all_goals first | (refine zY ?_; refine zCm ?_) | refine zU ?_ | refine zNt ?_ | (refine zGt (fun hg => ?_) fun hg => ?_; case' _ => refine zCm ?_)
             all_goals refine zPk ?_
             all_goals refine zAs ?_
             all_goals (
               refine zN ?_; refine awp_ret ?_; refine seqQ_r ?_
               refine post_is (.tmp rfl .nil) zKeep (bcl ?_)
               rw [check_3 hhd hz]
               first | (simp only [freshM, *, Bool.and_true, Bool.true_and, Bool.and_false, Bool.false_and]; done) | (simp only [freshM]; simp [*]; done) | grind [freshM]
               )
           · have hz : zB m.bal = false := hc
             refine awp_skip ?_; refine seqQ_n ?_; refine awp_seq ?_; refine zS ?_; refine zLd ?_
             refine aops_call_v zRc (renv_con m) rfl rfl ?_
             refine aops_call_v zRc (rvalid24_con (envR m) hs) rfl rfl ?_
             refine zNo ?_; refine zN ?_
             refine zC (fun hc => ?_) fun hc => ?_
             · have hv : vE (envR m) = false := not_t hc
               refine zS ?_; refine zAs ?_; refine zN ?_; refine awp_ret ?_; refine seqQ_r ?_
               refine post_is (.tmp rfl .nil) zKeep (bcl ?_)
               rw [check_4 hhd hz hv]
             · have hv : vE (envR m) = true := not_f hc
               refine awp_skip ?_; refine seqQ_n ?_; refine awp_seq ?_; refine zS ?_; refine zF 6 1 false ?_; refine zL1 ?_; refine zCm ?_; refine zMv ?_
               all_goals first | (refine zY ?_; refine zF 6 1 false ?_) | refine zU ?_ | refine zNt ?_ | (refine zGt (fun hg => ?_) fun hg => ?_; case' _ => refine zF 6 1 false ?_)
               all_goals first | (refine zY ?_; refine zL1 ?_) | refine zU ?_ | refine zNt ?_ | (refine zGt (fun hg => ?_) fun hg => ?_; case' _ => refine zL1 ?_)
               all_goals first | (refine zY ?_; refine zCm ?_) | refine zU ?_ | refine zNt ?_ | (refine zGt (fun hg => ?_) fun hg => ?_; case' _ => refine zCm ?_)
               all_goals refine zPk ?_
               all_goals refine zMv ?_
               all_goals first | (refine zY ?_; refine zF 16 1 false ?_) | refine zU ?_ | refine zNt ?_ | (refine zGt (fun hg => ?_) fun hg => ?_; case' _ => refine zF 16 1 false ?_)
               all_goals first | (refine zY ?_; refine zL1 ?_) | refine zU ?_ | refine zNt ?_ | (refine zGt (fun hg => ?_) fun hg => ?_; case' _ => refine zL1 ?_)
               all_goals first | (refine zY ?_; refine zCm ?_) | refine zU ?_ | refine zNt ?_ | (refine zGt (fun hg => ?_) fun hg => ?_; case' _ => refine zCm ?_)
               all_goals refine zPk ?_
               all_goals (
                 refine zN ?_
                 refine zC (fun hc => ?_) fun hc => ?_
                 · first
                   | (exact absurd hc (by decide))
                   | (have hb2 : bad2 m = true := by first | (simp only [bad2, *, Bool.or_true, Bool.true_or, Bool.or_false, Bool.false_or, Bool.and_true, Bool.true_and, Bool.and_false, Bool.false_and, Bool.not_true, Bool.not_false]; done) | (simp only [bad2]; simp [*]; done) | grind [bad2]
                      refine zS ?_; refine zAs ?_; refine zN ?_; refine awp_ret ?_; refine seqQ_r ?_
                      refine post_is (.tmp rfl .nil) zKeep (bcl ?_)
                      rw [check_5 hhd hz hb2]
                     )
                 · first
                   | (exact absurd hc (by decide))
                   | (have hb2 : bad2 m = false := by first | (simp only [bad2, *, Bool.or_true, Bool.true_or, Bool.or_false, Bool.false_or, Bool.and_true, Bool.true_and, Bool.and_false, Bool.false_and, Bool.not_true, Bool.not_false]; done) | (simp only [bad2]; simp [*]; done) | grind [bad2]
                      refine awp_skip ?_; refine seqQ_n ?_; refine awp_seq ?_; refine zS ?_; refine zF 6 1 false ?_; refine zL1 ?_; refine zCm ?_; refine zMv ?_
                      all_goals first | (refine zY ?_; refine zF 9 2 true ?_) | refine zU ?_ | refine zNt ?_ | (refine zGt (fun hg => ?_) fun hg => ?_; case' _ => refine zF 9 2 true ?_)
                      all_goals first | (refine zY ?_; refine zLd ?_) | refine zU ?_ | refine zNt ?_ | (refine zGt (fun hg => ?_) fun hg => ?_; case' _ => refine zLd ?_)
                      all_goals first | (refine zY ?_; refine aops_call_v zRc (rz_con m.prep) rfl rfl ?_) | refine zU ?_ | refine zNt ?_ | (refine zGt (fun hg => ?_) fun hg => ?_; case' _ => refine aops_call_v zRc (rz_con m.prep) rfl rfl ?_)
                      all_goals first | (refine zY ?_; refine zNo ?_) | refine zU ?_ | refine zNt ?_ | (refine zGt (fun hg => ?_) fun hg => ?_; case' _ => refine zNo ?_)
                      all_goals first | (refine zY ?_; refine zMv ?_) | refine zU ?_ | refine zNt ?_ | (refine zGt (fun hg => ?_) fun hg => ?_; case' _ => refine zMv ?_)
                      all_goals first | (refine zY ?_; refine zF 11 2 true ?_) | refine zU ?_ | refine zNf ?_ | (refine zGf (fun hg => ?_) fun hg => ?_; case' _ => refine zF 11 2 true ?_)
                      all_goals first | (refine zY ?_; refine zLd ?_) | refine zU ?_ | refine zNf ?_ | (refine zGf (fun hg => ?_) fun hg => ?_; case' _ => refine zLd ?_)
                      all_goals first | (refine zY ?_; refine aops_call_v zRc (rz_con m.prime) rfl rfl ?_) | refine zU ?_ | refine zNf ?_ | (refine zGf (fun hg => ?_) fun hg => ?_; case' _ => refine aops_call_v zRc (rz_con m.prime) rfl rfl ?_)
                      all_goals first | (refine zY ?_; refine zNo ?_) | refine zU ?_ | refine zNf ?_ | (refine zGf (fun hg => ?_) fun hg => ?_; case' _ => refine zNo ?_)
                      all_goals (first | (refine aops_yes rfl rfl rfl rfl zDec ?_; refine zPk ?_) | refine aops_no_u rfl rfl rfl ?_ | refine aops_no_t rfl rfl rfl rfl zDec ?_ | (refine aops_guard_t rfl rfl rfl rfl (fun hg => ?_) (fun hg => ?_); case' _ => refine zPk ?_))
                      all_goals refine zPk ?_
                      all_goals refine zMv ?_
                      all_goals first | (refine zY ?_; refine zF 6 1 false ?_) | refine zU ?_ | refine zNf ?_ | (refine zGf (fun hg => ?_) fun hg => ?_; case' _ => refine zF 6 1 false ?_)
                      all_goals first | (refine zY ?_; refine zL1 ?_) | refine zU ?_ | refine zNf ?_ | (refine zGf (fun hg => ?_) fun hg => ?_; case' _ => refine zL1 ?_)
                      all_goals first | (refine zY ?_; refine zCm ?_) | refine zU ?_ | refine zNf ?_ | (refine zGf (fun hg => ?_) fun hg => ?_; case' _ => refine zCm ?_)
                      all_goals first | (refine zY ?_; refine zMv ?_) | refine zU ?_ | refine zNf ?_ | (refine zGf (fun hg => ?_) fun hg => ?_; case' _ => refine zMv ?_)
                      all_goals first | (refine zY ?_; refine zF 11 2 true ?_) | refine zU ?_ | refine zNt ?_ | (refine zGt (fun hg => ?_) fun hg => ?_; case' _ => refine zF 11 2 true ?_)
                      all_goals first | (refine zY ?_; refine zLd ?_) | refine zU ?_ | refine zNt ?_ | (refine zGt (fun hg => ?_) fun hg => ?_; case' _ => refine zLd ?_)
                      all_goals first | (refine zY ?_; refine aops_call_v zRc (rz_con m.prime) rfl rfl ?_) | refine zU ?_ | refine zNt ?_ | (refine zGt (fun hg => ?_) fun hg => ?_; case' _ => refine aops_call_v zRc (rz_con m.prime) rfl rfl ?_)
                      all_goals first | (refine zY ?_; refine zNo ?_) | refine zU ?_ | refine zNt ?_ | (refine zGt (fun hg => ?_) fun hg => ?_; case' _ => refine zNo ?_)
                      all_goals (first | (refine aops_yes rfl rfl rfl rfl zDec ?_; refine zPk ?_) | refine aops_no_u rfl rfl rfl ?_ | refine aops_no_f rfl rfl rfl rfl zDec ?_ | (refine aops_guard_f rfl rfl rfl rfl (fun hg => ?_) (fun hg => ?_); case' _ => refine zPk ?_))
                      all_goals refine zPk ?_
                      all_goals (
                        refine zN ?_
                        refine zC (fun hc => ?_) fun hc => ?_
                        · first
                          | (exact absurd hc (by decide))
                          | (have hb3 : bad3 m = true := by first | (simp only [bad3, *, Bool.or_true, Bool.true_or, Bool.or_false, Bool.false_or, Bool.and_true, Bool.true_and, Bool.and_false, Bool.false_and, Bool.not_true, Bool.not_false]; done) | (simp only [bad3]; simp [*]; done) | grind [bad3]
                             refine zS ?_; refine zAs ?_; refine zN ?_; refine awp_ret ?_; refine seqQ_r ?_
                             refine post_is (.tmp rfl .nil) zKeep (bcl ?_)
                             rw [check_6 hhd hz hb3]
                            )
                        · first
                          | (exact absurd hc (by decide))
                          | (have hb3 : bad3 m = false := by first | (simp only [bad3, *, Bool.or_true, Bool.true_or, Bool.or_false, Bool.false_or, Bool.and_true, Bool.true_and, Bool.and_false, Bool.false_and, Bool.not_true, Bool.not_false]; done) | (simp only [bad3]; simp [*]; done) | grind [bad3]
                             refine awp_skip ?_; refine seqQ_n ?_; refine awp_seq ?_; refine zS ?_; refine zF 13 2 true ?_; refine zLd ?_
                             refine aops_call_v zRc (rz_con m.conf) rfl rfl ?_
                             refine zN ?_
                             refine zC (fun hc => ?_) fun hc => ?_
                             · have hcz : zB m.conf = true := hc
                               refine zS ?_; refine zAs ?_; refine zN ?_; refine awp_ret ?_; refine seqQ_r ?_
                               refine post_is (.tmp rfl .nil) zKeep (bcl ?_)
                               rw [check_m hhd hz hv hb2 hb3]
                               first | rw [conf_z hcz] | rw [conf_b hcz hb4] | rw [conf_1 hcz hb4 hp1] | rw [conf_2 hcz hb4 hp1 hv hb3]
                             · have hcz : zB m.conf = false := hc
                               refine awp_skip ?_; refine seqQ_n ?_; refine awp_seq ?_; refine zS ?_; refine zF 13 2 true ?_; refine zLd ?_
                               refine aops_call_v zRc (rval_con m.conf) rfl rfl ?_
                               refine zNo ?_; refine zMv ?_
                               all_goals first | (refine zY ?_; refine zF 13 2 true ?_) | refine zU ?_ | refine zNf ?_ | (refine zGf (fun hg => ?_) fun hg => ?_; case' _ => refine zF 13 2 true ?_)
                               all_goals first | (refine zY ?_; refine zF 0 1 false ?_) | refine zU ?_ | refine zNf ?_ | (refine zGf (fun hg => ?_) fun hg => ?_; case' _ => refine zF 0 1 false ?_)
                               all_goals first | (refine zY ?_; refine zL1 ?_) | refine zU ?_ | refine zNf ?_ | (refine zGf (fun hg => ?_) fun hg => ?_; case' _ => refine zL1 ?_)
                               all_goals first | (refine zY ?_; refine zCm ?_) | refine zU ?_ | refine zNf ?_ | (refine zGf (fun hg => ?_) fun hg => ?_; case' _ => refine zCm ?_)
                               all_goals refine zPk ?_
                               all_goals (
                                 refine zN ?_
                                 refine zC (fun hc => ?_) fun hc => ?_
                                 · first
                                   | (exact absurd hc (by decide))
                                   | (have hb4 : bad4 m = true := by first | (simp only [bad4, *, Bool.or_true, Bool.true_or, Bool.or_false, Bool.false_or, Bool.and_true, Bool.true_and, Bool.and_false, Bool.false_and, Bool.not_true, Bool.not_false]; done) | (simp only [bad4]; simp [*]; done) | grind [bad4]
                                      refine zS ?_; refine zAs ?_; refine zN ?_; refine awp_ret ?_; refine seqQ_r ?_
                                      refine post_is (.tmp rfl .nil) zKeep (bcl ?_)
                                      rw [check_m hhd hz hv hb2 hb3]
                                      first | rw [conf_z hcz] | rw [conf_b hcz hb4] | rw [conf_1 hcz hb4 hp1] | rw [conf_2 hcz hb4 hp1 hv hb3]
                                     )
                                 · first
                                   | (exact absurd hc (by decide))
                                   | (have hb4 : bad4 m = false := by first | (simp only [bad4, *, Bool.or_true, Bool.true_or, Bool.or_false, Bool.false_or, Bool.and_true, Bool.true_and, Bool.and_false, Bool.false_and, Bool.not_true, Bool.not_false]; done) | (simp only [bad4]; simp [*]; done) | grind [bad4]
                                      refine awp_skip ?_; refine seqQ_n ?_; refine awp_seq ?_; refine zS ?_; refine zF 6 1 false ?_; refine zL1 ?_; refine zCm ?_; refine zN ?_
                                      refine zC (fun hc => ?_) fun hc => ?_
                                      · have hp1 := of_decide_eq_true hc
                                        refine zS ?_; refine zF 9 2 true ?_; refine zLd ?_; refine zF 11 2 true ?_; refine zLd ?_; refine zF 13 2 true ?_; refine zLd ?_
                                        refine aops_call_v zRc (rpr_con m.prep m.prime m.conf) rfl rfl ?_
                                        refine zAs ?_; refine zN ?_; refine awp_ret ?_; refine seqQ_r ?_
                                        refine post_is (.tmp rfl .nil) zKeep (bcl ?_)
                                        rw [check_m hhd hz hv hb2 hb3]
                                        first | rw [conf_z hcz] | rw [conf_b hcz hb4] | rw [conf_1 hcz hb4 hp1] | rw [conf_2 hcz hb4 hp1 hv hb3]
                                      · have hp1 := of_decide_eq_false hc
                                        refine awp_skip ?_; refine seqQ_n ?_; refine zS ?_; refine zF 13 2 true ?_; refine zLd ?_; refine zF 7 2 true ?_; refine zLd ?_
                                        refine aops_call_v zRc (rcp_con m.conf m.bal) rfl rfl ?_
                                        refine zAs ?_; refine zN ?_; refine awp_ret ?_
                                        refine post_is (.tmp rfl .nil) zKeep (bcl ?_)
                                        rw [check_m hhd hz hv hb2 hb3]
                                        first | rw [conf_z hcz] | rw [conf_b hcz hb4] | rw [conf_1 hcz hb4 hp1] | rw [conf_2 hcz hb4 hp1 hv hb3]
                                     )
                                 )
                            )
                        )
                     )
                 )
        )
    )
theorem mes_env {m : Mach} (h : okMsg m = true) : envR m = msgM m := by
  have hz : zB m.bal = false := by unfold okMsg at h; simp at h; exact h.1
  have hc : checkM m = true := by unfold okMsg at h; simp at h; exact h.2
  have hh : headM m = true := by unfold checkM at hc; simp at hc; exact hc.1
  rw [check_n hh hz] at hc
  simp only [Bool.and_eq_true] at hc
  obtain ⟨q1, _, _, q4, q5⟩ := hc
  exact env_msg q4 q5 (kind_3 (e := msgM m) (vE_kind q1))
theorem ok_parts {m : Mach} (h : okMsg m = true) : heardM m = true ∧ vE (msgM m) = true ∧ (0 ≤ m.node ∧ m.node < 10) := by
  have hz : zB m.bal = false := by unfold okMsg at h; simp at h; exact h.1
  have hc : checkM m = true := by unfold okMsg at h; simp at h; exact h.2
  have hh : headM m = true := by unfold checkM at hc; simp at hc; exact hc.1
  rw [check_n hh hz] at hc
  simp only [Bool.and_eq_true] at hc
  refine ⟨?_, hc.1, vE_node hc.1⟩
  rw [headM_eq] at hh
  simp at hh; exact hh.2
theorem heardGo_all {m : Mach} : ∀ (l : List Evp) (p : Option Int), heardGo m p l = true → ∀ e ∈ l, vE e = true ∧ e.node ≠ m.node
  | [], _, _, e, he => absurd he List.not_mem_nil
  | x :: r, p, h, e, he => by
    rw [heardGo_cons] at h
    simp only [Bool.and_eq_true, Bool.not_eq_true', decide_eq_false_iff_not] at h
    rcases List.mem_cons.1 he with rfl | he
    · exact ⟨h.1.1, h.1.2.2.1⟩
    · exact heardGo_all r _ h.2 e he
theorem putE_own {c : List Mem} {e : Evp} (h : ∀ x, c[e.node.toNat]? = some x → x.decl = true) : putE c e = c := by
  unfold putE
  split
  · split
    · rename_i m hm
      rw [if_pos (h m hm)]
    · rfl
  · rfl
theorem putE_get {c : List Mem} {e : Evp} {k : Nat} (h : vE e = true → e.node.toNat ≠ k) : (putE c e)[k]? = c[k]? := by
  unfold putE
  split
  · rename_i hv
    split
    · split
      · rfl
      · rw [List.getElem?_set_ne (h hv)]
    · rfl
  · rfl
theorem putsE_get {k : Nat} : ∀ (l : List Evp) (c : List Mem), (∀ e ∈ l, vE e = true → e.node.toNat ≠ k) → (putsE l c)[k]? = c[k]?
  | [], _, _ => rfl
  | e :: r, c, h => by
    show (putsE r (putE c e))[k]? = _
    rw [putsE_get r _ (fun x hx => h x (List.mem_cons_of_mem _ hx)), putE_get (h e (List.mem_cons_self ..))]
theorem putsE_app : ∀ (a b : List Evp) (c : List Mem), putsE (a ++ b) c = putsE b (putsE a c)
  | [], _, _ => rfl
  | e :: r, b, c => by show putsE (r ++ b) (putE c e) = putsE b (putsE r (putE c e)); exact putsE_app r b _
theorem view_own {node : Int} {t : Trust} {o : Evp} {l : List Evp} (ho : o.node = node) (hn : 0 ≤ node ∧ node < 10) (hl : ∀ e ∈ l, vE e = true ∧ e.node ≠ node) : viewE node t (o :: l) = viewE node t (l ++ [o]) := by
  unfold viewE
  rw [if_neg (by omega), if_neg (by omega)]
  have hi : ∀ x, (nobody.set node.toNat ⟨true, t⟩)[node.toNat]? = some x → x.decl = true := by
    intro x hx
    rw [List.getElem?_set_self (by show _ < 10; omega)] at hx
    cases hx; rfl
  show putsE l (putE _ o) = _
  rw [putE_own (by rw [ho]; exact hi), putsE_app]
  show _ = putE (putsE l _) o
  rw [putE_own]
  rw [ho, putsE_get l _ (fun e he hv => by
    have h1 := vE_node hv
    have h2 := (hl e he).2
    omega)]
  exact hi
theorem whoGo_or (p : Evp → Bool) : ∀ (l : List Evp) (s b : Nat), whoGo p l (s ||| b) = whoGo p l s ||| b
  | [], _, _ => rfl
  | e :: r, s, b => by
    simp only [whoGo]
    split
    · rw [← whoGo_or p r, Nat.or_assoc, Nat.or_comm b, ← Nat.or_assoc]
    · exact whoGo_or p r s b
theorem whoGo_app (p : Evp → Bool) : ∀ (a b : List Evp) (s : Nat), whoGo p (a ++ b) s = whoGo p b (whoGo p a s)
  | [], _, _ => rfl
  | e :: r, b, s => by simp only [List.cons_append, whoGo]; exact whoGo_app p r b _
theorem who_own (p : Evp → Bool) (o : Evp) (l : List Evp) : whoE p (l ++ [o]) = whoE p (o :: l) := by
  unfold whoE
  rw [whoGo_app]
  simp only [whoGo]
  split
  · rw [whoGo_or]
  · rfl
theorem set_who (p : Evp → Bool) : ∀ (l : List Evp) (s : Nat), (∀ e ∈ l, vE e = true) → setR s l (l.map p) = whoGo p l s
  | [], _, _ => rfl
  | e :: r, s, h => by
    have hn := vE_node (h e (List.mem_cons_self ..))
    have h9 : (decide (0 ≤ e.node) && decide (e.node ≤ 9)) = true := by simp; omega
    simp only [List.map_cons, setR, whoGo, h9, Bool.and_true]
    exact set_who p r _ (fun x hx => h x (List.mem_cons_of_mem _ hx))
theorem rights_all {l : List Evp} (h : ∀ e ∈ l, vE e = true) : rights l = l := List.filter_eq_self.2 h
/-- What the reference's Together computes from a message of its own. -/
theorem tog_ref {m : Mach} (h : okMsg m = true) (h3 : ¬ m.phase = 3) {o : Evp} (ho : o = msgM m) : togM m = has (great (viewE m.node m.t (o :: m.heard)) (setR 0 (o :: m.heard) ((o :: m.heard).map fun e => decide (cntR e ≥ cntR o)) : Nat)) m.node := by
  obtain ⟨hh, hv, hn⟩ := ok_parts h
  have hl := heardGo_all m.heard none hh
  have hal : ∀ e ∈ o :: m.heard, vE e = true := by
    intro e he
    rcases List.mem_cons.1 he with rfl | he
    · rw [ho]; exact hv
    · exact (hl e he).1
  have hc : ∀ e ∈ o :: m.heard, decide (cntR e ≥ cntR o) = decide (m.bal.n ≤ cntE e) := by
    intro e he
    have e1 : cntR e = cntE e := if_pos (hal e he)
    have e2 : cntR o = m.bal.n := by
      have : cntR o = cntE o := if_pos (hal o (List.mem_cons_self ..))
      rw [this, ho]
      exact if_neg h3
    rw [e1, e2]
  rw [tog_3 h h3, ← ho]
  have hal2 : ∀ e ∈ m.heard ++ [o], vE e = true := by
    intro e he
    rcases List.mem_append.1 he with he | he
    · exact hal e (List.mem_cons_of_mem _ he)
    · exact hal e (by rw [List.mem_singleton.1 he]; exact List.mem_cons_self ..)
  rw [rights_all hal2, ← view_own (by rw [ho]; rfl) hn hl, who_own]
  rw [List.map_congr_left hc, set_who _ _ _ hal]
  rfl
set_option maxHeartbeats 1000000 in
theorem rmessage_con (m : Mach) (hs : sizeT m.t ≤ 1000000000) (hh : ∀ e ∈ m.heard, sizeT e.t ≤ 1000000000) : Con Tryz.prog 39 [mcv m] [] (Is (.tup [ev (mesM m), .b (okMsg m)]) []) := by
  have hcap : capB = 140737488355328 := rfl
  have hmlen : (m.heard.map ev).length = m.heard.length := by simp
  refine con_intro Tryz.func39 rfl Tryz.call39 rfl ?_
  refine zS ?_
  refine aops_box rfl zFlat rfl rfl (fun b1 => ?_)
  refine aops_alloc rfl zRc rfl rfl (fun b2 => ?_)
  refine zAs ?_; refine zN ?_; refine awp_seq ?_; refine zS ?_; refine zLd ?_
  refine aops_call_v zRc (rchk_con m hs hh) rfl rfl ?_
  refine zNo ?_; refine zMv ?_
  all_goals first | (refine zY ?_; refine zF 7 2 true ?_) | refine zU ?_ | refine zNf ?_ | (refine zGf (fun hg => ?_) fun hg => ?_; case' _ => refine zF 7 2 true ?_)
  all_goals first | (refine zY ?_; refine zLd ?_) | refine zU ?_ | refine zNf ?_ | (refine zGf (fun hg => ?_) fun hg => ?_; case' _ => refine zLd ?_)
  all_goals first | (refine zY ?_; refine aops_call_v zRc (rz_con m.bal) rfl rfl ?_) | refine zU ?_ | refine zNf ?_ | (refine zGf (fun hg => ?_) fun hg => ?_; case' _ => refine aops_call_v zRc (rz_con m.bal) rfl rfl ?_)
  all_goals refine zPk ?_
  all_goals (
    refine zN ?_
    refine zC (fun hc => ?_) fun hc => ?_
    · first
      | (exact absurd hc (by decide))
      | (have hok : okMsg m = false := by unfold okMsg; first | (simp [*]; done) | grind
         refine zS ?_
         refine zP (ap_build zKr rfl zRc zFill) ?_
         refine zSt ?_; refine zAs ?_; refine zN ?_
         refine awp_unnil [2,3] 1 rfl zSelS (by apply HeapA.box (CvL.cons Cv.same (CvL.cons Cv.same (CvL.cons Cv.same (CvL.cons Cv.same (CvL.cons Cv.fz (CvL.cons Cv.same (CvL.cons Cv.same (CvL.cons Cv.same (CvL.cons Cv.same (CvL.cons Cv.same (CvL.cons Cv.same (CvL.cons Cv.same (CvL.cons Cv.same (CvL.cons Cv.same (CvL.cons Cv.same CvL.nil))))))))))))))); repeat (first | exact HeapA.nil | apply HeapA.box (by repeat (first | exact CvL.nil | apply CvL.cons Cv.same)) | apply HeapA.arr)) ?_
         refine awp_unnil [2,3] 3 rfl zSelS (by apply HeapA.box (CvL.cons Cv.same (CvL.cons Cv.same (CvL.cons Cv.same (CvL.cons Cv.same (CvL.cons Cv.same (CvL.cons Cv.fz (CvL.cons Cv.same (CvL.cons Cv.same (CvL.cons Cv.same (CvL.cons Cv.same (CvL.cons Cv.same (CvL.cons Cv.same (CvL.cons Cv.same (CvL.cons Cv.same (CvL.cons Cv.same CvL.nil))))))))))))))); repeat (first | exact HeapA.nil | apply HeapA.box (by repeat (first | exact CvL.nil | apply CvL.cons Cv.same)) | apply HeapA.arr)) ?_
         refine awp_ret ?_; refine seqQ_r ?_
         refine post_is (.cell rfl zUpd rfl rfl (.tmp rfl .nil)) zKeep ?_
         unfold mesM; first | (rw [if_neg (by rw [hok]; decide), hok]; rfl) | (rw [if_pos hok, hok, ← mes_env hok]; rfl)
        )
    · first
      | (exact absurd hc (by decide))
      | (have hok : okMsg m = true := by unfold okMsg; first | (simp [*]; done) | grind
         refine awp_skip ?_; refine seqQ_n ?_; refine zS ?_; refine zLd ?_
         refine aops_call_v zRc (renv_con m) rfl rfl ?_
         refine zSt ?_; refine zAs ?_; refine zN ?_; refine awp_ret ?_
         refine post_is (.cell rfl zUpd rfl rfl (.tmp rfl .nil)) zKeep ?_
         unfold mesM; first | (rw [if_neg (by rw [hok]; decide), hok]; rfl) | (rw [if_pos hok, hok, ← mes_env hok]; rfl)
        )
    )
set_option maxHeartbeats 2000000 in
theorem rtog_con (m : Mach) (hlen : m.heard.length ≤ 900000) (hs : sizeT m.t ≤ 200000) (hh : ∀ e ∈ m.heard, sizeT e.t ≤ 200000) : Con Tryz.prog 16 [mcv m] [] (Is (.b (togM m)) []) := by
  have hcap : capB = 140737488355328 := rfl
  have hmlen : (m.heard.map ev).length = m.heard.length := by simp
  refine con_intro Tryz.func16 rfl Tryz.call16 rfl ?_
  refine zS ?_
  refine aops_box rfl zFlat rfl rfl (fun b1 => ?_)
  refine zAs ?_; refine zN (zS ?_); refine zLd ?_
  refine aops_call_v zRc (rmessage_con m (by omega) (fun e he => by have := hh e he; omega)) rfl rfl ?_
  refine zMv ?_
  refine zP (ap_extract rfl rfl) ?_
  refine zP (ap_extract rfl rfl) ?_
  refine aops_alloc rfl zRc rfl rfl (fun b3 => ?_)
  refine zSt ?_; refine zAs ?_; refine zN ?_; refine awp_seq ?_; refine zS ?_; refine zMv ?_; refine zNo ?_; refine zMv ?_
  all_goals first | (refine zY ?_; refine zF 6 1 false ?_) | refine zU ?_ | refine zNf ?_ | (refine zGf (fun hg => ?_) fun hg => ?_; case' _ => refine zF 6 1 false ?_)
  all_goals first | (refine zY ?_; refine zL1 ?_) | refine zU ?_ | refine zNf ?_ | (refine zGf (fun hg => ?_) fun hg => ?_; case' _ => refine zL1 ?_)
  all_goals first | (refine zY ?_; refine zCm ?_) | refine zU ?_ | refine zNf ?_ | (refine zGf (fun hg => ?_) fun hg => ?_; case' _ => refine zCm ?_)
  all_goals refine zPk ?_
  all_goals (
    refine zN ?_
    refine zC (fun hc => ?_) fun hc => ?_
    · first
      | (exact absurd hc (by decide))
      | (have htog : togM m = false := by first | exact tog_1 (not_t (by first | with_reducible assumption | exact hg)) | exact tog_2 (of_decide_eq_true (by first | with_reducible assumption | exact hc))
         refine zS ?_; refine zAs ?_; refine zN ?_; refine awp_ret ?_; refine seqQ_r ?_
         refine post_is (.tmp rfl .nil) zKeep (bcl ?_)
         exact htog.symm
        )
    · first
      | (exact absurd hc (by decide))
      | (have hok : okMsg m = true := not_f (by first | with_reducible assumption | exact hg)
         have hph : ¬ m.phase = 3 := of_decide_eq_false hc
         have hmes := mesM_ok hok
         obtain ⟨o, ho⟩ : ∃ o, o = msgM m := ⟨_, rfl⟩
         have htog := tog_ref hok hph ho
         rw [hmes, ← ho]
         have hnode := (ok_parts hok).2.2
         have hot : o.t = m.t := by rw [ho]; rfl
         have hlo : ∀ e ∈ o :: m.heard, sizeT e.t ≤ 200000 := List.forall_mem_cons.2 ⟨by rw [hot]; exact hs, hh⟩
         have hos := hlo o (List.mem_cons_self ..)
         have hml2 : ((o :: m.heard).map ev).length = m.heard.length + 1 := by simp
         refine awp_skip ?_; refine seqQ_n ?_; refine zS ?_; refine zLd ?_
         refine aops_own (e := 52) (sz := 15) (by_ := 176) rfl rfl zRc rfl rfl rfl rfl (fun v23 hv23 => ?_)
         refine zF 18 1 false ?_; refine zL1 ?_
         first | refine aops_append (e := 52) (sz := 15) (by_ := 176) rfl zUpd rfl rfl rfl rfl rfl (by simp only [List.length_cons, List.length_nil, List.length_append, List.length_map]; omega) (fun v26 hv26 => ?_) | refine aops_append_nil (e := 52) (sz := 15) (by_ := 176) rfl rfl rfl rfl rfl rfl (by simp only [List.length_cons, List.length_nil, List.length_append, List.length_map]; omega) (fun v26 hv26 => ?_)
         refine zAs ?_; refine zN ?_; refine awp_seq ?_
         rw [show [D.agg [.i o.node, .i o.slot, .i o.seq, .i o.t.th, .sl 1 (o.t.nodes.map .i), .sl 3 (avs o.t.inner), .i o.kind, .i o.bal.n, .v (.string o.bal.v), .i o.prep.n, .v (.string o.prep.v), .i o.prime.n, .v (.string o.prime.v), .i o.low, .i o.high]] ++ m.heard.map ev = (o :: m.heard).map ev from rfl]
         refine awp_freeze v26 [1,2,3,5] zRem zSelC zHeapA ?_
         refine awp_region ?_; refine zAs ?_; refine zN ?_; refine awp_seq ?_; refine zS ?_; refine zMv ?_
         first | refine aops_len rfl rfl rfl rfl (fun _ => ?_) | refine zP (ap_len_arr rfl zUpd rfl) ?_ | refine zP (ap_len_nil rfl rfl) ?_
         refine zMv ?_; refine zN ?_; refine awp_block ?_
         refine awp_loop3 [1, 3, 5, 27, 28] [.box b3 _ _, .box b1 _ _] (fun (k : Nat) (v : Value) (q : List Bool) r => (6, .v v) :: (29, .i (k : Int)) :: r) (fun (k : Nat) (v : Value) (q : List Bool) r => .arr v 4 1 (q.map bV) :: r) (fun (k : Nat) (v : Value) (q : List Bool) => k ≤ m.heard.length + 1 ∧ q = ((o :: m.heard).take k).map (fun e => decide (cntR e ≥ cntR o))) (fun (k : Nat) (v : Value) (q : List Bool) => m.heard.length + 1 - k) (0) (.slice none 0 0) ([]) zRc ⟨by omega, rfl⟩ ((wk_own 4 1 rfl).trans (wk zSub zKeep)) ?_
         intro k v q ⟨hk, hI⟩
         have hql : q.length = k := by rw [hI]; simp; omega
         have hqm : (q.map bV).length = q.length := by simp
         refine zS ?_; refine zCm ?_; refine zN ?_; refine awp_seq ?_
         refine zC (fun hc => ?_) fun hc => ?_
         · have hlt := of_decide_eq_true hc
           obtain ⟨x, hx, hd⟩ := drop_cons (l := o :: m.heard) (k := k) (by simp; omega)
           have hx' := getMap ev hx
           have hxs := hlo x (List.mem_of_getElem? hx)
           refine awp_skip ?_; refine seqQ_n ?_; refine awp_seq ?_; refine awp_block ?_; refine zS ?_
           first | refine zP (ap_index rfl rfl rfl rfl (by decide) rfl zAss) ?_ | refine zP (ap_index rfl rfl rfl rfl (by decide) (by omega) zAss) ?_ | refine zP (ap_index_own rfl rfl rfl rfl rfl (by first | omega | (simp only [List.length_map, List.length_set, avs_len]; omega))) ?_
           refine zLd ?_
           refine aops_alloc rfl zRc rfl rfl (fun b8 => ?_)
           refine zSt ?_; refine zN ?_
           refine awp_draw (Hm := [.arr v _ _ _]) zKr zSplit ?_
           refine zT 0 rfl (AP.ar (ap_move rfl)) ?_
           refine zTM 1 ?_; refine zTM 3 ?_
           refine aany_one 2 zKr rfl (.none rfl) ?_
           refine aops_call_v zRc (rcount_con x (by omega)) rfl rfl ?_
           refine aops_nil ?_
           refine aany_one 4 zKr rfl (.none rfl) ?_
           refine aops_call_v zRc (rcount_con o (by omega)) rfl rfl ?_
           refine aops_nil ?_
           refine zT 5 rfl (AP.ar (ap_cmp rfl rfl rfl)) ?_
           refine aany_one 6 zKr rfl (.none rfl) ?_
           refine aops_lit (e := 4) (sz := 1) (by_ := 1) rfl rfl zRc rfl rfl rfl rfl ?_
           refine aops_nil ?_
           refine aany_one 7 zKr rfl (.none rfl) ?_
           first | refine aops_append (e := 4) (sz := 1) (by_ := 1) rfl zUpd rfl rfl rfl rfl rfl (by simp only [List.length_cons, List.length_nil, List.length_append, List.length_map]; omega) (fun v40 hv40 => ?_) | refine aops_append_nil (e := 4) (sz := 1) (by_ := 1) rfl rfl rfl rfl rfl rfl (by simp only [List.length_cons, List.length_nil, List.length_append, List.length_map]; omega) (fun v40 hv40 => ?_)
           refine aops_nil ?_
           refine zT 8 rfl (AP.ar (ap_assign rfl)) ?_
           refine aany_nil zKr ?_
           all_goals (
             refine blockQ_n ?_; refine seqQ_n ?_; refine awp_region ?_; refine zAr ?_; refine zMv ?_; refine zN ?_
             rw [bsn q]
             refine ⟨k + 1, _, q ++ [decide (cntR x ≥ cntR o)], ⟨by omega, by rw [hI, List.take_add_one, hx]; simp⟩, by omega, wk zSub zKeep⟩
             )
         · have hge := of_decide_eq_false hc
           obtain rfl : k = m.heard.length + 1 := by omega
           refine awp_freeze v [1,3,5,6] zRem zSelC zHeapA ?_
           refine awp_exit ?_; refine seqQ_x ?_; refine seqQ_x ?_; refine blockQ_x rfl ?_; refine seqQ_n ?_; refine zS ?_; refine zF 0 1 false ?_; refine zL1 ?_; refine zF 3 3 true ?_; refine zLd ?_; refine zMv ?_
           refine aops_call_v zRc (rview_con m.node m.t (o :: m.heard) (fun e he => by have := hlo e he; omega)) rfl rfl ?_
           refine zMv ?_; refine zMv ?_
           refine aops_call_v zRc (rset_con (o :: m.heard) q (by simp; omega)) rfl rfl ?_
           refine aops_call_v zRc (rgreat_con _ _) rfl rfl ?_
           refine zAs ?_; refine zN ?_; refine awp_seq ?_
           obtain ⟨qn, hqn⟩ := Int.eq_ofNat_of_zero_le hnode.1
           obtain ⟨g, hgd⟩ : ∃ g : Nat, g = great (viewE m.node m.t (o :: m.heard)) (setR 0 (o :: m.heard) q : Nat) := ⟨_, rfl⟩
           have hgl : g < 1024 := by rw [hgd]; exact great_lt _ _
           have hgv : valid (g : Int) = true := by unfold valid; rw [decide_eq_true (show (0 : Int) ≤ (g : Int) by omega), decide_eq_true (show (g : Int) < 1024 by omega)]; rfl
           have hpow := pow_lt10 (k := qn) (by omega)
           have hdiv : g / 2 ^ qn ≤ g := Nat.div_le_self _ _
           rw [← hgd, hqn]
           refine awp_region ?_; refine zMv ?_; refine zF 0 1 false ?_; refine zL1 ?_
           refine zP (ap_convi rfl rfl rfl) ?_; rw [wrap64n (n := qn) (by omega)]
           refine zP (ap_shr rfl rfl (by omega)) ?_
           refine zP (ap_bits (q := 1) rfl rfl rfl (by omega) (by omega)) ?_
           refine zCm ?_; refine zAs ?_; refine zN ?_; refine awp_ret ?_
           refine post_is (.tmp rfl .nil) zKeep (bcl ?_)
           have hq2 : q = (o :: m.heard).map (fun e => decide (cntR e ≥ cntR o)) := by rw [hI, List.take_of_length_le (by simp)]
           rw [htog, ← hq2, ← hgd, hqn]
           exact has_bit' hgv (by omega)
        )
    )
theorem wait_hi {k : Int} (h : 12 ≤ k) : waitV k = 12 := by unfold waitV; omega
theorem wait_lo {k : Int} (h : ¬ 12 ≤ k) : waitV k = max (k + 1) 1 := by unfold waitV; omega
theorem tog_bal {m : Mach} (h : togM m = true) : 0 ≤ m.bal.n := by
  have hok : okMsg m = true := by
    cases h1 : okMsg m with
    | true => rfl
    | false => rw [tog_1 h1] at h; cases h
  have h3 : ¬ m.phase = 3 := fun h3 => by rw [tog_2 h3] at h; cases h
  have hv := vE_kind (ok_parts hok).2.1
  unfold kindE at hv
  have e1 : (msgM m).bal = m.bal := rfl
  have fin : finB m.bal = true → 0 ≤ m.bal.n := by
    intro hf
    simp only [finB, vB, Bool.and_eq_true, Bool.or_eq_true, decide_eq_true_eq] at hf
    omega
  split at hv
  · unfold prepE at hv
    simp only [Bool.and_eq_true] at hv
    exact fin hv.1.1
  · split at hv
    · simp only [Bool.and_eq_true] at hv
      exact fin hv.1
    · split at hv
      · rename_i h9; exact absurd h9 h3
      · cases hv
theorem rwait_con (k : Int) (hk : -9223372036854775808 ≤ k) : Con Tryz.prog 13 [.i k] [] (Is (.i (waitV k)) []) := by
  have hcap : capB = 140737488355328 := rfl
  refine con_intro Tryz.func13 rfl Tryz.call13 rfl ?_
  refine zS ?_; refine zAs ?_; refine zN ?_; refine awp_seq ?_; refine zS ?_; refine zMv ?_; refine zCm ?_; refine zN ?_
  refine zC (fun hc => ?_) fun hc => ?_
  · have h4 := of_decide_eq_true hc
    refine zS ?_; refine zAs ?_; refine zN ?_; refine awp_ret ?_; refine seqQ_r ?_
    refine post_is (.tmp rfl .nil) zKeep (icl ?_)
    rw [wait_hi h4]
  · have h4 := of_decide_eq_false hc
    refine awp_skip ?_; refine seqQ_n ?_; refine zS ?_; refine zMv ?_; refine zAr ?_
    refine zP (ap_max rfl rfl) ?_
    refine zAs ?_; refine zN ?_; refine awp_ret ?_
    refine post_is (.tmp rfl .nil) zKeep (icl ?_)
    rw [wait_lo h4]
theorem rtvalid_con (t : Tm) : Con Tryz.prog 18 [tmv t] [] (Is (.b (vTm t)) []) := by
  have hcap : capB = 140737488355328 := rfl
  refine con_intro Tryz.func18 rfl Tryz.call18 rfl ?_
  refine zS ?_
  refine aops_box rfl zFlat rfl rfl (fun b1 => ?_)
  refine zAs ?_; refine zN (zS ?_); refine zF 0 1 false ?_; refine zL1 ?_; refine zCm ?_; refine zMv ?_
  all_goals first | (refine zY ?_; refine zF 0 1 false ?_) | refine zU ?_ | refine zNt ?_ | (refine zGt (fun hg => ?_) fun hg => ?_; case' _ => refine zF 0 1 false ?_)
  all_goals first | (refine zY ?_; refine zL1 ?_) | refine zU ?_ | refine zNt ?_ | (refine zGt (fun hg => ?_) fun hg => ?_; case' _ => refine zL1 ?_)
  all_goals first | (refine zY ?_; refine zCm ?_) | refine zU ?_ | refine zNt ?_ | (refine zGt (fun hg => ?_) fun hg => ?_; case' _ => refine zCm ?_)
  all_goals refine zPk ?_
  all_goals refine zMv ?_
  all_goals first | (refine zY ?_; refine zF 1 1 false ?_) | refine zU ?_ | refine zNt ?_ | (refine zGt (fun hg => ?_) fun hg => ?_; case' _ => refine zF 1 1 false ?_)
  all_goals first | (refine zY ?_; refine zL1 ?_) | refine zU ?_ | refine zNt ?_ | (refine zGt (fun hg => ?_) fun hg => ?_; case' _ => refine zL1 ?_)
  all_goals first | (refine zY ?_; refine zCm ?_) | refine zU ?_ | refine zNt ?_ | (refine zGt (fun hg => ?_) fun hg => ?_; case' _ => refine zCm ?_)
  all_goals refine zPk ?_
  all_goals refine zMv ?_
  all_goals first | (refine zY ?_; refine zF 1 1 false ?_) | refine zU ?_ | refine zNt ?_ | (refine zGt (fun hg => ?_) fun hg => ?_; case' _ => refine zF 1 1 false ?_)
  all_goals first | (refine zY ?_; refine zL1 ?_) | refine zU ?_ | refine zNt ?_ | (refine zGt (fun hg => ?_) fun hg => ?_; case' _ => refine zL1 ?_)
  all_goals first | (refine zY ?_; refine zCm ?_) | refine zU ?_ | refine zNt ?_ | (refine zGt (fun hg => ?_) fun hg => ?_; case' _ => refine zCm ?_)
  all_goals refine zPk ?_
  all_goals refine zAs ?_
  all_goals (
    refine zN ?_; refine awp_ret ?_
    refine post_is (.tmp rfl .nil) zKeep (bcl ?_)
    first | rfl | (simp only [vTm]; simp [*]; done) | grind [vTm]
    )
set_option maxHeartbeats 2000000 in
theorem rtstep_con (t : Tm) (m : Mach) (now : Int) (hlen : m.heard.length ≤ 900000) (hs : sizeT m.t ≤ 200000) (hh : ∀ e ∈ m.heard, sizeT e.t ≤ 200000) : Con Tryz.prog 20 [tmv t, mcv m, .i now] [] (Is (.tup [tmv (stepV t m now).1, .b (stepV t m now).2]) []) := by
  have hcap : capB = 140737488355328 := rfl
  have hw := wait_bd m.bal.n
  refine con_intro Tryz.func20 rfl Tryz.call20 rfl ?_
  refine zS ?_
  refine aops_box rfl zFlat rfl rfl (fun b3 => ?_)
  refine aops_box rfl zFlat rfl rfl (fun b4 => ?_)
  refine aops_alloc rfl zRc rfl rfl (fun b6 => ?_)
  refine zAs ?_; refine zN ?_; refine awp_seq ?_; refine zS ?_; refine zLd ?_
  refine aops_call_v zRc (rtvalid_con t) rfl rfl ?_
  refine zNo ?_; refine zMv ?_
  all_goals first | (refine zY ?_; refine zMv ?_) | refine zU ?_ | refine zNf ?_ | (refine zGf (fun hg => ?_) fun hg => ?_; case' _ => refine zMv ?_)
  all_goals first | (refine zY ?_; refine zCm ?_) | refine zU ?_ | refine zNf ?_ | (refine zGf (fun hg => ?_) fun hg => ?_; case' _ => refine zCm ?_)
  all_goals refine zPk ?_
  all_goals refine zMv ?_
  all_goals first | (refine zY ?_; refine zMv ?_) | refine zU ?_ | refine zNf ?_ | (refine zGf (fun hg => ?_) fun hg => ?_; case' _ => refine zMv ?_)
  all_goals first | (refine zY ?_; refine zCm ?_) | refine zU ?_ | refine zNf ?_ | (refine zGf (fun hg => ?_) fun hg => ?_; case' _ => refine zCm ?_)
  all_goals refine zPk ?_
  all_goals (
    refine zN ?_
    refine zC (fun hc => ?_) fun hc => ?_
    · first
      | (exact absurd hc (by decide))
      | (have hbad : stepBad t now = true := by first | (simp only [stepBad]; simp [*]; done) | grind [stepBad]
         refine zS ?_
         refine zP (ap_build zKr rfl zRc zFill) ?_
         refine zSt ?_; refine zAs ?_; refine zN ?_; refine awp_ret ?_; refine seqQ_r ?_
         refine post_is (.cell rfl zUpd rfl rfl (.tmp rfl .nil)) zKeep ?_
         first | (rw [step_1 hbad]; rfl) | (rw [step_2 hbad htg]; rfl) | (rw [step_3 hbad htg hnew]; rfl) | (rw [step_4 hbad htg hnew hdue]; rfl) | (rw [step_5 hbad htg hnew hdue]; rfl)
        )
    · first
      | (exact absurd hc (by decide))
      | (have hbad : stepBad t now = false := by first | (simp only [stepBad]; simp [*]; done) | grind [stepBad]
         have hnow : 0 ≤ now ∧ now ≤ 200 := by simp only [stepBad, Bool.or_eq_false_iff, decide_eq_false_iff_not] at hbad; omega
         have hdv : -1 ≤ t.due := by simp only [stepBad, Bool.or_eq_false_iff, Bool.not_eq_false', vTm, Bool.and_eq_true, decide_eq_true_eq] at hbad; omega
         refine awp_skip ?_; refine seqQ_n ?_; refine zS ?_; refine zF 7 2 true ?_; refine zF 0 1 false ?_; refine zL1 ?_; refine zAs ?_; refine zN ?_; refine awp_seq ?_; refine awp_block ?_; refine zS ?_; refine zLd ?_
         refine aops_call_v zRc (rtog_con m hlen hs hh) rfl rfl ?_
         refine zNo ?_; refine zAs ?_; refine zN ?_
         refine zC (fun hc => ?_) fun hc => ?_
         · have htg : togM m = false := not_t hc
           refine zS ?_; refine zMv ?_
           refine zP (ap_build zKr rfl zRc zFill) ?_
           refine zSt ?_; refine zAs ?_; refine zN ?_; refine awp_ret ?_; refine blockQ_r ?_; refine seqQ_r ?_
           refine post_is (.cell rfl zUpd rfl rfl (.tmp rfl .nil)) zKeep ?_
           first | (rw [step_1 hbad]; rfl) | (rw [step_2 hbad htg]; rfl) | (rw [step_3 hbad htg hnew]; rfl) | (rw [step_4 hbad htg hnew hdue]; rfl) | (rw [step_5 hbad htg hnew hdue]; rfl)
         · have htg : togM m = true := not_f hc
           refine zS ?_; refine zF 1 1 false ?_; refine zL1 ?_; refine zCm ?_; refine zMv ?_
           all_goals first | (refine zY ?_; refine zF 0 1 false ?_) | refine zU ?_ | refine zNf ?_ | (refine zGf (fun hg => ?_) fun hg => ?_; case' _ => refine zF 0 1 false ?_)
           all_goals first | (refine zY ?_; refine zL1 ?_) | refine zU ?_ | refine zNf ?_ | (refine zGf (fun hg => ?_) fun hg => ?_; case' _ => refine zL1 ?_)
           all_goals first | (refine zY ?_; refine zMv ?_) | refine zU ?_ | refine zNf ?_ | (refine zGf (fun hg => ?_) fun hg => ?_; case' _ => refine zMv ?_)
           all_goals first | (refine zY ?_; refine zCm ?_) | refine zU ?_ | refine zNf ?_ | (refine zGf (fun hg => ?_) fun hg => ?_; case' _ => refine zCm ?_)
           all_goals refine zPk ?_
           all_goals refine zAs ?_
           all_goals (
             refine zN ?_
             refine zC (fun hc => ?_) fun hc => ?_
             · first
               | (exact absurd hc (by decide))
               | (have hnew : stepNew t m = true := by simp only [stepNew]; grind
                  refine zS ?_; refine zMv ?_; refine zMv ?_; refine zMv ?_
                  refine aops_call_v zRc (rwait_con m.bal.n (by have := tog_bal htg; omega)) rfl rfl ?_
                  refine zAr ?_
                  refine zP (ap_build zKr rfl zRc zFill) ?_
                  refine zSt ?_; refine zAs ?_; refine zN ?_; refine awp_ret ?_; refine blockQ_r ?_; refine seqQ_r ?_
                  refine post_is (.cell rfl zUpd rfl rfl (.tmp rfl .nil)) zKeep ?_
                  first | (rw [step_1 hbad]; rfl) | (rw [step_2 hbad htg]; rfl) | (rw [step_3 hbad htg hnew]; rfl) | (rw [step_4 hbad htg hnew hdue]; rfl) | (rw [step_5 hbad htg hnew hdue]; rfl)
                 )
             · first
               | (exact absurd hc (by decide))
               | (have hnew : stepNew t m = false := by simp only [stepNew]; grind
                  refine zS ?_; refine zMv ?_; refine zF 1 1 false ?_; refine zL1 ?_; refine zCm ?_; refine zAs ?_; refine zN ?_
                  refine zC (fun hc => ?_) fun hc => ?_
                  · have hdue : t.due ≤ now := of_decide_eq_true hc
                    refine zS ?_; refine zMv ?_
                    refine zP (ap_build zKr rfl zRc zFill) ?_
                    refine zSt ?_; refine zAs ?_; refine zN ?_; refine awp_ret ?_; refine blockQ_r ?_; refine seqQ_r ?_
                    refine post_is (.cell rfl zUpd rfl rfl (.tmp rfl .nil)) zKeep ?_
                    first | (rw [step_1 hbad]; rfl) | (rw [step_2 hbad htg]; rfl) | (rw [step_3 hbad htg hnew]; rfl) | (rw [step_4 hbad htg hnew hdue]; rfl) | (rw [step_5 hbad htg hnew hdue]; rfl)
                  · have hdue : ¬ t.due ≤ now := of_decide_eq_false hc
                    refine awp_skip ?_; refine blockQ_n ?_; refine seqQ_n ?_; refine zS ?_; refine zLd ?_; refine zSt ?_; refine zAs ?_; refine zN ?_; refine awp_ret ?_
                    refine post_is (.cell rfl zUpd rfl rfl (.tmp rfl .nil)) zKeep ?_
                    first | (rw [step_1 hbad]; rfl) | (rw [step_2 hbad htg]; rfl) | (rw [step_3 hbad htg hnew]; rfl) | (rw [step_4 hbad htg hnew hdue]; rfl) | (rw [step_5 hbad htg hnew hdue]; rfl)
                 )
             )
        )
    )
theorem op_str {P : Program} {w : World} {n : Nat} {t : TypeId} (ht : P.underlying t = some .string) : OpN P w t n Str (fun z => [.v (.string z)]) := by
  refine ⟨fun enc cs x h _ => ?_⟩
  obtain ⟨z, rfl, _, _⟩ := DataW.trod_string ht h
  exact ⟨z, by simp only [RepL, Rep]; exact ⟨_, _, rfl, rfl, rfl, rfl⟩⟩
theorem op_bal {w : World} (n : Nat) : OpN Tryz.prog w 29 n Bal (fun b => [.i b.n, .v (.string b.v)]) := by
  refine op_struct Tryz.underlying29 zKr (fun m hm => ?_)
  exact (opf_cons zKr (op_int Tryz.underlying3) (opf_cons zKr (op_str Tryz.underlying9) opf_nil)).map (fun p => ⟨p.1, p.2.1⟩) (fun p => rfl)
theorem op_timer {w : World} (n : Nat) : OpN Tryz.prog w 24 n Tm (fun t => [.i t.n, .i t.due]) := by
  refine op_struct Tryz.underlying24 zKr (fun m hm => ?_)
  exact (opf_cons zKr (op_int Tryz.underlying3) (opf_cons zKr (op_int Tryz.underlying3) opf_nil)).map (fun p => ⟨p.1, p.2.1⟩) (fun p => rfl)
def evC (e : Evp) : List D := [.i e.node, .i e.slot, .i e.seq, .i e.t.th, .sl 1 (e.t.nodes.map .i), .sl 3 (avs e.t.inner), .i e.kind, .i e.bal.n, .v (.string e.bal.v), .i e.prep.n, .v (.string e.prep.v), .i e.prime.n, .v (.string e.prime.v), .i e.low, .i e.high]
theorem op_env {w : World} (n : Nat) : OpN Tryz.prog w 52 n Evp evC := by
  refine op_struct Tryz.underlying52 zKr (fun m hm => ?_)
  exact (opf_cons zKr (op_int Tryz.underlying3) (opf_cons zKr (op_int Tryz.underlying3) (opf_cons zKr (op_int Tryz.underlying3) (opf_cons zKr (op_trust m) (opf_cons zKr (op_int Tryz.underlying3) (opf_cons zKr (op_bal m) (opf_cons zKr (op_bal m) (opf_cons zKr (op_bal m) (opf_cons zKr (op_int Tryz.underlying3) (opf_cons zKr (op_int Tryz.underlying3) opf_nil)))))))))).map (fun p => ⟨p.1, p.2.1, p.2.2.1, p.2.2.2.1, p.2.2.2.2.1, p.2.2.2.2.2.1, p.2.2.2.2.2.2.1, p.2.2.2.2.2.2.2.1, p.2.2.2.2.2.2.2.2.1, p.2.2.2.2.2.2.2.2.2.1⟩) (fun p => rfl)
theorem op_envs {w : World} (n : Nat) : OpN Tryz.prog w 30 n (List Evp) (fun l => [.sl 15 (l.map ev)]) :=
  op_slice (sz := 15) (mk := ev) (toC := evC) Tryz.underlying30 zKr (by omega) (of_decide_eq_true zKr) (mk_agg _) (fun k hk => op_env k)
theorem op_mach {w : World} (n : Nat) : OpN Tryz.prog w 32 n Mach (fun m => [.i m.node, .i m.slot, .i m.seq, .i m.t.th, .sl 1 (m.t.nodes.map .i), .sl 3 (avs m.t.inner), .i m.phase, .i m.bal.n, .v (.string m.bal.v), .i m.prep.n, .v (.string m.prep.v), .i m.prime.n, .v (.string m.prime.v), .i m.conf.n, .v (.string m.conf.v), .i m.low, .i m.high, .v (.string m.prop), .sl 15 (m.heard.map ev)]) := by
  refine op_struct Tryz.underlying32 zKr (fun j hj => ?_)
  exact (opf_cons zKr (op_int Tryz.underlying3) (opf_cons zKr (op_int Tryz.underlying3) (opf_cons zKr (op_int Tryz.underlying3) (opf_cons zKr (op_trust j) (opf_cons zKr (op_int Tryz.underlying3) (opf_cons zKr (op_bal j) (opf_cons zKr (op_bal j) (opf_cons zKr (op_bal j) (opf_cons zKr (op_bal j) (opf_cons zKr (op_int Tryz.underlying3) (opf_cons zKr (op_int Tryz.underlying3) (opf_cons zKr (op_str Tryz.underlying9) (opf_cons zKr (op_envs j) opf_nil))))))))))))).map (fun p => ⟨p.1, p.2.1, p.2.2.1, p.2.2.2.1, p.2.2.2.2.1, p.2.2.2.2.2.1, p.2.2.2.2.2.2.1, p.2.2.2.2.2.2.2.1, p.2.2.2.2.2.2.2.2.1, p.2.2.2.2.2.2.2.2.2.1, p.2.2.2.2.2.2.2.2.2.2.1, p.2.2.2.2.2.2.2.2.2.2.2.1, p.2.2.2.2.2.2.2.2.2.2.2.2.1⟩) (fun p => rfl)
/-- Small enough. -/
def FewM (m : Mach) : Prop := m.heard.length ≤ 10 ∧ sizeT m.t ≤ 12 ∧ ∀ e ∈ m.heard, sizeT e.t ≤ 12
theorem size_flat {t : Trust} (h1 : t.nodes.length ≤ 12) (h2 : t.inner.length = 0) : sizeT t ≤ 12 := by
  have e : t.inner = [] := List.length_eq_zero_iff.1 h2
  cases t with
  | mk a b c =>
    simp only [Trust.inner] at e
    subst e
    show b.length + 0 + 0 ≤ 12
    simpa [Trust.nodes] using h1
theorem take_all {l : List Evp} {k : Nat} {x : Evp} {p : Evp → Prop} (h : ∀ e ∈ l.take k, p e) (hx : l[k]? = some x) (hp : p x) : ∀ e ∈ l.take (k + 1), p e := by
  rw [List.take_add_one, hx]
  exact snoc_mem h hp
theorem aops_pex {P : Program} {n : Nat} {ops : Array Oper} {o : Oper} {rest : List Oper} {env : Env} {H : Heap} {t : Tmp} {K : Env → Heap → Prop} {A : Type} (f : A → D) (G : A → Prop) (h : ∃ y, G y ∧ AP P n o env H (f y)) (hg : o.guard = none) (hd : o.dst = some t) (ht : Nat.blt t n = true) (hk : ∀ y, G y → AOps P n ops rest ((t, f y) :: env) H K) : AOps P n ops (o :: rest) env H K := by
  obtain ⟨y, h1, h2⟩ := h
  exact aops_p h2 hg hd ht (hk y h1)
set_option maxHeartbeats 2000000 in
theorem few_con (m : Mach) : Con Tryz.prog 6 [mcv m] [] (fun d H => ∃ b : Bool, d = .b b ∧ (b = true → FewM m) ∧ H = []) := by
  have hcap : capB = 140737488355328 := rfl
  have hmlen : (m.heard.map ev).length = m.heard.length := by simp
  have hm1 : (m.t.nodes.map D.i).length = m.t.nodes.length := by simp
  have hm2 := avs_len m.t.inner
  refine con_intro Tryz.func6 rfl Tryz.call6 rfl ?_
  refine zS ?_
  refine aops_box rfl zFlat rfl rfl (fun b1 => ?_)
  refine zAs ?_; refine zN ?_; refine awp_seq ?_; refine zS ?_; refine zF 18 1 false ?_; refine zL1 ?_
  first | refine aops_len rfl rfl rfl rfl (fun _ => ?_) | refine zP (ap_len_arr rfl zUpd rfl) ?_ | refine zP (ap_len_nil rfl rfl) ?_
  refine zMv ?_; refine zN ?_; refine awp_block ?_
  refine awp_loop1 [1, 6, 7] [.box b1 _ _] (fun (k : Nat) r => (8, .i (k : Int)) :: r) (fun (k : Nat) r => r) (fun (k : Nat) => k ≤ m.heard.length ∧ ∀ e ∈ m.heard.take k, sizeT e.t ≤ 12) (fun (k : Nat) => m.heard.length - k) (0) zRc ⟨by omega, by simp⟩ (wk zSub zKeep) ?_
  intro k ⟨hk, hI⟩
  refine zS ?_; refine zCm ?_; refine zN ?_; refine awp_seq ?_
  refine zC (fun hc => ?_) fun hc => ?_
  · have hlt := of_decide_eq_true hc
    obtain ⟨x, hx, hd⟩ := drop_cons (l := m.heard) (k := k) (by omega)
    have hx' := getMap ev hx
    have hx1 : (x.t.nodes.map D.i).length = x.t.nodes.length := by simp
    have hx2 := avs_len x.t.inner
    refine awp_skip ?_; refine seqQ_n ?_; refine awp_seq ?_; refine awp_block ?_; refine zS ?_
    first | refine zP (ap_index rfl rfl rfl rfl (by decide) rfl zAss) ?_ | refine zP (ap_index rfl rfl rfl rfl (by decide) (by omega) zAss) ?_ | refine zP (ap_index_own rfl rfl rfl rfl rfl (by first | omega | (simp only [List.length_map, List.length_set, avs_len]; omega))) ?_
    refine zLd ?_
    refine aops_alloc rfl zRc rfl rfl (fun b4 => ?_)
    refine zSt ?_; refine zN (zS ?_); refine zF 3 3 true ?_; refine zF 1 1 false ?_; refine zL1 ?_
    first | refine aops_len rfl rfl rfl rfl (fun _ => ?_) | refine zP (ap_len_arr rfl zUpd rfl) ?_ | refine zP (ap_len_nil rfl rfl) ?_
    refine zCm ?_; refine zMv ?_
    all_goals first | (refine zY ?_; refine zF 3 3 true ?_) | refine zU ?_ | refine zNf ?_ | (refine zGf (fun hg => ?_) fun hg => ?_; case' _ => refine zF 3 3 true ?_)
    all_goals first | (refine zY ?_; refine zF 2 1 false ?_) | refine zU ?_ | refine zNf ?_ | (refine zGf (fun hg => ?_) fun hg => ?_; case' _ => refine zF 2 1 false ?_)
    all_goals first | (refine zY ?_; refine zL1 ?_) | refine zU ?_ | refine zNf ?_ | (refine zGf (fun hg => ?_) fun hg => ?_; case' _ => refine zL1 ?_)
    all_goals first | (refine zY ?_; (first | refine aops_len rfl rfl rfl rfl (fun _ => ?_) | refine zP (ap_len_arr rfl zUpd rfl) ?_ | refine zP (ap_len_nil rfl rfl) ?_)) | refine zU ?_ | refine zNf ?_ | (refine zGf (fun hg => ?_) fun hg => ?_; case' _ => (first | refine aops_len rfl rfl rfl rfl (fun _ => ?_) | refine zP (ap_len_arr rfl zUpd rfl) ?_ | refine zP (ap_len_nil rfl rfl) ?_))
    all_goals first | (refine zY ?_; refine zCm ?_) | refine zU ?_ | refine zNf ?_ | (refine zGf (fun hg => ?_) fun hg => ?_; case' _ => refine zCm ?_)
    all_goals refine zPk ?_
    all_goals refine zMv ?_
    all_goals first | (refine zY ?_; refine zF 7 2 true ?_) | refine zU ?_ | refine zNf ?_ | (refine zGf (fun hg => ?_) fun hg => ?_; case' _ => refine zF 7 2 true ?_)
    all_goals first | (refine zY ?_; refine zF 1 1 false ?_) | refine zU ?_ | refine zNf ?_ | (refine zGf (fun hg => ?_) fun hg => ?_; case' _ => refine zF 1 1 false ?_)
    all_goals first | (refine zY ?_; refine zL1 ?_) | refine zU ?_ | refine zNf ?_ | (refine zGf (fun hg => ?_) fun hg => ?_; case' _ => refine zL1 ?_)
    all_goals first | (refine zY ?_; refine zP (ap_len_str rfl rfl) ?_) | refine zU ?_ | refine zNf ?_ | (refine zGf (fun hg => ?_) fun hg => ?_; case' _ => refine zP (ap_len_str rfl rfl) ?_)
    all_goals first | (refine zY ?_; refine zF 9 2 true ?_) | refine zU ?_ | refine zNf ?_ | (refine zGf (fun hg => ?_) fun hg => ?_; case' _ => refine zF 9 2 true ?_)
    all_goals first | (refine zY ?_; refine zF 1 1 false ?_) | refine zU ?_ | refine zNf ?_ | (refine zGf (fun hg => ?_) fun hg => ?_; case' _ => refine zF 1 1 false ?_)
    all_goals first | (refine zY ?_; refine zL1 ?_) | refine zU ?_ | refine zNf ?_ | (refine zGf (fun hg => ?_) fun hg => ?_; case' _ => refine zL1 ?_)
    all_goals first | (refine zY ?_; refine zP (ap_len_str rfl rfl) ?_) | refine zU ?_ | refine zNf ?_ | (refine zGf (fun hg => ?_) fun hg => ?_; case' _ => refine zP (ap_len_str rfl rfl) ?_)
    all_goals first | (refine zY ?_; refine zP (ap_arithw rfl rfl rfl) ?_) | refine zU ?_ | refine zNf ?_ | (refine zGf (fun hg => ?_) fun hg => ?_; case' _ => refine zP (ap_arithw rfl rfl rfl) ?_)
    all_goals first | (refine zY ?_; refine zF 11 2 true ?_) | refine zU ?_ | refine zNf ?_ | (refine zGf (fun hg => ?_) fun hg => ?_; case' _ => refine zF 11 2 true ?_)
    all_goals first | (refine zY ?_; refine zF 1 1 false ?_) | refine zU ?_ | refine zNf ?_ | (refine zGf (fun hg => ?_) fun hg => ?_; case' _ => refine zF 1 1 false ?_)
    all_goals first | (refine zY ?_; refine zL1 ?_) | refine zU ?_ | refine zNf ?_ | (refine zGf (fun hg => ?_) fun hg => ?_; case' _ => refine zL1 ?_)
    all_goals first | (refine zY ?_; refine zP (ap_len_str rfl rfl) ?_) | refine zU ?_ | refine zNf ?_ | (refine zGf (fun hg => ?_) fun hg => ?_; case' _ => refine zP (ap_len_str rfl rfl) ?_)
    all_goals first | (refine zY ?_; refine zP (ap_arithw rfl rfl rfl) ?_) | refine zU ?_ | refine zNf ?_ | (refine zGf (fun hg => ?_) fun hg => ?_; case' _ => refine zP (ap_arithw rfl rfl rfl) ?_)
    all_goals first | (refine zY ?_; refine zCm ?_) | refine zU ?_ | refine zNf ?_ | (refine zGf (fun hg => ?_) fun hg => ?_; case' _ => refine zCm ?_)
    all_goals refine zPk ?_
    all_goals (
      refine zN ?_
      refine zC (fun hc => ?_) fun hc => ?_
      · first
        | (exact absurd hc (by decide))
        | (refine awp_seq ?_
           refine awp_region ?_; refine zAs ?_; refine zN ?_; refine awp_ret ?_; refine blockQ_r ?_; refine seqQ_r ?_; refine seqQ_r ?_; refine blockQ_r ?_; refine seqQ_r ?_
           exact post_ret (.tmp rfl .nil) zKeep ⟨false, rfl, fun h => (by cases h), rfl⟩
          )
      · first
        | (exact absurd hc (by decide))
        | (have q15 : ¬ ((x.t.nodes.map D.i).length : Int) > 12 := (of_decide_eq_false (by with_reducible assumption))
           have q21 : ¬ ((avs x.t.inner).length : Int) > 0 := (of_decide_eq_false (by with_reducible assumption))
           have h15 : x.t.nodes.length ≤ 12 := by omega
           have h21 : x.t.inner.length = 0 := by omega
           refine awp_skip ?_; refine blockQ_n ?_; refine seqQ_n ?_; refine awp_region ?_; refine zAr ?_; refine zMv ?_; refine zN ?_
           refine ⟨k + 1, ⟨by omega, take_all hI hx (size_flat h15 h21)⟩, by omega, wk zSub zKeep⟩
          )
      )
  · have hge := of_decide_eq_false hc
    rw [List.take_of_length_le (by omega)] at hI
    refine awp_exit ?_; refine seqQ_x ?_; refine seqQ_x ?_; refine blockQ_x rfl ?_; refine seqQ_n ?_; refine zS ?_; refine zF 18 1 false ?_; refine zL1 ?_
    first | refine aops_len rfl rfl rfl rfl (fun _ => ?_) | refine zP (ap_len_arr rfl zUpd rfl) ?_ | refine zP (ap_len_nil rfl rfl) ?_
    refine zCm ?_; refine zMv ?_
    all_goals first | (refine zY ?_; refine zF 3 3 true ?_) | refine zU ?_ | refine zNt ?_ | (refine zGt (fun hg => ?_) fun hg => ?_; case' _ => refine zF 3 3 true ?_)
    all_goals first | (refine zY ?_; refine zF 1 1 false ?_) | refine zU ?_ | refine zNt ?_ | (refine zGt (fun hg => ?_) fun hg => ?_; case' _ => refine zF 1 1 false ?_)
    all_goals first | (refine zY ?_; refine zL1 ?_) | refine zU ?_ | refine zNt ?_ | (refine zGt (fun hg => ?_) fun hg => ?_; case' _ => refine zL1 ?_)
    all_goals first | (refine zY ?_; (first | refine aops_len rfl rfl rfl rfl (fun _ => ?_) | refine zP (ap_len_arr rfl zUpd rfl) ?_ | refine zP (ap_len_nil rfl rfl) ?_)) | refine zU ?_ | refine zNt ?_ | (refine zGt (fun hg => ?_) fun hg => ?_; case' _ => (first | refine aops_len rfl rfl rfl rfl (fun _ => ?_) | refine zP (ap_len_arr rfl zUpd rfl) ?_ | refine zP (ap_len_nil rfl rfl) ?_))
    all_goals first | (refine zY ?_; refine zCm ?_) | refine zU ?_ | refine zNt ?_ | (refine zGt (fun hg => ?_) fun hg => ?_; case' _ => refine zCm ?_)
    all_goals refine zPk ?_
    all_goals refine zMv ?_
    all_goals first | (refine zY ?_; refine zF 3 3 true ?_) | refine zU ?_ | refine zNt ?_ | (refine zGt (fun hg => ?_) fun hg => ?_; case' _ => refine zF 3 3 true ?_)
    all_goals first | (refine zY ?_; refine zF 2 1 false ?_) | refine zU ?_ | refine zNt ?_ | (refine zGt (fun hg => ?_) fun hg => ?_; case' _ => refine zF 2 1 false ?_)
    all_goals first | (refine zY ?_; refine zL1 ?_) | refine zU ?_ | refine zNt ?_ | (refine zGt (fun hg => ?_) fun hg => ?_; case' _ => refine zL1 ?_)
    all_goals first | (refine zY ?_; (first | refine aops_len rfl rfl rfl rfl (fun _ => ?_) | refine zP (ap_len_arr rfl zUpd rfl) ?_ | refine zP (ap_len_nil rfl rfl) ?_)) | refine zU ?_ | refine zNt ?_ | (refine zGt (fun hg => ?_) fun hg => ?_; case' _ => (first | refine aops_len rfl rfl rfl rfl (fun _ => ?_) | refine zP (ap_len_arr rfl zUpd rfl) ?_ | refine zP (ap_len_nil rfl rfl) ?_))
    all_goals first | (refine zY ?_; refine zCm ?_) | refine zU ?_ | refine zNt ?_ | (refine zGt (fun hg => ?_) fun hg => ?_; case' _ => refine zCm ?_)
    all_goals refine zPk ?_
    all_goals refine zMv ?_
    all_goals first | (refine zY ?_; refine zF 17 1 false ?_) | refine zU ?_ | refine zNt ?_ | (refine zGt (fun hg => ?_) fun hg => ?_; case' _ => refine zF 17 1 false ?_)
    all_goals first | (refine zY ?_; refine zL1 ?_) | refine zU ?_ | refine zNt ?_ | (refine zGt (fun hg => ?_) fun hg => ?_; case' _ => refine zL1 ?_)
    all_goals first | (refine zY ?_; refine zP (ap_len_str rfl rfl) ?_) | refine zU ?_ | refine zNt ?_ | (refine zGt (fun hg => ?_) fun hg => ?_; case' _ => refine zP (ap_len_str rfl rfl) ?_)
    all_goals first | (refine zY ?_; refine zF 7 2 true ?_) | refine zU ?_ | refine zNt ?_ | (refine zGt (fun hg => ?_) fun hg => ?_; case' _ => refine zF 7 2 true ?_)
    all_goals first | (refine zY ?_; refine zF 1 1 false ?_) | refine zU ?_ | refine zNt ?_ | (refine zGt (fun hg => ?_) fun hg => ?_; case' _ => refine zF 1 1 false ?_)
    all_goals first | (refine zY ?_; refine zL1 ?_) | refine zU ?_ | refine zNt ?_ | (refine zGt (fun hg => ?_) fun hg => ?_; case' _ => refine zL1 ?_)
    all_goals first | (refine zY ?_; refine zP (ap_len_str rfl rfl) ?_) | refine zU ?_ | refine zNt ?_ | (refine zGt (fun hg => ?_) fun hg => ?_; case' _ => refine zP (ap_len_str rfl rfl) ?_)
    all_goals first | (refine zY ?_; refine zP (ap_arithw rfl rfl rfl) ?_) | refine zU ?_ | refine zNt ?_ | (refine zGt (fun hg => ?_) fun hg => ?_; case' _ => refine zP (ap_arithw rfl rfl rfl) ?_)
    all_goals first | (refine zY ?_; refine zF 9 2 true ?_) | refine zU ?_ | refine zNt ?_ | (refine zGt (fun hg => ?_) fun hg => ?_; case' _ => refine zF 9 2 true ?_)
    all_goals first | (refine zY ?_; refine zF 1 1 false ?_) | refine zU ?_ | refine zNt ?_ | (refine zGt (fun hg => ?_) fun hg => ?_; case' _ => refine zF 1 1 false ?_)
    all_goals first | (refine zY ?_; refine zL1 ?_) | refine zU ?_ | refine zNt ?_ | (refine zGt (fun hg => ?_) fun hg => ?_; case' _ => refine zL1 ?_)
    all_goals first | (refine zY ?_; refine zP (ap_len_str rfl rfl) ?_) | refine zU ?_ | refine zNt ?_ | (refine zGt (fun hg => ?_) fun hg => ?_; case' _ => refine zP (ap_len_str rfl rfl) ?_)
    all_goals first | (refine zY ?_; refine zP (ap_arithw rfl rfl rfl) ?_) | refine zU ?_ | refine zNt ?_ | (refine zGt (fun hg => ?_) fun hg => ?_; case' _ => refine zP (ap_arithw rfl rfl rfl) ?_)
    all_goals first | (refine zY ?_; refine zF 11 2 true ?_) | refine zU ?_ | refine zNt ?_ | (refine zGt (fun hg => ?_) fun hg => ?_; case' _ => refine zF 11 2 true ?_)
    all_goals first | (refine zY ?_; refine zF 1 1 false ?_) | refine zU ?_ | refine zNt ?_ | (refine zGt (fun hg => ?_) fun hg => ?_; case' _ => refine zF 1 1 false ?_)
    all_goals first | (refine zY ?_; refine zL1 ?_) | refine zU ?_ | refine zNt ?_ | (refine zGt (fun hg => ?_) fun hg => ?_; case' _ => refine zL1 ?_)
    all_goals first | (refine zY ?_; refine zP (ap_len_str rfl rfl) ?_) | refine zU ?_ | refine zNt ?_ | (refine zGt (fun hg => ?_) fun hg => ?_; case' _ => refine zP (ap_len_str rfl rfl) ?_)
    all_goals first | (refine zY ?_; refine zP (ap_arithw rfl rfl rfl) ?_) | refine zU ?_ | refine zNt ?_ | (refine zGt (fun hg => ?_) fun hg => ?_; case' _ => refine zP (ap_arithw rfl rfl rfl) ?_)
    all_goals first | (refine zY ?_; refine zF 13 2 true ?_) | refine zU ?_ | refine zNt ?_ | (refine zGt (fun hg => ?_) fun hg => ?_; case' _ => refine zF 13 2 true ?_)
    all_goals first | (refine zY ?_; refine zF 1 1 false ?_) | refine zU ?_ | refine zNt ?_ | (refine zGt (fun hg => ?_) fun hg => ?_; case' _ => refine zF 1 1 false ?_)
    all_goals first | (refine zY ?_; refine zL1 ?_) | refine zU ?_ | refine zNt ?_ | (refine zGt (fun hg => ?_) fun hg => ?_; case' _ => refine zL1 ?_)
    all_goals first | (refine zY ?_; refine zP (ap_len_str rfl rfl) ?_) | refine zU ?_ | refine zNt ?_ | (refine zGt (fun hg => ?_) fun hg => ?_; case' _ => refine zP (ap_len_str rfl rfl) ?_)
    all_goals first | (refine zY ?_; refine zP (ap_arithw rfl rfl rfl) ?_) | refine zU ?_ | refine zNt ?_ | (refine zGt (fun hg => ?_) fun hg => ?_; case' _ => refine zP (ap_arithw rfl rfl rfl) ?_)
    all_goals first | (refine zY ?_; refine zCm ?_) | refine zU ?_ | refine zNt ?_ | (refine zGt (fun hg => ?_) fun hg => ?_; case' _ => refine zCm ?_)
    all_goals refine zPk ?_
    all_goals refine zAs ?_
    all_goals (
      refine zN ?_; refine awp_ret ?_
      first | exact post_ret (.tmp rfl .nil) zKeep ⟨false, rfl, fun h => (by cases h), rfl⟩ | (have q44 : ((m.heard.map ev).length : Int) ≤ 10 := (of_decide_eq_true (by with_reducible assumption)); have q50 : ((m.t.nodes.map D.i).length : Int) ≤ 12 := (of_decide_eq_true (by with_reducible assumption)); have q57 : ((avs m.t.inner).length : Int) = 0 := (of_decide_eq_true (by with_reducible assumption)); exact post_ret (.tmp rfl .nil) zKeep ⟨_, rfl, fun _ => ⟨by omega, size_flat (by omega) (by omega), hI⟩, rfl⟩)
      )
theorem SPick_con (b : Nat) (l : List Int) (a : Nat) (q : List Int) (h : q ≠ [] ∧ q.length ≤ 1000) : Con Tryz.prog 29 [.p b 0, .sl 1 (q.map .i)] [.box b 54 [.sl 1 (l.map .i), .i ((a : Nat) : Int)]] (fun d H => ∃ (r : Int) (a' : Nat), d = .i r ∧ r ∈ q ∧ H = [.box b 54 [.sl 1 (l.map .i), .i ((a' : Nat) : Int)]]) := by
  have hcap : capB = 140737488355328 := rfl
  have hl1 : (q.map D.i).length = q.length := by simp
  have hl2 : 0 < q.length := List.length_pos_iff.2 h.1
  refine con_intro Tryz.func29 rfl Tryz.call29 rfl ?_
  refine zS ?_; refine zAs ?_; refine zN (zS ?_); refine zMv ?_; refine zMv ?_; refine zMv ?_
  first | refine aops_len rfl rfl rfl rfl (fun _ => ?_) | refine zP (ap_len_arr rfl zUpd rfl) ?_ | refine zP (ap_len_nil rfl rfl) ?_
  (refine aops_call zRc (SN_con _ _ _ _ (by omega)) zSplit rfl rfl ?_; rintro _ _ ⟨r9, a9, rfl, hr9, rfl⟩)
  obtain ⟨j, rfl⟩ := Int.eq_ofNat_of_zero_le hr9.1; obtain ⟨x, hx, _⟩ := drop_cons (l := q) (k := j) (by omega); have hx' := getMap D.i hx; refine zP (ap_index rfl rfl rfl rfl (by decide) rfl hx') ?_
  refine zL1 ?_; refine zAs ?_; refine zN ?_; refine awp_ret ?_
  refine post_ret (.tmp rfl .nil) zKeep ⟨_, _, rfl, List.mem_of_getElem? hx, rfl⟩
theorem SOdd_con (b : Nat) (l : List Int) (a : Nat) : Con Tryz.prog 10 [.p b 0] [.box b 54 [.sl 1 (l.map .i), .i ((a : Nat) : Int)]] (fun d H => ∃ (r : Int) (a' : Nat), d = .i r ∧ -9223372036854775808 ≤ r ∧ H = [.box b 54 [.sl 1 (l.map .i), .i ((a' : Nat) : Int)]]) := by
  have hcap : capB = 140737488355328 := rfl
  refine con_intro Tryz.func10 rfl Tryz.call10 rfl ?_
  refine zS ?_; refine zAs ?_; refine zN (zS ?_); refine zMv ?_
  refine aops_lit (e := 3) (sz := 1) (by_ := 8) rfl rfl zRc rfl rfl rfl rfl ?_
  (refine aops_call zRc (SPick_con _ _ _ [-1,0,1,2,9223372036854775807,-9223372036854775808,1000000000000,1000000000001,1000000,1000001,1000000,1000,1001,1000,1001] (by decide)) zSplit rfl rfl ?_; rintro _ _ ⟨r5, a5, rfl, hr5, rfl⟩; have hrb : -9223372036854775808 ≤ r5 := (by simp at hr5; omega))
  refine zAs ?_; refine zN ?_; refine awp_ret ?_
  refine post_ret (.tmp rfl .nil) zKeep ⟨_, _, rfl, hrb, rfl⟩
def GoodM (m : Mach) : Prop := m.heard.length ≤ 900000 ∧ sizeT m.t ≤ 200000 ∧ ∀ e ∈ m.heard, sizeT e.t ≤ 200000
theorem good_few {m : Mach} (h : FewM m) : GoodM m := ⟨by have := h.1; omega, by have := h.2.1; omega, fun e he => by have := h.2.2 e he; omega⟩
theorem good_inv {m : Mach} (h : InvM m) : GoodM m := ⟨by have := h.hl; omega, by have := h.sz; omega, fun e he => by have := (h.hs e he).1; omega⟩
theorem good_alone : GoodM aloneM := ⟨by decide, by decide, fun e he => absurd he List.not_mem_nil⟩
set_option maxHeartbeats 8000000 in
theorem texact_con (l : List Int) (x : Tm) (raw : Mach) (now n : Int) (hnow : -9223372036854775808 ≤ now ∧ now ≤ 9223372036854775807) (hn : -9223372036854775808 ≤ n ∧ n ≤ 9223372036854775807) : Con Tryz.prog 3 [.sl 1 (l.map .i), tmv x, mcv raw, .i now, .i n] [] (Is (.b true) []) := by
  have hcap : capB = 140737488355328 := rfl
  refine con_intro Tryz.func3 rfl Tryz.call3 rfl ?_
  refine zS ?_
  refine aops_box rfl zFlat rfl rfl (fun b6 => ?_)
  refine aops_box rfl zFlat rfl rfl (fun b7 => ?_)
  refine zAs ?_; refine zN ?_; refine awp_seq ?_; refine zS ?_; refine zLd ?_
  (refine aops_call zRc (few_con raw) zSplit rfl rfl ?_; rintro _ _ ⟨cf, rfl, hfew, rfl⟩)
  refine zNo ?_; refine zN ?_
  refine zC (fun hc => ?_) fun hc => ?_
  · refine awp_seq ?_
    refine awp_region ?_
    refine aops_call_v zRc (sane28_con) rfl rfl ?_
    refine zAs ?_; refine zN ?_; refine awp_ret ?_; refine seqQ_r ?_
    first | (refine post_is (.tmp rfl .nil) zKeep (bcl ?_); rfl) | (exfalso; simp at hc; done) | (exfalso; simp at hg; done)
  · have hF : FewM raw := hfew (not_f hc)
    refine awp_skip ?_; refine seqQ_n ?_; refine zS ?_; refine zMv ?_
    (refine aops_call zRc (SNew_con l) zSplit rfl rfl ?_; rintro _ _ ⟨b30, rfl, rfl⟩)
    refine zAs ?_; refine zN (zS ?_); refine zMv ?_
    (refine aops_call zRc (made_con _ _ _) zSplit rfl rfl ?_; rintro _ _ ⟨m, a32, rfl, ⟨hI, hl7⟩, rfl⟩)
    refine aops_alloc rfl zRc rfl rfl (fun b12 => ?_)
    refine zSt ?_; refine zN ?_; refine awp_seq ?_; refine zS ?_; refine zMv ?_; refine zMv ?_
    (refine aops_call zRc (SOdd_con _ _ _) zSplit rfl rfl ?_; rintro _ _ ⟨r35, a35, rfl, hr35, rfl⟩)
    refine zMv ?_
    (refine aops_call zRc (SRange_con _ _ _ _ _ (by omega)) zSplit rfl rfl ?_; rintro _ _ ⟨r37, a37, rfl, hr37, rfl⟩)
    refine zP (ap_buildA rfl rfl rfl zRc zFill) ?_
    refine zMv ?_; refine zN ?_; refine awp_block ?_
    refine awp_loop1 [3, 6, 7, 11, 12, 38] [.box b6 _ _, .box b7 _ _, .box b12 _ _, .box b30 _ _] (fun (k : Nat) r => (39, .i (k : Int)) :: r) (fun (k : Nat) r => r) (fun (k : Nat) => k ≤ 3) (fun (k : Nat) => 3 - k) (0) zRc (by omega) (wk zSub zKeep) ?_
    intro k hk
    refine zS ?_; refine zCm ?_; refine zN ?_; refine awp_seq ?_
    refine zC (fun hc => ?_) fun hc => ?_
    · have hlt := of_decide_eq_true hc
      refine awp_skip ?_; refine seqQ_n ?_; refine awp_seq ?_; refine awp_block ?_; refine zS ?_
      refine aops_pex D.i (fun z => -9223372036854775808 ≤ z) (by rcases (show k = 0 ∨ k = 1 ∨ k = 2 by omega) with rfl | rfl | rfl; exact ⟨n, hn.1, ap_indexA1 rfl rfl rfl rfl rfl rfl (by omega) zRc⟩; exact ⟨r35, hr35, ap_indexA1 rfl rfl rfl rfl rfl rfl (by omega) zRc⟩; exact ⟨r37, (by omega), ap_indexA1 rfl rfl rfl rfl rfl rfl (by omega) zRc⟩) rfl rfl rfl (fun z hz => ?_)
      refine zAs ?_; refine zN (zS ?_); refine zMv ?_
      refine aops_call_v zRc (wait_con _) rfl rfl ?_
      refine zMv ?_
      refine aops_call_v zRc (rwait_con z hz) rfl rfl ?_
      refine zCm ?_; refine zN ?_
      refine zC (fun hc => ?_) fun hc => ?_
      · first
        | (exact absurd hc (by decide))
        | (exfalso; simp at hc; done)
        | (refine awp_seq ?_
           refine awp_region ?_; refine zAs ?_; refine zN ?_; refine awp_ret ?_; refine blockQ_r ?_; refine seqQ_r ?_; refine seqQ_r ?_; refine blockQ_r ?_; refine seqQ_r ?_
           first | (refine post_is (.tmp rfl .nil) zKeep (bcl ?_); rfl) | (exfalso; simp at hc; done) | (exfalso; simp at hg; done)
          )
      · first
        | (exact absurd hc (by decide))
        | (exfalso; simp at hc; done)
        | (refine awp_skip ?_
           refine blockQ_n ?_; refine seqQ_n ?_; refine awp_region ?_; refine zAr ?_; refine zMv ?_; refine zN ?_
           refine ⟨k + 1, by omega, by omega, wk zSub zKeep⟩
          )
    · refine awp_exit ?_
      refine seqQ_x ?_; refine seqQ_x ?_; refine blockQ_x rfl ?_; refine seqQ_n ?_; refine awp_seq ?_; refine awp_seq ?_
      refine awp_draw (Hm := []) zKr zSplit ?_
      refine zTM 0 ?_; refine zTM 1 ?_
      refine zT 4 rfl (AP.ar (ap_move rfl)) ?_
      refine aany_one 2 zKr rfl (.none rfl) ?_
      refine aops_call_v zRc (alone_con) rfl rfl ?_
      refine aops_nil ?_
      refine zT 3 rfl (AP.ar (ap_buildA rfl rfl rfl zRc zFill)) ?_
      refine aany_nil zKr ?_
      all_goals (
        refine seqQ_n ?_; refine awp_block ?_
        refine awp_loop2 [3, 6, 11, 51] [.box b6 _ _] (fun (k : Nat) (a : Nat) r => (52, .i (k : Int)) :: r) (fun (k : Nat) (a : Nat) r => .box b30 54 [.sl 1 ((l.take 800).map .i), .i ((a : Nat) : Int)] :: r) (fun (k : Nat) (a : Nat) => k ≤ 3) (fun (k : Nat) (a : Nat) => 3 - k) (0) (a37) zRc (by omega) (wk zSub zKeep) ?_
        intro k a hk
        refine zS ?_; refine zCm ?_; refine zN ?_; refine awp_seq ?_
        refine zC (fun hc => ?_) fun hc => ?_
        · have hlt := of_decide_eq_true hc
          refine awp_skip ?_; refine seqQ_n ?_; refine awp_seq ?_; refine awp_block ?_; refine zS ?_
          refine aops_pex mcv GoodM (by rcases (show k = 0 ∨ k = 1 ∨ k = 2 by omega) with rfl | rfl | rfl; exact ⟨m, good_inv hI, ap_indexA rfl rfl rfl rfl rfl rfl (by omega) zRc⟩; exact ⟨raw, good_few hF, ap_indexA rfl rfl rfl rfl rfl rfl (by omega) zRc⟩; exact ⟨aloneM, good_alone, ap_indexA rfl rfl rfl rfl rfl rfl (by omega) zRc⟩) rfl rfl rfl (fun y hgy => ?_)
          refine aops_alloc rfl zRc rfl rfl (fun b16 => ?_)
          refine zSt ?_; refine zN ?_; refine awp_seq ?_; refine awp_seq ?_
          refine awp_draw (Hm := []) zKr zSplit ?_
          refine zTM 0 ?_; refine zTM 2 ?_
          refine aany_one 1 zKr rfl (.none rfl) ?_
          refine aops_call_v zRc (tog_con y hgy.1 hgy.2.1 hgy.2.2) rfl rfl ?_
          refine aops_nil ?_
          refine aany_one 3 zKr rfl (.none rfl) ?_
          refine aops_call_v zRc (rtog_con y hgy.1 hgy.2.1 hgy.2.2) rfl rfl ?_
          refine aops_nil ?_
          refine zT 4 rfl (AP.ar (ap_neb rfl rfl rfl)) ?_
          refine aany_nil zKr ?_
          all_goals (
            refine seqQ_n ?_
            refine zC (fun hc => ?_) fun hc => ?_
            · first
              | (exact absurd hc (by decide))
              | (exfalso; simp at hc; done)
              | (refine awp_seq ?_
                 refine awp_region ?_; refine zAs ?_; refine zN ?_; refine awp_ret ?_; refine seqQ_r ?_; refine blockQ_r ?_; refine seqQ_r ?_; refine seqQ_r ?_; refine blockQ_r ?_; refine seqQ_r ?_
                 first | (refine post_is (.tmp rfl .nil) zKeep (bcl ?_); rfl) | (exfalso; simp at hc; done) | (exfalso; simp at hg; done)
                )
            · first
              | (exact absurd hc (by decide))
              | (exfalso; simp at hc; done)
              | (refine awp_skip ?_
                 refine seqQ_n ?_; refine awp_seq ?_
                 refine awp_draw (Hm := [.box b30 _ _]) zKr zSplit ?_
                 refine zTM 0 ?_
                 refine zT 1 rfl (AP.ar (ap_build zKr rfl zRc zFill)) ?_
                 refine zTF 2 7 2 true ?_; refine zTF 3 0 1 false ?_; refine zTL 4 ?_
                 refine zT 5 rfl (AP.ar (ap_move rfl)) ?_
                 refine zT 8 rfl (AP.ar (ap_move rfl)) ?_
                 refine zT 10 rfl (AP.ar (ap_move rfl)) ?_
                 refine zT 14 rfl (AP.ar (ap_move rfl)) ?_
                 refine aany_one 6 zKr rfl (.none rfl) ?_
                 (refine aops_call zRc (SRange_con _ _ _ _ _ (by omega)) zSplit rfl rfl ?_; rintro _ _ ⟨r66, a66, rfl, hr66, rfl⟩)
                 refine aops_nil ?_
                 refine zT 7 rfl (AP.ar (ap_build zKr rfl zRc zFill)) ?_
                 refine aany_one 9 zKr rfl (.none rfl) ?_
                 (refine aops_call zRc (SOdd_con _ _ _) zSplit rfl rfl ?_; rintro _ _ ⟨r69, a69, rfl, hr69, rfl⟩)
                 refine aops_nil ?_
                 refine aany_one 11 zKr rfl (.none rfl) ?_
                 (refine aops_call zRc (SRange_con _ _ _ _ _ (by omega)) zSplit rfl rfl ?_; rintro _ _ ⟨r71, a71, rfl, hr71, rfl⟩)
                 refine aops_nil ?_
                 refine zT 12 rfl (AP.ar (ap_build zKr rfl zRc zFill)) ?_
                 refine zT 13 rfl (AP.ar (ap_buildA rfl rfl rfl zRc zFill)) ?_
                 refine aany_nil zKr ?_
                 all_goals (
                   refine seqQ_n ?_; refine awp_block ?_
                   refine awp_loop2 [3, 6, 11, 16, 51, 52, 73] [.box b6 _ _, .box b16 _ _] (fun (j : Nat) (a : Nat) r => (74, .i (j : Int)) :: r) (fun (j : Nat) (a : Nat) r => .box b30 54 [.sl 1 ((l.take 800).map .i), .i ((a : Nat) : Int)] :: r) (fun (j : Nat) (a : Nat) => j ≤ 4) (fun (j : Nat) (a : Nat) => 4 - j) (0) (a71) zRc (by omega) (wk zSub zKeep) ?_
                   intro j a hj
                   refine zS ?_; refine zCm ?_; refine zN ?_; refine awp_seq ?_
                   refine zC (fun hc => ?_) fun hc => ?_
                   · have hlt := of_decide_eq_true hc
                     refine awp_skip ?_; refine seqQ_n ?_; refine awp_seq ?_; refine awp_block ?_; refine zS ?_
                     refine aops_pex tmv (fun _ => True) (by rcases (show j = 0 ∨ j = 1 ∨ j = 2 ∨ j = 3 by omega) with rfl | rfl | rfl | rfl; exact ⟨x, trivial, ap_indexA rfl rfl rfl rfl rfl rfl (by omega) zRc⟩; exact ⟨⟨0, -1⟩, trivial, ap_indexA rfl rfl rfl rfl rfl rfl (by omega) zRc⟩; exact ⟨⟨y.bal.n, r66⟩, trivial, ap_indexA rfl rfl rfl rfl rfl rfl (by omega) zRc⟩; exact ⟨⟨r69, r71⟩, trivial, ap_indexA rfl rfl rfl rfl rfl rfl (by omega) zRc⟩) rfl rfl rfl (fun u _ => ?_)
                     refine aops_alloc rfl zRc rfl rfl (fun b18 => ?_)
                     refine zSt ?_; refine zN ?_; refine awp_seq ?_; refine awp_seq ?_
                     refine awp_draw (Hm := []) zKr zSplit ?_
                     refine zTM 0 ?_; refine zTM 2 ?_
                     refine aany_one 1 zKr rfl (.none rfl) ?_
                     refine aops_call_v zRc (tvalid_con u) rfl rfl ?_
                     refine aops_nil ?_
                     refine aany_one 3 zKr rfl (.none rfl) ?_
                     refine aops_call_v zRc (rtvalid_con u) rfl rfl ?_
                     refine aops_nil ?_
                     refine zT 4 rfl (AP.ar (ap_neb rfl rfl rfl)) ?_
                     refine aany_nil zKr ?_
                     all_goals (
                       refine seqQ_n ?_
                       refine zC (fun hc => ?_) fun hc => ?_
                       · first
                         | (exact absurd hc (by decide))
                         | (exfalso; simp at hc; done)
                         | (refine awp_seq ?_
                            refine awp_region ?_; refine zAs ?_; refine zN ?_; refine awp_ret ?_; refine seqQ_r ?_; refine blockQ_r ?_; refine seqQ_r ?_; refine seqQ_r ?_; refine blockQ_r ?_; refine blockQ_r ?_; refine seqQ_r ?_; refine seqQ_r ?_; refine blockQ_r ?_; refine seqQ_r ?_
                            first | (refine post_is (.tmp rfl .nil) zKeep (bcl ?_); rfl) | (exfalso; simp at hc; done) | (exfalso; simp at hg; done)
                           )
                       · first
                         | (exact absurd hc (by decide))
                         | (exfalso; simp at hc; done)
                         | (refine awp_skip ?_
                            refine seqQ_n ?_; refine zS ?_; refine zMv ?_; refine zMv ?_
                            (refine aops_call zRc (SRange_con _ _ _ _ _ (by omega)) zSplit rfl rfl ?_; rintro _ _ ⟨r84, a84, rfl, hr84, rfl⟩)
                            refine zP (ap_buildA rfl rfl rfl zRc zFill) ?_
                            refine zMv ?_; refine zN ?_; refine awp_block ?_
                            refine awp_loop1 [3, 6, 11, 16, 18, 51, 52, 73, 74, 85] [.box b6 _ _, .box b16 _ _, .box b18 _ _, .box b30 _ _] (fun (i : Nat) r => (86, .i (i : Int)) :: r) (fun (i : Nat) r => r) (fun (i : Nat) => i ≤ 2) (fun (i : Nat) => 2 - i) (0) zRc (by omega) (wk zSub zKeep) ?_
                            intro i hi
                            refine zS ?_; refine zCm ?_; refine zN ?_; refine awp_seq ?_
                            refine zC (fun hc => ?_) fun hc => ?_
                            · have hlt := of_decide_eq_true hc
                              refine awp_skip ?_; refine seqQ_n ?_; refine awp_seq ?_; refine awp_block ?_; refine zS ?_
                              refine aops_pex D.i (fun _ => True) (by rcases (show i = 0 ∨ i = 1 by omega) with rfl | rfl; exact ⟨now, trivial, ap_indexA1 rfl rfl rfl rfl rfl rfl (by omega) zRc⟩; exact ⟨r84, trivial, ap_indexA1 rfl rfl rfl rfl rfl rfl (by omega) zRc⟩) rfl rfl rfl (fun w _ => ?_)
                              refine zAs ?_; refine zN (zS ?_); refine zLd ?_; refine zLd ?_; refine zMv ?_
                              refine aops_call_v zRc (tstep_con u y w hgy.1 hgy.2.1 hgy.2.2) rfl rfl ?_
                              refine zMv ?_
                              refine zP (ap_extract rfl rfl) ?_
                              refine zP (ap_extract rfl rfl) ?_
                              refine aops_alloc rfl zRc rfl rfl (fun b21 => ?_)
                              refine zSt ?_; refine zAs ?_; refine zN (zS ?_); refine zLd ?_; refine zLd ?_; refine zMv ?_
                              refine aops_call_v zRc (rtstep_con u y w hgy.1 hgy.2.1 hgy.2.2) rfl rfl ?_
                              refine zMv ?_
                              refine zP (ap_extract rfl rfl) ?_
                              refine zP (ap_extract rfl rfl) ?_
                              refine aops_alloc rfl zRc rfl rfl (fun b23 => ?_)
                              refine zSt ?_; refine zAs ?_; refine zN (zS ?_); refine zLd ?_; refine zLd ?_
                              refine zP (ap_ne2 rfl rfl eq2_24) ?_
                              refine zMv ?_
                              all_goals first | (refine zY ?_; refine zMv ?_) | refine zU ?_ | refine zNf ?_ | (refine zGf (fun hg => ?_) fun hg => ?_; case' _ => refine zMv ?_)
                              all_goals first | (refine zY ?_; refine zMv ?_) | refine zU ?_ | refine zNf ?_ | (refine zGf (fun hg => ?_) fun hg => ?_; case' _ => refine zMv ?_)
                              all_goals first | (refine zY ?_; refine zP (ap_neb rfl rfl rfl) ?_) | refine zU ?_ | refine zNf ?_ | (refine zGf (fun hg => ?_) fun hg => ?_; case' _ => refine zP (ap_neb rfl rfl rfl) ?_)
                              all_goals refine zPk ?_
                              all_goals (
                                refine zN ?_
                                refine zC (fun hc => ?_) fun hc => ?_
                                · first
                                  | (exact absurd hc (by decide))
                                  | (exfalso; simp at hc; done)
                                  | (exfalso; simp at hg; done)
                                  | (refine awp_seq ?_
                                     refine awp_region ?_; refine zAs ?_; refine zN ?_; refine awp_ret ?_; refine blockQ_r ?_; refine seqQ_r ?_; refine seqQ_r ?_; refine blockQ_r ?_; refine blockQ_r ?_; refine seqQ_r ?_; refine seqQ_r ?_; refine blockQ_r ?_; refine blockQ_r ?_; refine seqQ_r ?_; refine seqQ_r ?_; refine blockQ_r ?_; refine seqQ_r ?_
                                     first | (refine post_is (.tmp rfl .nil) zKeep (bcl ?_); rfl) | (exfalso; simp at hc; done) | (exfalso; simp at hg; done)
                                    )
                                · first
                                  | (exact absurd hc (by decide))
                                  | (exfalso; simp at hc; done)
                                  | (exfalso; simp at hg; done)
                                  | (refine awp_skip ?_
                                     refine blockQ_n ?_; refine seqQ_n ?_; refine awp_region ?_; refine zAr ?_; refine zMv ?_; refine zN ?_
                                     refine ⟨i + 1, by omega, by omega, wk zSub zKeep⟩
                                    )
                                )
                            · refine awp_exit ?_
                              refine seqQ_x ?_; refine seqQ_x ?_; refine blockQ_x rfl ?_; refine blockQ_n ?_; refine seqQ_n ?_; refine awp_region ?_; refine zAr ?_; refine zMv ?_; refine zN ?_
                              refine ⟨j + 1, _, by omega, by omega, wk zSub zKeep⟩
                           )
                       )
                   · refine awp_exit ?_
                     refine seqQ_x ?_; refine seqQ_x ?_; refine blockQ_x rfl ?_; refine blockQ_n ?_; refine seqQ_n ?_; refine awp_region ?_; refine zAr ?_; refine zMv ?_; refine zN ?_
                     refine ⟨k + 1, _, by omega, by omega, wk zSub zKeep⟩
                   )
                )
            )
        · refine awp_exit ?_
          refine seqQ_x ?_; refine seqQ_x ?_; refine blockQ_x rfl ?_; refine seqQ_n ?_; refine zS ?_
          refine aops_call_v zRc (sane28_con) rfl rfl ?_
          refine zAs ?_; refine zN ?_; refine awp_ret ?_
          first | (refine post_is (.tmp rfl .nil) zKeep (bcl ?_); rfl) | (exfalso; simp at hc; done) | (exfalso; simp at hg; done)
        )
end Go.Proofs.YtegejdhkckndaaaGreat
