/- The walks of: of_con, indexF_con, containsF_con, lev1_con, level_con, validT_con, rsameI_con, rsame_con, relim0_con, relimN_con, relim_con, rgreat0_con, rgreatN_con, rgreat_con, nani_con, nans_con, cmpi_con, cmps_con, orL_con, or_con, cv_con, cm_con, bz_con, bc_con, bl_con, bval_con, bcov_con, bab_con, bpr_con, eat_con, efin_con, eopt_con, eprep_con, evalid_con, ctrust_con, cenv_con, call_con, mmsg_con, mfresh_con. Each says what one function of the program answers, for the arguments that its statement names. No condition beyond what each theorem says. -/
import Derived.Test.YtegejdhkckndaaaGreatTimersExactW1
import Derived.Test.YtegejdhkckndaaaGreatProg
import Derived.KernelRfl
import Derived.Tactics
import Derived.Tactics2
import Derived.StillTactics
set_option linter.unusedVariables false
set_option linter.unusedSimpArgs false
set_option linter.unnecessarySimpa false
set_option maxRecDepth 4000
namespace Go.Proofs.YtegejdhkckndaaaGreat
open Go Go.Av Go.Tq
theorem of_con (l : List Int) : Con Tryz.prog 125 [.sl 1 (l.map .i)] [] (Is (.tup [.i (ofGo 0 l).1, .i (ofGo 0 l).2]) []) := by
  have hcap : capB = 140737488355328 := rfl
  have hl1 : (l.map D.i).length = l.length := by simp
  refine con_intro Tryz.func125 rfl Tryz.call125 rfl ?_
  refine zS ?_; refine zAs ?_; refine zAs ?_; refine zN (zS ?_); refine zAs ?_; refine zN ?_; refine awp_seq ?_; refine zS ?_; refine zMv ?_
  first | refine aops_len rfl rfl rfl rfl (fun _ => ?_) | refine zP (ap_len_arr rfl zUpd rfl) ?_ | refine zP (ap_len_nil rfl rfl) ?_
  refine zMv ?_; refine zN ?_; refine awp_block ?_
  refine awp_loop2 [7, 8] [] (fun (k : Nat) (s : Nat) r => (4, .i (s : Int)) :: (9, .i (k : Int)) :: r) (fun (k : Nat) (s : Nat) r => r) (fun (k : Nat) (s : Nat) => k ≤ l.length ∧ s < 1024 ∧ ofGo s (l.drop k) = ofGo 0 l) (fun (k : Nat) (s : Nat) => l.length - k) (0) (0) zRc ⟨by omega, by omega, by simp⟩ (wk zSub zKeep) ?_
  intro k s ⟨hk, hs, hI⟩
  refine zS ?_; refine zCm ?_; refine zN ?_; refine awp_seq ?_
  refine zC (fun hc => ?_) fun hc => ?_
  · have hlt : k < l.length := by have := of_decide_eq_true hc; omega
    obtain ⟨x, hx, hd⟩ := drop_cons hlt
    have hx' := getMap D.i hx
    refine awp_skip ?_; refine seqQ_n ?_; refine awp_seq ?_; refine awp_block ?_; refine zS ?_
    first | refine zP (ap_index rfl rfl rfl rfl (by decide) rfl zAss) ?_ | refine zP (ap_index rfl rfl rfl rfl (by decide) (by omega) zAss) ?_ | refine zP (ap_index_own rfl rfl rfl rfl rfl (by first | omega | (simp only [List.length_map, List.length_set, avs_len]; omega))) ?_
    refine zL1 ?_; refine zAs ?_; refine zN ?_; refine awp_seq ?_; refine zS ?_; refine zMv ?_; refine zCm ?_; refine zMv ?_
    all_goals first | (refine zY ?_; refine zMv ?_) | refine zU ?_ | refine zNf ?_ | (refine zGf (fun hg => ?_) fun hg => ?_; case' _ => refine zMv ?_)
    all_goals first | (refine zY ?_; refine zCm ?_) | refine zU ?_ | refine zNf ?_ | (refine zGf (fun hg => ?_) fun hg => ?_; case' _ => refine zCm ?_)
    all_goals refine zPk ?_
    all_goals (
      refine zN ?_
      refine zC (fun hc => ?_) fun hc => ?_
      · first
        | (exact absurd hc (by decide))
        | (refine awp_seq ?_
           refine awp_region ?_; refine zAs ?_; refine zAs ?_; refine zN ?_; refine awp_ret ?_; refine seqQ_r ?_; refine blockQ_r ?_; refine seqQ_r ?_; refine seqQ_r ?_; refine blockQ_r ?_; refine seqQ_r ?_
           refine post_is (.tmp rfl (.tmp rfl .nil)) .nil ?_
           rw [hd, ofGo, if_pos (by first | (have := of_decide_eq_true hg; omega) | (have := of_decide_eq_true hc; omega))] at hI
           rw [← hI]; rfl
          )
      · first
        | (exact absurd hc (by decide))
        | (have hc2 := hc
           refine awp_skip ?_; refine seqQ_n ?_; refine awp_seq ?_; refine zS ?_; refine zMv ?_; refine zMv ?_
           refine aops_call_v zRc (has_con _ _) rfl rfl ?_
           refine zN ?_
           refine zC (fun hc => ?_) fun hc => ?_
           · refine awp_seq ?_
             refine awp_region ?_; refine zAs ?_; refine zAs ?_; refine zN ?_; refine awp_ret ?_; refine seqQ_r ?_; refine blockQ_r ?_; refine seqQ_r ?_; refine seqQ_r ?_; refine blockQ_r ?_; refine seqQ_r ?_
             refine post_is (.tmp rfl (.tmp rfl .nil)) .nil ?_
             have h3 := of_decide_eq_false hg
             have h4 := of_decide_eq_false hc2
             rw [hd, ofGo, if_neg (by omega), if_pos hc] at hI
             rw [← hI]; rfl
           · refine awp_skip ?_
             refine seqQ_n ?_
             obtain ⟨q, rfl, hq⟩ := badN_f hg hc2
             have hp2 := pow_lt10 hq
             refine awp_region ?_; refine zMv ?_; refine zMv ?_
             refine zP (ap_shl (p := 1) rfl rfl rfl (by omega) (by omega)) ?_
             refine zP (ap_bits rfl rfl rfl (by omega) (by omega)) ?_
             refine zAs ?_; refine aops_nil ?_; refine blockQ_n ?_; refine seqQ_n ?_; refine awp_region ?_; refine zAr ?_; refine zMv ?_; refine zN ?_
             rw [hd, ofGo, if_neg (by omega), if_neg (by simp [hc])] at hI
             refine ⟨k + 1, s ||| 1 * 2 ^ q, ⟨by omega, or_lt10 hs hq, ?_⟩, by omega, wk zSub zKeep⟩
             simpa using hI
          )
      )
  · have hge : l.length ≤ k := by have := of_decide_eq_false hc; omega
    rw [drop_nil hge] at hI; simp only [ofGo] at hI
    refine awp_exit ?_; refine seqQ_x ?_; refine seqQ_x ?_; refine blockQ_x rfl ?_; refine seqQ_n ?_; refine zS ?_; refine zMv ?_; refine zAs ?_; refine zAs ?_; refine zN ?_; refine awp_ret ?_
    refine post_is (.tmp rfl (.tmp rfl .nil)) .nil ?_
    rw [← hI]; rfl
theorem indexF_con (f : FuncId) (p : Int → Bool) (hf : ∀ k : Int, Con Tryz.prog f [.i k] [] (Is (.b (p k)) [])) (l : List Int) : Con Tryz.prog 143 [.sl 1 (l.map .i), .v (.func (.func f) #[] #[])] [] (fun d H => ∃ r : Int, d = .i r ∧ decide (0 ≤ r) = l.any p ∧ H = []) := by
  have hcap : capB = 140737488355328 := rfl
  have hl1 : (l.map D.i).length = l.length := by simp
  refine con_intro Tryz.func143 rfl Tryz.call143 rfl ?_
  refine zS ?_; refine zAs ?_; refine zN ?_; refine awp_seq ?_; refine zS ?_; refine zMv ?_
  first | refine aops_len rfl rfl rfl rfl (fun _ => ?_) | refine zP (ap_len_arr rfl zUpd rfl) ?_ | refine zP (ap_len_nil rfl rfl) ?_
  refine zMv ?_; refine zN ?_; refine awp_block ?_
  refine awp_loop1 [0, 1, 7] [] (fun (k : Nat) r => (8, .i (k : Int)) :: r) (fun (k : Nat) r => r) (fun (k : Nat) => k ≤ l.length ∧ (l.drop k).any p = l.any p) (fun (k : Nat) => l.length - k) (0) zRc ⟨by omega, by simp⟩ (wk zSub zKeep) ?_
  intro k ⟨hk, hI⟩
  refine zS ?_; refine zCm ?_; refine zN ?_; refine awp_seq ?_
  refine zC (fun hc => ?_) fun hc => ?_
  · have hlt : k < l.length := by have := of_decide_eq_true hc; omega
    obtain ⟨x, hx, hd⟩ := drop_cons hlt
    have hx' := getMap D.i hx
    rw [hd] at hI
    refine awp_skip ?_; refine seqQ_n ?_; refine awp_seq ?_; refine awp_block ?_; refine zS ?_; refine zMv ?_; refine zAs ?_; refine zN (zS ?_); refine zMv ?_; refine zMv ?_; refine zMv ?_
    first | refine zP (ap_index rfl rfl rfl rfl (by decide) rfl zAss) ?_ | refine zP (ap_index rfl rfl rfl rfl (by decide) (by omega) zAss) ?_ | refine zP (ap_index_own rfl rfl rfl rfl rfl (by first | omega | (simp only [List.length_map, List.length_set, avs_len]; omega))) ?_
    refine zL1 ?_
    refine aops_callv_b (caps := []) rfl zRc (hf x) rfl rfl (fun c16 hc16 => ?_)
    refine zN ?_
    refine zC (fun hc => ?_) fun hc => ?_
    · refine awp_seq ?_
      refine awp_region ?_; refine zMv ?_; refine zAs ?_; refine zN ?_; refine awp_ret ?_; refine blockQ_r ?_; refine seqQ_r ?_; refine seqQ_r ?_; refine blockQ_r ?_; refine seqQ_r ?_
      refine post_ret (.tmp rfl .nil) zKeep ⟨_, rfl, ?_, rfl⟩
      rw [any_cons_t (hc16.trans hc)] at hI
      rw [← hI]; exact decide_eq_true (by omega)
    · refine awp_skip ?_
      refine blockQ_n ?_; refine seqQ_n ?_; refine awp_region ?_; refine zAr ?_; refine zMv ?_; refine zN ?_
      rw [any_cons_f (hc16.trans hc)] at hI
      refine ⟨k + 1, ⟨by omega, hI⟩, by omega, wk zSub zKeep⟩
  · have hge : l.length ≤ k := by have := of_decide_eq_false hc; omega
    rw [drop_nil hge] at hI
    refine awp_exit ?_; refine seqQ_x ?_; refine seqQ_x ?_; refine blockQ_x rfl ?_; refine seqQ_n ?_; refine zS ?_; refine zAs ?_; refine zN ?_; refine awp_ret ?_
    refine post_ret (.tmp rfl .nil) zKeep ⟨_, rfl, ?_, rfl⟩
    rw [← hI]; rfl
theorem containsF_con (f : FuncId) (p : Int → Bool) (hf : ∀ k : Int, Con Tryz.prog f [.i k] [] (Is (.b (p k)) [])) (l : List Int) : Con Tryz.prog 122 [.sl 1 (l.map .i), .v (.func (.func f) #[] #[])] [] (Is (.b (l.any p)) []) := by
  have hcap : capB = 140737488355328 := rfl
  refine con_intro Tryz.func122 rfl Tryz.call122 rfl ?_
  refine zS ?_; refine zAs ?_; refine zN (zS ?_); refine zMv ?_; refine zMv ?_
  (refine aops_call zRc (indexF_con f p hf l) zSplit rfl rfl ?_; rintro _ _ ⟨r, rfl, hr, rfl⟩)
  refine zCm ?_; refine zAs ?_; refine zN ?_; refine awp_ret ?_
  refine post_is (.tmp rfl .nil) zKeep ?_
  rw [← hr]; rfl
theorem lev1_con (k : Int) : Con Tryz.prog 123 [.i k] [] (Is (.b (badN k)) []) := by
  have hcap : capB = 140737488355328 := rfl
  refine con_intro Tryz.func123 rfl Tryz.call123 rfl ?_
  refine zS ?_; refine zAs ?_; refine zN (zS ?_); refine zMv ?_
  refine aops_call_v zRc (node_con _) rfl rfl ?_
  refine zNo ?_; refine zAs ?_; refine zN ?_; refine awp_ret ?_
  refine post_is (.tmp rfl .nil) zKeep ?_
  rw [← badN_nd]; rfl
theorem level_con : ∀ (t : Trust), Con Tryz.prog 102 [av t] [] (Is (.i (checkT t)) []) := by
  have hcap : capB = 140737488355328 := rfl
  intro t
  induction t using Trust.ind with
  | _ t ih =>
    have hl1 : (t.nodes.map D.i).length = t.nodes.length := by simp
    have hl2 := avs_len t.inner
    refine con_intro Tryz.func102 rfl Tryz.call102 rfl ?_
    refine zS ?_
    refine aops_box rfl zFlat rfl rfl (fun b1 => ?_)
    refine zAs ?_; refine zN ?_; refine awp_seq ?_; refine zS ?_; refine zF 0 1 false ?_; refine zL1 ?_; refine zCm ?_; refine zMv ?_
    all_goals first | (refine zY ?_; refine zF 0 1 false ?_) | refine zU ?_ | refine zNf ?_ | (refine zGf (fun hg => ?_) fun hg => ?_; case' _ => refine zF 0 1 false ?_)
    all_goals first | (refine zY ?_; refine zL1 ?_) | refine zU ?_ | refine zNf ?_ | (refine zGf (fun hg => ?_) fun hg => ?_; case' _ => refine zL1 ?_)
    all_goals first | (refine zY ?_; refine zF 1 1 false ?_) | refine zU ?_ | refine zNf ?_ | (refine zGf (fun hg => ?_) fun hg => ?_; case' _ => refine zF 1 1 false ?_)
    all_goals first | (refine zY ?_; refine zL1 ?_) | refine zU ?_ | refine zNf ?_ | (refine zGf (fun hg => ?_) fun hg => ?_; case' _ => refine zL1 ?_)
    all_goals first | (refine zY ?_; (first | refine aops_len rfl rfl rfl rfl (fun _ => ?_) | refine zP (ap_len_arr rfl zUpd rfl) ?_ | refine zP (ap_len_nil rfl rfl) ?_)) | refine zU ?_ | refine zNf ?_ | (refine zGf (fun hg => ?_) fun hg => ?_; case' _ => (first | refine aops_len rfl rfl rfl rfl (fun _ => ?_) | refine zP (ap_len_arr rfl zUpd rfl) ?_ | refine zP (ap_len_nil rfl rfl) ?_))
    all_goals first | (refine zY ?_; refine zF 2 1 false ?_) | refine zU ?_ | refine zNf ?_ | (refine zGf (fun hg => ?_) fun hg => ?_; case' _ => refine zF 2 1 false ?_)
    all_goals first | (refine zY ?_; refine zL1 ?_) | refine zU ?_ | refine zNf ?_ | (refine zGf (fun hg => ?_) fun hg => ?_; case' _ => refine zL1 ?_)
    all_goals first | (refine zY ?_; (first | refine aops_len rfl rfl rfl rfl (fun _ => ?_) | refine zP (ap_len_arr rfl zUpd rfl) ?_ | refine zP (ap_len_nil rfl rfl) ?_)) | refine zU ?_ | refine zNf ?_ | (refine zGf (fun hg => ?_) fun hg => ?_; case' _ => (first | refine aops_len rfl rfl rfl rfl (fun _ => ?_) | refine zP (ap_len_arr rfl zUpd rfl) ?_ | refine zP (ap_len_nil rfl rfl) ?_))
    all_goals first | (refine zY ?_; refine zAr ?_) | refine zU ?_ | refine zNf ?_ | (refine zGf (fun hg => ?_) fun hg => ?_; case' _ => refine zAr ?_)
    all_goals first | (refine zY ?_; refine zCm ?_) | refine zU ?_ | refine zNf ?_ | (refine zGf (fun hg => ?_) fun hg => ?_; case' _ => refine zCm ?_)
    all_goals refine zPk ?_
    all_goals (
      refine zN ?_
      refine zC (fun hc => ?_) fun hc => ?_
      · first
        | (exact absurd hc (by decide))
        | (refine awp_seq ?_
           refine awp_region ?_; refine zAs ?_; refine zN ?_; refine awp_ret ?_; refine seqQ_r ?_
           refine post_is (.tmp rfl .nil) .nil ?_
           simp only [resD, checkT]; rw [if_pos (by first | (have := of_decide_eq_true hg; omega) | (have := of_decide_eq_true hc; omega))]
          )
      · first
        | (exact absurd hc (by decide))
        | (have hth : ¬ (t.th < 1 ∨ (t.nodes.length + t.inner.length : Int) < t.th) := by have h1 := of_decide_eq_false hg; have h2 := of_decide_eq_false hc; omega
           refine awp_skip ?_; refine seqQ_n ?_; refine awp_seq ?_; refine zS ?_; refine zF 1 1 false ?_; refine zL1 ?_
           refine aops_call_v zRc (containsF_con _ badN lev1_con t.nodes) rfl rfl ?_
           refine zN ?_
           refine zC (fun hc => ?_) fun hc => ?_
           · have hany := hc
             refine zS ?_; refine zAs ?_; refine zN ?_; refine awp_ret ?_; refine seqQ_r ?_
             refine post_is (.tmp rfl .nil) .nil ?_
             simp only [resD, checkT]; rw [if_neg hth, if_pos hany]
           · have hany := hc
             refine awp_skip ?_; refine seqQ_n ?_; refine awp_seq ?_; refine zS ?_; refine zF 1 1 false ?_; refine zL1 ?_
             refine aops_call_v zRc (of_con t.nodes) rfl rfl ?_
             refine zMv ?_
             refine zP (ap_extract rfl rfl) ?_
             refine zP (ap_extract rfl rfl) ?_
             refine zAs ?_; refine zAs ?_; refine zN (zS ?_); refine zMv ?_; refine zCm ?_; refine zN ?_
             refine zC (fun hc => ?_) fun hc => ?_
             · have he := hc
               refine zS ?_; refine zMv ?_; refine zAs ?_; refine zN ?_; refine awp_ret ?_; refine seqQ_r ?_
               refine post_is (.tmp rfl .nil) .nil ?_
               simp only [resD, checkT]; rw [if_neg hth, if_neg (by rw [hany]; simp), if_pos (by simpa using he)]
             · have he := hc
               refine awp_skip ?_; refine seqQ_n ?_; refine awp_seq ?_; refine zS ?_; refine zF 2 1 false ?_; refine zL1 ?_
               first | refine aops_len rfl rfl rfl rfl (fun _ => ?_) | refine zP (ap_len_arr rfl zUpd rfl) ?_ | refine zP (ap_len_nil rfl rfl) ?_
               refine zMv ?_; refine zN ?_; refine awp_block ?_
               refine awp_loop1 [36, 37] [] (fun (k : Nat) r => (38, .i (k : Int)) :: r) (fun (k : Nat) r => r) (fun (k : Nat) => k ≤ t.inner.length ∧ checkL (t.inner.drop k) = checkL t.inner) (fun (k : Nat) => t.inner.length - k) (0) zRc ⟨by omega, by simp⟩ (wk zSub zKeep) ?_
               intro k ⟨hk, hI⟩
               refine zS ?_; refine zCm ?_; refine zN ?_; refine awp_seq ?_
               refine zC (fun hc => ?_) fun hc => ?_
               · have hlt : k < t.inner.length := by have := of_decide_eq_true hc; omega
                 obtain ⟨x, hx, hd⟩ := drop_cons hlt
                 have hx' := avs_get hx
                 have hxm := List.mem_of_getElem? hx
                 refine awp_skip ?_; refine seqQ_n ?_; refine awp_seq ?_; refine awp_block ?_; refine zS ?_
                 first | refine zP (ap_index rfl rfl rfl rfl (by decide) rfl zAss) ?_ | refine zP (ap_index rfl rfl rfl rfl (by decide) (by omega) zAss) ?_ | refine zP (ap_index_own rfl rfl rfl rfl rfl (by first | omega | (simp only [List.length_map, List.length_set, avs_len]; omega))) ?_
                 refine zLd ?_
                 refine aops_alloc rfl zRc rfl rfl (fun b6 => ?_)
                 refine zSt ?_; refine zN (zS ?_); refine zLd ?_
                 refine aops_call_v zRc (ih _ hxm) rfl rfl ?_
                 refine zAs ?_; refine zN (zS ?_); refine zMv ?_; refine zCm ?_; refine zN ?_
                 refine zC (fun hc => ?_) fun hc => ?_
                 · refine awp_seq ?_
                   refine awp_region ?_; refine zMv ?_; refine zAs ?_; refine zN ?_; refine awp_ret ?_; refine blockQ_r ?_; refine seqQ_r ?_; refine seqQ_r ?_; refine blockQ_r ?_; refine seqQ_r ?_
                   refine post_is (.tmp rfl .nil) .nil ?_
                   rw [hd, checkL_cons, if_pos (by simpa using hc)] at hI
                   have e : checkT t = checkL t.inner := by unfold checkT; rw [if_neg hth, if_neg (by rw [hany]; simp), if_neg (by simpa using he)]
                   simp only [resD]; rw [e, ← hI]
                 · refine awp_skip ?_
                   refine blockQ_n ?_; refine seqQ_n ?_; refine awp_region ?_; refine zAr ?_; refine zMv ?_; refine zN ?_
                   have hz := of_decide_eq_true (Bool.not_eq_false' .. ▸ hc)
                   rw [hd, checkL_cons, if_neg (by simpa using hz)] at hI
                   refine ⟨k + 1, ⟨by omega, hI⟩, by omega, wk zSub zKeep⟩
               · have hge : t.inner.length ≤ k := by have := of_decide_eq_false hc; omega
                 rw [drop_nil hge] at hI; simp only [checkL] at hI
                 refine awp_exit ?_; refine seqQ_x ?_; refine seqQ_x ?_; refine blockQ_x rfl ?_; refine seqQ_n ?_; refine zS ?_; refine zAs ?_; refine zN ?_; refine awp_ret ?_
                 refine post_is (.tmp rfl .nil) .nil ?_
                 have e : checkT t = checkL t.inner := by unfold checkT; rw [if_neg hth, if_neg (by rw [hany]; simp), if_neg (by simpa using he)]
                 simp only [resD]; rw [e, ← hI]
          )
      )
theorem validT_con (t : Trust) (ht : sizeT t ≤ 1000000000) : Con Tryz.prog 76 [av t] [] (Is (.i (validT t)) []) := by
  have hcap : capB = 140737488355328 := rfl
  refine con_intro Tryz.func76 rfl Tryz.call76 rfl ?_
  refine zS ?_
  refine aops_box rfl zFlat rfl rfl (fun b1 => ?_)
  refine zAs ?_; refine zN ?_; refine awp_seq ?_; refine zS ?_; refine zLd ?_
  refine aops_call_v zRc (depth_con 1000000000 (by omega) t ht) rfl rfl ?_
  refine zCm ?_; refine zMv ?_
  all_goals first | (refine zY ?_; refine zLd ?_) | refine zU ?_ | refine zNf ?_ | (refine zGf (fun hg => ?_) fun hg => ?_; case' _ => refine zLd ?_)
  all_goals first | (refine zY ?_; refine aops_call_v zRc (size_con 1000000000 (by omega) t ht) rfl rfl ?_) | refine zU ?_ | refine zNf ?_ | (refine zGf (fun hg => ?_) fun hg => ?_; case' _ => refine aops_call_v zRc (size_con 1000000000 (by omega) t ht) rfl rfl ?_)
  all_goals first | (refine zY ?_; refine zCm ?_) | refine zU ?_ | refine zNf ?_ | (refine zGf (fun hg => ?_) fun hg => ?_; case' _ => refine zCm ?_)
  all_goals refine zPk ?_
  all_goals (
    refine zN ?_
    refine zC (fun hc => ?_) fun hc => ?_
    · first
      | (exact absurd hc (by decide))
      | (refine awp_seq ?_
         refine awp_region ?_; refine zAs ?_; refine zN ?_; refine awp_ret ?_; refine seqQ_r ?_
         refine post_is (.tmp rfl .nil) .nil ?_
         simp only [resD, validT]; rw [if_pos (by first | (have := of_decide_eq_true hg; omega) | (have := of_decide_eq_true hc; omega))]
        )
    · first
      | (exact absurd hc (by decide))
      | (refine awp_skip ?_
         refine seqQ_n ?_; refine zS ?_; refine zLd ?_
         refine aops_call_v zRc (level_con t) rfl rfl ?_
         refine zAs ?_; refine zN ?_; refine awp_ret ?_
         refine post_is (.tmp rfl .nil) .nil ?_
         simp only [resD, validT]; rw [if_neg (by have h1 := of_decide_eq_false hg; have h2 := of_decide_eq_false hc; omega)]
        )
    )
theorem op_ints {w : World} (n : Nat) : OpN Tryz.prog w 22 n (List Int) (fun l => [.sl 1 (l.map .i)]) :=
  op_slice Tryz.underlying22 zKr (by omega) (of_decide_eq_true zKr) mk_int (fun m _ => op_int Tryz.underlying3)
theorem op_trust {w : World} : ∀ n, OpN Tryz.prog w 27 n Trust (fun t => [.i t.th, .sl 1 (t.nodes.map .i), .sl 3 (avs t.inner)]) := by
  intro n
  induction n using Nat.strongRecOn with
  | ind n ih =>
    refine op_struct Tryz.underlying27 zKr (fun m hm => ?_)
    refine (opf_cons zKr (op_int Tryz.underlying3) (opf_cons zKr (op_ints m) (opf_cons zKr (op_slice (sz := 3) (mk := fun t => .agg [.i t.th, .sl 1 (t.nodes.map .i), .sl 3 (avs t.inner)]) Tryz.underlying25 zKr (by omega) (of_decide_eq_true zKr) (mk_agg _) (fun k hk => ih k (by omega))) opf_nil))).map (fun p => .mk p.1 p.2.1 p.2.2.1) ?_
    intro p
    show _ = [D.i p.1, D.sl 1 (p.2.1.map D.i), D.sl 3 (avs p.2.2.1)]
    rw [avs_map]
    rfl
theorem rsameI_con (x y : List Int) : Con Tryz.prog 121 [.sl 1 (x.map .i), .sl 1 (y.map .i)] [] (Is (.b (decide (x = y))) []) := by
  have hcap : capB = 140737488355328 := rfl
  have hx1 : (x.map D.i).length = x.length := by simp
  have hy1 : (y.map D.i).length = y.length := by simp
  refine con_intro Tryz.func121 rfl Tryz.call121 rfl ?_
  refine zS ?_; refine zAs ?_; refine zN ?_; refine awp_seq ?_; refine zS ?_; refine zMv ?_
  first | refine aops_len rfl rfl rfl rfl (fun _ => ?_) | refine zP (ap_len_arr rfl zUpd rfl) ?_ | refine zP (ap_len_nil rfl rfl) ?_
  refine zMv ?_
  first | refine aops_len rfl rfl rfl rfl (fun _ => ?_) | refine zP (ap_len_arr rfl zUpd rfl) ?_ | refine zP (ap_len_nil rfl rfl) ?_
  refine zCm ?_; refine zN ?_
  refine zC (fun hc => ?_) fun hc => ?_
  · have hne := of_neq_true hc
    refine zS ?_; refine zAs ?_; refine zN ?_; refine awp_ret ?_; refine seqQ_r ?_
    refine post_is (.tmp rfl .nil) zKeep ?_
    rw [decide_eq_false (fun e => hne (by rw [e]))]; rfl
  · have hlen := of_neq_false hc
    have hll : x.length = y.length := by omega
    refine awp_skip ?_; refine seqQ_n ?_; refine awp_seq ?_; refine zS ?_; refine zMv ?_
    first | refine aops_len rfl rfl rfl rfl (fun _ => ?_) | refine zP (ap_len_arr rfl zUpd rfl) ?_ | refine zP (ap_len_nil rfl rfl) ?_
    refine zMv ?_; refine zN ?_; refine awp_block ?_
    refine awp_loop1 [0, 1, 12] [] (fun (k : Nat) r => (13, .i (k : Int)) :: r) (fun (k : Nat) r => r) (fun (k : Nat) => k ≤ x.length ∧ x.take k = y.take k) (fun (k : Nat) => x.length - k) (0) zRc ⟨by omega, by simp⟩ (wk zSub zKeep) ?_
    intro k ⟨hk, hI⟩
    refine zS ?_; refine zCm ?_; refine zN ?_; refine awp_seq ?_
    refine zC (fun hc => ?_) fun hc => ?_
    · have hlt := of_decide_eq_true hc
      obtain ⟨u, hu, _⟩ := drop_cons (l := x) (k := k) (by omega)
      obtain ⟨v, hv, _⟩ := drop_cons (l := y) (k := k) (by omega)
      have hu' := getMap D.i hu
      have hv' := getMap D.i hv
      refine awp_skip ?_; refine seqQ_n ?_; refine awp_seq ?_; refine awp_block ?_; refine zS ?_; refine zMv ?_; refine zAs ?_; refine zN ?_; refine awp_seq ?_
      refine awp_draw (Hm := []) zKr zSplit ?_
      refine zT 0 rfl (AP.ar (ap_move rfl)) ?_
      refine zT 1 rfl (AP.ar (ap_move rfl)) ?_
      first | refine zT 2 rfl (AP.ar (ap_index rfl rfl rfl rfl (by decide) rfl zAss)) ?_ | refine zT 2 rfl (AP.ar (ap_index rfl rfl rfl rfl (by decide) (by omega) zAss)) ?_ | refine zT 2 rfl (AP.ar (ap_index_own rfl rfl rfl rfl rfl (by first | omega | (simp only [List.length_map, List.length_set, avs_len]; omega)))) ?_
      refine zTL 3 ?_
      refine zT 4 rfl (AP.ar (ap_move rfl)) ?_
      refine zT 5 rfl (AP.ar (ap_move rfl)) ?_
      first | refine zT 6 rfl (AP.ar (ap_index rfl rfl rfl rfl (by decide) rfl zAss)) ?_ | refine zT 6 rfl (AP.ar (ap_index rfl rfl rfl rfl (by decide) (by omega) zAss)) ?_ | refine zT 6 rfl (AP.ar (ap_index_own rfl rfl rfl rfl rfl (by first | omega | (simp only [List.length_map, List.length_set, avs_len]; omega)))) ?_
      refine zTL 7 ?_
      refine zT 8 rfl (AP.ar (ap_cmp rfl rfl rfl)) ?_
      refine aany_nil zKr ?_
      all_goals (
        refine seqQ_n ?_
        refine zC (fun hc => ?_) fun hc => ?_
        · have hne := of_neq_true hc
          refine zS ?_; refine zAs ?_; refine zN ?_; refine awp_ret ?_; refine blockQ_r ?_; refine seqQ_r ?_; refine seqQ_r ?_; refine blockQ_r ?_; refine seqQ_r ?_
          refine post_is (.tmp rfl .nil) zKeep ?_
          rw [decide_eq_false (fun e => hne (by rw [e, hv] at hu; injection hu with hu; exact hu.symm))]; rfl
        · refine awp_skip ?_
          refine blockQ_n ?_; refine seqQ_n ?_; refine awp_region ?_; refine zAr ?_; refine zMv ?_; refine zN ?_
          have e := of_neq_false hc
          refine ⟨k + 1, ⟨by omega, by rw [List.take_add_one, List.take_add_one, hI, hu, hv, e]⟩, by omega, wk zSub zKeep⟩
        )
    · have hge := of_decide_eq_false hc
      refine awp_exit ?_; refine seqQ_x ?_; refine seqQ_x ?_; refine blockQ_x rfl ?_; refine seqQ_n ?_; refine zS ?_; refine zAs ?_; refine zN ?_; refine awp_ret ?_
      refine post_is (.tmp rfl .nil) zKeep ?_
      rw [List.take_of_length_le (by omega), List.take_of_length_le (by omega)] at hI; rw [decide_eq_true hI]; rfl
theorem same_false1 {t u : Trust} (h : ¬ t.th = u.th) : same t u = false := by unfold same; rw [decide_eq_false h, Bool.false_and]
theorem same_false2 {t u : Trust} (h : decide (t.nodes = u.nodes) = false) : same t u = false := by unfold same; rw [h, Bool.false_and, Bool.and_false]
theorem same_false3 {t u : Trust} (h : ¬ t.inner.length = u.inner.length) : same t u = false := by unfold same; rw [sameL_of_len h, Bool.and_false, Bool.and_false]
theorem same_eq {t u : Trust} (h1 : t.th = u.th) (h2 : decide (t.nodes = u.nodes) = true) : same t u = sameL t.inner u.inner := by unfold same; rw [decide_eq_true h1, h2, Bool.true_and, Bool.true_and]
theorem rsame_con : ∀ (t u : Trust), Con Tryz.prog 98 [av t, av u] [] (Is (.b (same t u)) []) := by
  have hcap : capB = 140737488355328 := rfl
  intro t
  induction t using Trust.ind with
  | _ t ih =>
    intro u
    have hx1 := avs_len t.inner
    have hy1 := avs_len u.inner
    refine con_intro Tryz.func98 rfl Tryz.call98 rfl ?_
    refine zS ?_
    refine aops_box rfl zFlat rfl rfl (fun b2 => ?_)
    refine aops_box rfl zFlat rfl rfl (fun b3 => ?_)
    refine zAs ?_; refine zN ?_; refine awp_seq ?_; refine zS ?_; refine zF 0 1 false ?_; refine zL1 ?_; refine zF 0 1 false ?_; refine zL1 ?_; refine zCm ?_; refine zMv ?_
    all_goals first | (refine zY ?_; refine zF 1 1 false ?_) | refine zU ?_ | refine zNf ?_ | (refine zGf (fun hg => ?_) fun hg => ?_; case' _ => refine zF 1 1 false ?_)
    all_goals first | (refine zY ?_; refine zL1 ?_) | refine zU ?_ | refine zNf ?_ | (refine zGf (fun hg => ?_) fun hg => ?_; case' _ => refine zL1 ?_)
    all_goals first | (refine zY ?_; refine zF 1 1 false ?_) | refine zU ?_ | refine zNf ?_ | (refine zGf (fun hg => ?_) fun hg => ?_; case' _ => refine zF 1 1 false ?_)
    all_goals first | (refine zY ?_; refine zL1 ?_) | refine zU ?_ | refine zNf ?_ | (refine zGf (fun hg => ?_) fun hg => ?_; case' _ => refine zL1 ?_)
    all_goals first | (refine zY ?_; refine aops_call_b zRc (rsameI_con t.nodes u.nodes) rfl rfl (fun c16 hc16 => ?_)) | refine zU ?_ | refine zNf ?_ | (refine zGf (fun hg => ?_) fun hg => ?_; case' _ => refine aops_call_b zRc (rsameI_con t.nodes u.nodes) rfl rfl (fun c16 hc16 => ?_))
    all_goals first | (refine zY ?_; refine zNo ?_) | refine zU ?_ | refine zNf ?_ | (refine zGf (fun hg => ?_) fun hg => ?_; case' _ => refine zNo ?_)
    all_goals refine zPk ?_
    all_goals refine zMv ?_
    all_goals first | (refine zY ?_; refine zF 2 1 false ?_) | refine zU ?_ | refine zNf ?_ | (refine zGf (fun hg => ?_) fun hg => ?_; case' _ => refine zF 2 1 false ?_)
    all_goals first | (refine zY ?_; refine zL1 ?_) | refine zU ?_ | refine zNf ?_ | (refine zGf (fun hg => ?_) fun hg => ?_; case' _ => refine zL1 ?_)
    all_goals first | (refine zY ?_; (first | refine aops_len rfl rfl rfl rfl (fun _ => ?_) | refine zP (ap_len_arr rfl zUpd rfl) ?_ | refine zP (ap_len_nil rfl rfl) ?_)) | refine zU ?_ | refine zNf ?_ | (refine zGf (fun hg => ?_) fun hg => ?_; case' _ => (first | refine aops_len rfl rfl rfl rfl (fun _ => ?_) | refine zP (ap_len_arr rfl zUpd rfl) ?_ | refine zP (ap_len_nil rfl rfl) ?_))
    all_goals first | (refine zY ?_; refine zF 2 1 false ?_) | refine zU ?_ | refine zNf ?_ | (refine zGf (fun hg => ?_) fun hg => ?_; case' _ => refine zF 2 1 false ?_)
    all_goals first | (refine zY ?_; refine zL1 ?_) | refine zU ?_ | refine zNf ?_ | (refine zGf (fun hg => ?_) fun hg => ?_; case' _ => refine zL1 ?_)
    all_goals first | (refine zY ?_; (first | refine aops_len rfl rfl rfl rfl (fun _ => ?_) | refine zP (ap_len_arr rfl zUpd rfl) ?_ | refine zP (ap_len_nil rfl rfl) ?_)) | refine zU ?_ | refine zNf ?_ | (refine zGf (fun hg => ?_) fun hg => ?_; case' _ => (first | refine aops_len rfl rfl rfl rfl (fun _ => ?_) | refine zP (ap_len_arr rfl zUpd rfl) ?_ | refine zP (ap_len_nil rfl rfl) ?_))
    all_goals first | (refine zY ?_; refine zCm ?_) | refine zU ?_ | refine zNf ?_ | (refine zGf (fun hg => ?_) fun hg => ?_; case' _ => refine zCm ?_)
    all_goals refine zPk ?_
    all_goals (
      refine zN ?_
      refine zC (fun hc => ?_) fun hc => ?_
      · first
        | (exact absurd hc (by decide))
        | (refine awp_seq ?_
           refine awp_region ?_; refine zAs ?_; refine zN ?_; refine awp_ret ?_; refine seqQ_r ?_
           refine post_is (.tmp rfl .nil) zKeep ?_
           first
           | (rw [same_false1 (of_neq_true (show (!decide (t.th = u.th)) = true by with_reducible assumption))]; rfl)
           | (rw [same_false2 (hc16.trans (not_t (by with_reducible assumption)))]; rfl)
           | (rw [same_false3 (fun e => of_neq_true (show (!decide ((((avs t.inner).length : Nat) : Int) = ((avs u.inner).length : Nat))) = true by with_reducible assumption) (by omega))]; rfl)
          )
      · first
        | (exact absurd hc (by decide))
        | (have hth := of_neq_false (show (!decide (t.th = u.th)) = false by with_reducible assumption)
           have hns := hc16.trans (not_f (by with_reducible assumption))
           have hlen := of_neq_false (show (!decide ((((avs t.inner).length : Nat) : Int) = ((avs u.inner).length : Nat))) = false by with_reducible assumption)
           have hll : t.inner.length = u.inner.length := by omega
           refine awp_skip ?_; refine seqQ_n ?_; refine awp_seq ?_; refine zS ?_; refine zF 2 1 false ?_; refine zL1 ?_
           first | refine aops_len rfl rfl rfl rfl (fun _ => ?_) | refine zP (ap_len_arr rfl zUpd rfl) ?_ | refine zP (ap_len_nil rfl rfl) ?_
           refine zMv ?_; refine zN ?_; refine awp_block ?_
           refine awp_loop1 [2, 3, 30] [.box b2 _ _, .box b3 _ _] (fun (k : Nat) r => (31, .i (k : Int)) :: r) (fun (k : Nat) r => r) (fun (k : Nat) => k ≤ t.inner.length ∧ sameL (t.inner.drop k) (u.inner.drop k) = sameL t.inner u.inner) (fun (k : Nat) => t.inner.length - k) (0) zRc ⟨by omega, by simp⟩ (wk zSub zKeep) ?_
           intro k ⟨hk, hI⟩
           refine zS ?_; refine zCm ?_; refine zN ?_; refine awp_seq ?_
           refine zC (fun hc => ?_) fun hc => ?_
           · have hlt := of_decide_eq_true hc
             obtain ⟨y, hy, hyd⟩ := drop_cons (l := t.inner) (k := k) (by omega)
             obtain ⟨z, hz, hzd⟩ := drop_cons (l := u.inner) (k := k) (by omega)
             have hy' := avs_get hy
             have hz' := avs_get hz
             have hym := List.mem_of_getElem? hy
             refine awp_skip ?_; refine seqQ_n ?_; refine awp_seq ?_; refine awp_block ?_; refine zS ?_; refine zMv ?_; refine zAs ?_; refine zN ?_; refine awp_seq ?_
             refine awp_draw (Hm := []) zKr zSplit ?_
             refine zTF 0 2 1 false ?_; refine zTL 1 ?_
             refine zT 2 rfl (AP.ar (ap_move rfl)) ?_
             first | refine zT 3 rfl (AP.ar (ap_index rfl rfl rfl rfl (by decide) rfl zAss)) ?_ | refine zT 3 rfl (AP.ar (ap_index rfl rfl rfl rfl (by decide) (by omega) zAss)) ?_ | refine zT 3 rfl (AP.ar (ap_index_own rfl rfl rfl rfl rfl (by first | omega | (simp only [List.length_map, List.length_set, avs_len]; omega)))) ?_
             refine zTM 4 ?_; refine zTF 5 2 1 false ?_; refine zTL 6 ?_
             refine zT 7 rfl (AP.ar (ap_move rfl)) ?_
             first | refine zT 8 rfl (AP.ar (ap_index rfl rfl rfl rfl (by decide) rfl zAss)) ?_ | refine zT 8 rfl (AP.ar (ap_index rfl rfl rfl rfl (by decide) (by omega) zAss)) ?_ | refine zT 8 rfl (AP.ar (ap_index_own rfl rfl rfl rfl rfl (by first | omega | (simp only [List.length_map, List.length_set, avs_len]; omega)))) ?_
             refine zTM 9 ?_
             refine aany_one 10 zKr rfl (.none rfl) ?_
             refine aops_call_b zRc (ih y hym z) rfl rfl (fun c44 hc44 => ?_)
             refine aops_nil ?_
             refine zT 11 rfl (AP.ar (ap_not rfl)) ?_
             refine aany_nil zKr ?_
             all_goals (
               refine seqQ_n ?_
               refine zC (fun hc => ?_) fun hc => ?_
               · refine awp_seq ?_
                 refine awp_region ?_; refine zAs ?_; refine zN ?_; refine awp_ret ?_; refine blockQ_r ?_; refine seqQ_r ?_; refine seqQ_r ?_; refine blockQ_r ?_; refine seqQ_r ?_
                 refine post_is (.tmp rfl .nil) zKeep ?_
                 rw [hyd, hzd, sameL_cons, hc44.trans (not_t hc), Bool.false_and] at hI
                 rw [same_eq hth hns, ← hI]; rfl
               · refine awp_skip ?_
                 refine blockQ_n ?_; refine seqQ_n ?_; refine awp_region ?_; refine zAr ?_; refine zMv ?_; refine zN ?_
                 rw [hyd, hzd, sameL_cons, hc44.trans (not_f hc), Bool.true_and] at hI
                 refine ⟨k + 1, ⟨by omega, hI⟩, by omega, wk zSub zKeep⟩
               )
           · have hge := of_decide_eq_false hc
             rw [drop_nil (by omega), drop_nil (by omega)] at hI
             refine awp_exit ?_; refine seqQ_x ?_; refine seqQ_x ?_; refine blockQ_x rfl ?_; refine seqQ_n ?_; refine zS ?_; refine zAs ?_; refine zN ?_; refine awp_ret ?_
             refine post_is (.tmp rfl .nil) zKeep ?_
             rw [same_eq hth hns, ← hI]; rfl
          )
      )
theorem rvalid0 {s : Int} (h : valid s = false) : Con Tryz.prog 62 [.i s] [] (Is (.b false) []) := by rw [← h]; exact rvalid_con s
theorem rvalidn {s : Nat} (h : s < 1024) : Con Tryz.prog 62 [.i s] [] (Is (.b true) []) := by rw [← valid_n h]; exact rvalid_con s
theorem relim0_con (c : List Mem) (s : Int) (hv : valid s = false) : Con Tryz.prog 64 [cv c, .i s] [] (Is (.sl 1 []) []) := by
  have hcap : capB = 140737488355328 := rfl
  refine con_intro Tryz.func64 rfl Tryz.call64 rfl ?_
  refine zS ?_
  refine aops_box rfl zFlat rfl rfl (fun b2 => ?_)
  refine zAs ?_; refine zN ?_; refine awp_seq ?_; refine zS ?_; refine zMv ?_
  refine aops_call_v zRc (rvalid0 hv) rfl rfl ?_
  refine zNo ?_; refine zN ?_
  refine awp_cond_t rfl zDec ?_
  refine zS ?_; refine zAs ?_; refine zN ?_
  refine awp_unnil [4] 1 rfl zSelC zHeapA ?_
  refine awp_ret ?_; refine seqQ_r ?_
  refine post_is (.tmp rfl .nil) zKeep rfl
theorem relimN_con (c : List Mem) (m : Nat) (hm : m < 1024) : Con Tryz.prog 64 [cv c, .i m] [] (Is (.sl 1 ((gOrder c m).map .i)) []) := by
  have hcap : capB = 140737488355328 := rfl
  have hdl := declC_lt c
  refine con_intro Tryz.func64 rfl Tryz.call64 rfl ?_
  refine zS ?_
  refine aops_box rfl zFlat rfl rfl (fun b2 => ?_)
  refine zAs ?_; refine zN ?_; refine awp_seq ?_; refine zS ?_; refine zMv ?_
  refine aops_call_v zRc (rvalidn hm) rfl rfl ?_
  refine zNo ?_; refine zN ?_
  refine awp_cond_f rfl zDec ?_
  refine awp_skip ?_; refine seqQ_n ?_; refine zS ?_; refine zMv ?_; refine zLd ?_
  refine aops_call_v zRc (rdecl_con c) rfl rfl ?_
  refine zP (ap_bits rfl rfl rfl (by omega) (by omega)) ?_
  refine zAs ?_; refine zN (zS ?_); refine zAs ?_; refine zN ?_; refine awp_seq ?_; refine zS ?_; refine zAs ?_; refine zN ?_; refine awp_block ?_
  refine awp_loop4 [2] [.box b2 _ _] (fun (s : Nat) (v : Value) (q : List Int) (g : Bool) r => (5, .i (s : Int)) :: (6, .v v) :: (7, .b g) :: r) (fun (s : Nat) (v : Value) (q : List Int) (g : Bool) r => .arr v 3 1 (q.map .i) :: r) (fun (s : Nat) (v : Value) (q : List Int) (g : Bool) => q.length + s ≤ 1023 ∧ In c s ∧ elim c s q = elim c (m &&& declC c) [] ∧ (g = false → unh c s = none)) (fun (s : Nat) (v : Value) (q : List Int) (g : Bool) => 2 * s + (if g = true then 1 else 0)) (m &&& declC c) (.slice none 0 0) ([]) (true) zRc ⟨by have := and_lt (a := m) hdl; simp; omega, In.and c m, rfl, fun h => by cases h⟩ ((wk_own 3 1 rfl).trans (wk zSub zKeep)) ?_
  intro s v q g ⟨hql, hin, hE, hG⟩
  have hs : s < 1024 := by omega
  have hml : (q.map D.i).length = q.length := by simp
  refine awp_seq ?_; refine zS ?_; refine zMv ?_; refine zN ?_
  refine zC (fun hc => ?_) fun hc => ?_
  · subst hc
    refine awp_skip ?_; refine seqQ_n ?_; refine awp_block ?_; refine zS ?_; refine zAs ?_; refine zN (zS ?_); refine zMv ?_
    refine aops_call_v zRc (rNodes_con _) rfl rfl ?_
    first | refine aops_len rfl rfl rfl rfl (fun _ => ?_) | refine zP (ap_len_arr rfl zUpd rfl) ?_ | refine zP (ap_len_nil rfl rfl) ?_
    refine zMv ?_; refine zN ?_; refine awp_block ?_
    have hnl : ((nodesOf s).map D.i).length = (nodesOf s).length := by simp
    refine awp_loop1 [2, 19, 20] [.box b2 _ _, .arr v 3 1 (q.map .i)] (fun (k : Nat) r => (5, .i (s : Int)) :: (6, .v v) :: (7, .b false) :: (21, .i (k : Int)) :: r) (fun (k : Nat) r => r) (fun (k : Nat) => k ≤ (nodesOf s).length ∧ unh c s = ((nodesOf s).drop k).find? (bad c s)) (fun (k : Nat) => (nodesOf s).length - k) (0) zRc ⟨by omega, by unfold unh; simp⟩ (wk zSub zKeep) ?_
    intro k ⟨hk, hI⟩
    refine zS ?_; refine zCm ?_; refine zN ?_; refine awp_seq ?_
    refine zC (fun hc => ?_) fun hc => ?_
    · have hlt := of_decide_eq_true hc
      obtain ⟨x, hx, hd⟩ := drop_cons (l := nodesOf s) (k := k) (by omega)
      obtain ⟨j, y, rfl, hj, hy, hyd⟩ := hin.get hs (mem_nodesOf.1 (List.mem_of_getElem? hx))
      have hx' := getMap D.i hx
      have hy' := getMap mv hy
      have hxh := mem_nodesOf.1 (List.mem_of_getElem? hx)
      refine awp_skip ?_; refine seqQ_n ?_; refine awp_seq ?_; refine awp_block ?_; refine zS ?_
      first | refine zP (ap_index rfl rfl rfl rfl (by decide) rfl zAss) ?_ | refine zP (ap_index rfl rfl rfl rfl (by decide) (by omega) zAss) ?_ | refine zP (ap_index_own rfl rfl rfl rfl rfl (by first | omega | (simp only [List.length_map, List.length_set, avs_len]; omega))) ?_
      refine zL1 ?_; refine zAs ?_; refine zN (zS ?_); refine zF 0 1 false ?_; refine zL1 ?_; refine zMv ?_
      first | refine zP (ap_index rfl rfl rfl rfl (by decide) rfl zAss) ?_ | refine zP (ap_index rfl rfl rfl rfl (by decide) (by omega) zAss) ?_ | refine zP (ap_index_own rfl rfl rfl rfl rfl (by first | omega | (simp only [List.length_map, List.length_set, avs_len]; omega))) ?_
      refine zF 1 3 true ?_; refine zLd ?_; refine zMv ?_
      refine aops_call_b zRc (rsat_con _ y.t) rfl rfl (fun c32 hc32 => ?_)
      refine zNo ?_; refine zN ?_
      refine zC (fun hc => ?_) fun hc => ?_
      · have hu : unh c s = some (j : Int) := by rw [hI, hd]; exact List.find?_cons_of_pos (by unfold bad; rw [tOf_get hy, hc32, not_t hc]; rfl)
        have hyb : s.testBit j = true := by have := ((has_iff hs).1 hxh).2.2; rwa [Int.toNat_natCast] at this
        have hcl := drop_lt hs hyb
        have hpj := pow_lt10 hj
        refine zS ?_; refine zMv ?_; refine zMv ?_
        refine zP (ap_shl (p := 1) rfl rfl rfl (by omega) (by omega)) ?_
        refine zAr ?_; refine zAs ?_; refine zN (zS ?_); refine zMv ?_; refine zMv ?_
        refine aops_lit (e := 3) (sz := 1) (by_ := 8) rfl rfl zRc rfl rfl rfl rfl ?_
        first | refine aops_append (e := 3) (sz := 1) (by_ := 8) rfl zUpd rfl rfl rfl rfl rfl zLen (fun v41 hv41 => ?_) | refine aops_append_nil (e := 3) (sz := 1) (by_ := 8) rfl rfl rfl rfl rfl rfl zLen (fun v41 hv41 => ?_)
        refine zAs ?_; refine zN (zS ?_); refine zAs ?_; refine zN ?_; refine awp_exit ?_; refine blockQ_y rfl ?_; refine seqQ_x ?_; refine seqQ_x ?_; refine blockQ_x rfl ?_; refine blockQ_n ?_; refine seqQ_n ?_
        first
        | (rw [mapi_snoc, sub_clr hs hyb]; refine ⟨clr s j, _, q ++ [(j : Int)], true, ⟨by simp only [List.length_append, List.length_cons, List.length_nil]; omega, hin.clr, by rw [← hE, elim_some hu, Int.toNat_natCast], fun h => (by cases h)⟩, by simp; omega, wk zSub zKeep⟩)
        | (refine ⟨s, v, q, false, ⟨hql, hin, hE, fun _ => hI⟩, by simp, wk zSub zKeep⟩)
      · refine awp_skip ?_
        refine blockQ_n ?_; refine seqQ_n ?_; refine awp_region ?_; refine zAr ?_; refine zMv ?_; refine zN ?_
        rw [hd, List.find?_cons_of_neg (by unfold bad; rw [tOf_get hy, hc32, not_f hc]; decide)] at hI
        refine ⟨k + 1, ⟨by omega, hI⟩, by omega, wk zSub zKeep⟩
    · have hge := of_decide_eq_false hc
      rw [drop_nil (by omega)] at hI; simp only [List.find?_nil] at hI
      refine awp_exit ?_; refine seqQ_x ?_; refine seqQ_x ?_; refine blockQ_x rfl ?_; refine blockQ_n ?_; refine seqQ_n ?_
      first
      | (rw [mapi_snoc, sub_clr hs hyb]; refine ⟨clr s j, _, q ++ [(j : Int)], true, ⟨by simp only [List.length_append, List.length_cons, List.length_nil]; omega, hin.clr, by rw [← hE, elim_some hu, Int.toNat_natCast], fun h => (by cases h)⟩, by simp; omega, wk zSub zKeep⟩)
      | (refine ⟨s, v, q, false, ⟨hql, hin, hE, fun _ => hI⟩, by simp, wk zSub zKeep⟩)
  · have hu := hG hc
    refine awp_exit ?_; refine seqQ_x ?_; refine seqQ_x ?_; refine blockQ_x rfl ?_; refine seqQ_n ?_; refine awp_seq ?_
    refine awp_freeze v [6] zRem zSelC zHeapA ?_
    refine awp_region ?_; refine zMv ?_; refine zAs ?_; refine zN ?_; refine awp_ret ?_
    refine post_is (.tmp rfl .nil) zKeep ?_
    rw [elim_none hu] at hE; rw [gOrder_eq c hm, ← hE]; rfl
theorem relim_con (c : List Mem) (s : Int) : Con Tryz.prog 64 [cv c, .i s] [] (Is (.sl 1 ((gOrder c s).map .i)) []) := by
  cases h : valid s with
  | false => rw [gOrder_inval h]; exact relim0_con c s h
  | true =>
    obtain ⟨m, rfl, hm⟩ := valid_nat h
    exact relimN_con c m hm
theorem rgreat0_con (c : List Mem) (s : Int) (hv : valid s = false) : Con Tryz.prog 41 [cv c, .i s] [] (Is (.i 0) []) := by
  have hcap : capB = 140737488355328 := rfl
  refine con_intro Tryz.func41 rfl Tryz.call41 rfl ?_
  refine zS ?_
  refine aops_box rfl zFlat rfl rfl (fun b2 => ?_)
  refine zAs ?_; refine zN ?_; refine awp_seq ?_; refine zS ?_; refine zMv ?_
  refine aops_call_v zRc (rvalid0 hv) rfl rfl ?_
  refine zNo ?_; refine zN ?_
  refine awp_cond_t rfl zDec ?_
  refine zS ?_; refine zAs ?_; refine zN ?_; refine awp_ret ?_; refine seqQ_r ?_
  refine post_is (.tmp rfl .nil) zKeep rfl
theorem bit_lt10 {s j : Nat} (hs : s < 1024) (h : s.testBit j = true) : j < 10 := by
  rcases Nat.lt_or_ge j 10 with h3 | h3
  · exact h3
  · have : s < 2 ^ j := Nat.lt_of_lt_of_le hs (Nat.pow_le_pow_right (n := 2) (by omega) h3)
    rw [Nat.testBit_lt_two_pow this] at h; cases h
theorem rgreatN_con (c : List Mem) (m : Nat) (hm : m < 1024) : Con Tryz.prog 41 [cv c, .i m] [] (Is (.i (great c m : Int)) []) := by
  have hcap : capB = 140737488355328 := rfl
  have hdl := declC_lt c
  have hgl : ((gOrder c m).map D.i).length = (gOrder c m).length := by simp
  refine con_intro Tryz.func41 rfl Tryz.call41 rfl ?_
  refine zS ?_
  refine aops_box rfl zFlat rfl rfl (fun b2 => ?_)
  refine zAs ?_; refine zN ?_; refine awp_seq ?_; refine zS ?_; refine zMv ?_
  refine aops_call_v zRc (rvalidn hm) rfl rfl ?_
  refine zNo ?_; refine zN ?_
  refine awp_cond_f rfl zDec ?_
  refine awp_skip ?_; refine seqQ_n ?_; refine zS ?_; refine zMv ?_; refine zLd ?_
  refine aops_call_v zRc (rdecl_con c) rfl rfl ?_
  refine zP (ap_bits rfl rfl rfl (by omega) (by omega)) ?_
  refine zAs ?_; refine zN ?_; refine awp_seq ?_; refine zS ?_; refine zLd ?_; refine zMv ?_
  refine aops_call_v zRc (relim_con c _) rfl rfl ?_
  first | refine aops_len rfl rfl rfl rfl (fun _ => ?_) | refine zP (ap_len_arr rfl zUpd rfl) ?_ | refine zP (ap_len_nil rfl rfl) ?_
  refine zMv ?_; refine zN ?_; refine awp_block ?_
  refine awp_loop2 [17, 18] [] (fun (k : Nat) (s : Nat) r => (5, .i (s : Int)) :: (19, .i (k : Int)) :: r) (fun (k : Nat) (s : Nat) r => r) (fun (k : Nat) (s : Nat) => k ≤ (gOrder c m).length ∧ Run s ((gOrder c m).drop k) (great c m)) (fun (k : Nat) (s : Nat) => (gOrder c m).length - k) (0) (m &&& declC c) zRc ⟨by omega, gOrder_run c hm⟩ (wk zSub zKeep) ?_
  intro k s ⟨hk, hR⟩
  refine zS ?_; refine zCm ?_; refine zN ?_; refine awp_seq ?_
  refine zC (fun hc => ?_) fun hc => ?_
  · have hlt := of_decide_eq_true hc
    obtain ⟨x, hx, hd⟩ := drop_cons (l := gOrder c m) (k := k) (by omega)
    have hx' := getMap D.i hx
    rw [hd] at hR
    cases hR with
    | @cons _ j _ _ hs hyb hR' =>
    refine awp_skip ?_; refine seqQ_n ?_; refine awp_seq ?_; refine awp_block ?_; refine zS ?_
    first | refine zP (ap_index rfl rfl rfl rfl (by decide) rfl zAss) ?_ | refine zP (ap_index rfl rfl rfl rfl (by decide) (by omega) zAss) ?_ | refine zP (ap_index_own rfl rfl rfl rfl rfl (by first | omega | (simp only [List.length_map, List.length_set, avs_len]; omega))) ?_
    refine zL1 ?_; refine zAs ?_; refine zN ?_
    have hj10 : j < 10 := bit_lt10 hs hyb
    have hpj := pow_lt10 hj10
    refine awp_region ?_; refine zMv ?_; refine zMv ?_
    refine zP (ap_shl (p := 1) rfl rfl rfl (by omega) (by omega)) ?_
    refine zAr ?_; refine zAs ?_; refine aops_nil ?_; refine blockQ_n ?_; refine seqQ_n ?_; refine awp_region ?_; refine zAr ?_; refine zMv ?_; refine zN ?_
    rw [sub_clr hs hyb]
    refine ⟨k + 1, clr s j, ⟨by omega, hR'⟩, by omega, wk zSub zKeep⟩
  · have hge := of_decide_eq_false hc
    rw [drop_nil (by omega)] at hR
    refine awp_exit ?_; refine seqQ_x ?_; refine seqQ_x ?_; refine blockQ_x rfl ?_; refine seqQ_n ?_; refine zS ?_; refine zMv ?_; refine zAs ?_; refine zN ?_; refine awp_ret ?_
    refine post_is (.tmp rfl .nil) zKeep ?_
    cases hR; rfl
theorem rgreat_con (c : List Mem) (s : Int) : Con Tryz.prog 41 [cv c, .i s] [] (Is (.i (great c s : Int)) []) := by
  cases h : valid s with
  | false => rw [great_inval h]; exact rgreat0_con c s h
  | true =>
    obtain ⟨m, rfl, hm⟩ := valid_nat h
    exact rgreatN_con c m hm
theorem v32 : validC (sameC 3 2) = 0 := same_valid (by omega) (by omega)
theorem a32 : aloneC (sameC 3 2) 0 = false := by kernel_rfl
theorem eq2_29 : Eq2S Tryz.prog 29 := ⟨by kernel_rfl, fun a c s u w => by
  have u3 := Tryz.underlying3
  have a3 := Tryz.isAgg3
  have z3 := Tryz.sizeOf3
  have u4 := Tryz.underlying9
  have a4 := Tryz.isAgg9
  have z4 := Tryz.sizeOf9
  have hS : Tryz.prog.underlying 29 = some (.struct (Tryz.prog.fieldsOf 29)) := by kernel_rfl
  have hp : Tryz.prog.stoodInHeld 29 = false := by kernel_rfl
  rw [show (10000 : Nat) = 9999 + 1 from rfl, run_equalIn_agg w 9999 29 _ _ hS hp]
  simp only [Program.fieldsOf, Tryz.underlying29]
  go_simp
  by_cases h1 : a = c <;> by_cases h2 : s.toList = u.toList <;> simp [h1, h2]⟩
theorem bcl {x y : Bool} (h : x = y) : resD [D.b x] = D.b y := by rw [h]; rfl
theorem icl {x y : Int} (h : x = y) : resD [D.i x] = D.i y := by rw [h]; rfl
theorem nani_con (a : Int) : Con Tryz.prog 157 [.i a] [] (Is (.b false) []) := by
  have hcap : capB = 140737488355328 := rfl
  refine con_intro Tryz.func157 rfl Tryz.call157 rfl ?_
  refine zS ?_; refine zAs ?_; refine zN (zS ?_); refine zMv ?_; refine zMv ?_; refine zCm ?_; refine zAs ?_; refine zN ?_; refine awp_ret ?_
  refine post_is (.tmp rfl .nil) zKeep (bcl (by simp))
theorem nans_con (a : Str) : Con Tryz.prog 159 [.v (.string a)] [] (Is (.b false) []) := by
  have hcap : capB = 140737488355328 := rfl
  refine con_intro Tryz.func159 rfl Tryz.call159 rfl ?_
  refine zS ?_; refine zAs ?_; refine zN (zS ?_); refine zMv ?_; refine zMv ?_
  refine zP (ap_scmp rfl rfl rfl) ?_
  refine zAs ?_; refine zN ?_; refine awp_ret ?_
  refine post_is (.tmp rfl .nil) zKeep (bcl (by simp))
theorem cmpi_con (a b : Int) : Con Tryz.prog 151 [.i a, .i b] [] (Is (.i (sg a b)) []) := by
  have hcap : capB = 140737488355328 := rfl
  refine con_intro Tryz.func151 rfl Tryz.call151 rfl ?_
  refine zS ?_; refine zAs ?_; refine zN (zS ?_); refine zMv ?_
  refine aops_call_v zRc (nani_con _) rfl rfl ?_
  refine zAs ?_; refine zN (zS ?_); refine zMv ?_
  refine aops_call_v zRc (nani_con _) rfl rfl ?_
  refine zAs ?_; refine zN ?_; refine awp_seq ?_; refine zS ?_; refine zMv ?_; refine zN ?_
  refine awp_cond_f rfl zDec ?_
  refine awp_skip ?_; refine seqQ_n ?_; refine awp_seq ?_; refine zS ?_; refine zMv ?_; refine zN ?_
  refine awp_cond_f rfl zDec ?_
  refine awp_skip ?_; refine seqQ_n ?_; refine awp_seq ?_; refine zS ?_; refine zMv ?_; refine zMv ?_; refine zCm ?_; refine zN ?_
  refine zC (fun hc => ?_) fun hc => ?_
  · have h1 := of_decide_eq_true hc
    refine zS ?_; refine zAs ?_; refine zN ?_; refine awp_ret ?_; refine seqQ_r ?_
    refine post_is (.tmp rfl .nil) zKeep (icl (by unfold sg; rw [if_pos h1]))
  · have h1 := of_decide_eq_false hc
    refine awp_skip ?_; refine seqQ_n ?_; refine awp_seq ?_; refine zS ?_; refine zMv ?_; refine zMv ?_; refine zCm ?_; refine zN ?_
    refine zC (fun hc => ?_) fun hc => ?_
    · have h2 := of_decide_eq_true hc
      refine zS ?_; refine zAs ?_; refine zN ?_; refine awp_ret ?_; refine seqQ_r ?_
      refine post_is (.tmp rfl .nil) zKeep (icl (by unfold sg; rw [if_neg h1, if_pos h2]))
    · have h2 := of_decide_eq_false hc
      refine awp_skip ?_; refine seqQ_n ?_; refine zS ?_; refine zAs ?_; refine zN ?_; refine awp_ret ?_
      refine post_is (.tmp rfl .nil) zKeep (icl (by unfold sg; rw [if_neg h1, if_neg h2]))
theorem cmps_con (a b : Str) : Con Tryz.prog 158 [.v (.string a), .v (.string b)] [] (Is (.i (s3 a b)) []) := by
  have hcap : capB = 140737488355328 := rfl
  refine con_intro Tryz.func158 rfl Tryz.call158 rfl ?_
  refine zS ?_; refine zAs ?_; refine zN (zS ?_); refine zMv ?_
  refine aops_call_v zRc (nans_con _) rfl rfl ?_
  refine zAs ?_; refine zN (zS ?_); refine zMv ?_
  refine aops_call_v zRc (nans_con _) rfl rfl ?_
  refine zAs ?_; refine zN ?_; refine awp_seq ?_; refine zS ?_; refine zMv ?_; refine zN ?_
  refine awp_cond_f rfl zDec ?_
  refine awp_skip ?_; refine seqQ_n ?_; refine awp_seq ?_; refine zS ?_; refine zMv ?_; refine zN ?_
  refine awp_cond_f rfl zDec ?_
  refine awp_skip ?_; refine seqQ_n ?_; refine awp_seq ?_; refine zS ?_; refine zMv ?_; refine zMv ?_
  refine zP (ap_scmp rfl rfl rfl) ?_
  refine zN ?_
  refine zC (fun hc => ?_) fun hc => ?_
  · have h1 : sLt a b = true := hc
    refine zS ?_; refine zAs ?_; refine zN ?_; refine awp_ret ?_; refine seqQ_r ?_
    refine post_is (.tmp rfl .nil) zKeep (icl (by unfold s3; rw [if_pos h1]))
  · have h1 : sLt a b = false := hc
    refine awp_skip ?_; refine seqQ_n ?_; refine awp_seq ?_; refine zS ?_; refine zMv ?_; refine zMv ?_
    refine zP (ap_scmp rfl rfl rfl) ?_
    refine zN ?_
    refine zC (fun hc => ?_) fun hc => ?_
    · have h2 : (!(sLt a b || decide (a = b))) = true := hc
      refine zS ?_; refine zAs ?_; refine zN ?_; refine awp_ret ?_; refine seqQ_r ?_
      refine post_is (.tmp rfl .nil) zKeep (icl (by unfold s3; rw [if_neg (by rw [h1]; decide), if_pos h2]))
    · have h2 : (!(sLt a b || decide (a = b))) = false := hc
      refine awp_skip ?_; refine seqQ_n ?_; refine zS ?_; refine zAs ?_; refine zN ?_; refine awp_ret ?_
      refine post_is (.tmp rfl .nil) zKeep (icl (by unfold s3; rw [if_neg (by rw [h1]; decide), if_neg (by rw [h2]; decide)]))
def orL : List Int → Int
  | [] => 0
  | x :: r => if x = 0 then orL r else x
theorem orL_2 (a b : Int) : orL [a, b] = or3 a b := by
  unfold or3
  simp only [orL]
  split
  · split
    · omega
    · rfl
  · rfl
theorem orL_con (l : List Int) : Con Tryz.prog 150 [.sl 1 (l.map .i)] [] (Is (.i (orL l)) []) := by
  have hcap : capB = 140737488355328 := rfl
  have hml : (l.map D.i).length = l.length := by simp
  refine con_intro Tryz.func150 rfl Tryz.call150 rfl ?_
  refine zS ?_; refine zAs ?_; refine zN (zS ?_); refine zAs ?_; refine zN ?_; refine awp_seq ?_; refine zS ?_; refine zMv ?_
  first | refine aops_len rfl rfl rfl rfl (fun _ => ?_) | refine zP (ap_len_arr rfl zUpd rfl) ?_ | refine zP (ap_len_nil rfl rfl) ?_
  refine zMv ?_; refine zN ?_; refine awp_block ?_
  refine awp_loop1 [3, 6, 7] [] (fun (k : Nat) r => (8, .i (k : Int)) :: r) (fun (k : Nat) r => r) (fun (k : Nat) => k ≤ l.length ∧ orL (l.drop k) = orL l) (fun (k : Nat) => l.length - k) (0) zRc ⟨by omega, by simp⟩ (wk zSub zKeep) ?_
  intro k ⟨hk, hI⟩
  refine zS ?_; refine zCm ?_; refine zN ?_; refine awp_seq ?_
  refine zC (fun hc => ?_) fun hc => ?_
  · have hlt := of_decide_eq_true hc
    obtain ⟨x, hx, hd⟩ := drop_cons (l := l) (k := k) (by omega)
    have hx' := getMap D.i hx
    refine awp_skip ?_; refine seqQ_n ?_; refine awp_seq ?_; refine awp_block ?_; refine zS ?_
    first | refine zP (ap_index rfl rfl rfl rfl (by decide) rfl zAss) ?_ | refine zP (ap_index rfl rfl rfl rfl (by decide) (by omega) zAss) ?_ | refine zP (ap_index_own rfl rfl rfl rfl rfl (by first | omega | (simp only [List.length_map, List.length_set, avs_len]; omega))) ?_
    refine zL1 ?_; refine zAs ?_; refine zN (zS ?_); refine zMv ?_; refine zMv ?_; refine zCm ?_; refine zN ?_
    refine zC (fun hc => ?_) fun hc => ?_
    · refine awp_seq ?_
      refine awp_region ?_; refine zMv ?_; refine zAs ?_; refine zN ?_; refine awp_ret ?_; refine blockQ_r ?_; refine seqQ_r ?_; refine seqQ_r ?_; refine blockQ_r ?_; refine seqQ_r ?_
      refine post_is (.tmp rfl .nil) zKeep (icl ?_)
      rw [hd] at hI; simp only [orL] at hI; rw [if_neg (by have := of_neq_true hc; omega)] at hI; exact hI
    · refine awp_skip ?_
      refine blockQ_n ?_; refine seqQ_n ?_; refine awp_region ?_; refine zAr ?_; refine zMv ?_; refine zN ?_
      rw [hd] at hI; simp only [orL] at hI; rw [if_pos (by have := of_neq_false hc; omega)] at hI
      refine ⟨k + 1, ⟨by omega, hI⟩, by omega, wk zSub zKeep⟩
  · have hge := of_decide_eq_false hc
    rw [drop_nil (by omega)] at hI
    refine awp_exit ?_; refine seqQ_x ?_; refine seqQ_x ?_; refine blockQ_x rfl ?_; refine seqQ_n ?_; refine zS ?_; refine zMv ?_; refine zAs ?_; refine zN ?_; refine awp_ret ?_
    refine post_is (.tmp rfl .nil) zKeep (icl hI)
theorem or_con (a b : Int) : Con Tryz.prog 150 [.sl 1 [.i a, .i b]] [] (Is (.i (or3 a b)) []) := by
  have h := orL_con [a, b]
  rwa [orL_2] at h
theorem cv_con (a b : Str) : Con Tryz.prog 152 [.v (.string a), .v (.string b)] [] (Is (.i (cV a b)) []) := by
  have hcap : capB = 140737488355328 := rfl
  refine con_intro Tryz.func152 rfl Tryz.call152 rfl ?_
  refine zS ?_; refine zAs ?_; refine zN (zS ?_); refine zMv ?_
  refine zP (ap_len_str rfl rfl) ?_
  refine zMv ?_
  refine zP (ap_len_str rfl rfl) ?_
  refine aops_call_v zRc (cmpi_con _ _) rfl rfl ?_
  refine zMv ?_; refine zMv ?_
  refine aops_call_v zRc (cmps_con _ _) rfl rfl ?_
  refine aops_lit (e := 3) (sz := 1) (by_ := 8) rfl rfl zRc rfl rfl rfl rfl ?_
  refine aops_call_v zRc (or_con _ _) rfl rfl ?_
  refine zAs ?_; refine zN ?_; refine awp_ret ?_
  refine post_is (.tmp rfl .nil) zKeep rfl
theorem cm_con (a b : Bal) : Con Tryz.prog 144 [bv a, bv b] [] (Is (.i (cmB a b)) []) := by
  have hcap : capB = 140737488355328 := rfl
  refine con_intro Tryz.func144 rfl Tryz.call144 rfl ?_
  refine zS ?_
  refine aops_box rfl zFlat rfl rfl (fun b2 => ?_)
  refine aops_box rfl zFlat rfl rfl (fun b3 => ?_)
  refine zAs ?_; refine zN ?_; refine awp_seq ?_
  refine awp_draw (Hm := []) zKr zSplit ?_
  refine zTF 0 0 1 false ?_; refine zTL 1 ?_; refine zTF 2 0 1 false ?_; refine zTL 3 ?_; refine zTF 5 1 1 false ?_; refine zTL 6 ?_; refine zTF 7 1 1 false ?_; refine zTL 8 ?_
  refine aany_one 4 zKr rfl (.none rfl) ?_
  refine aops_call_v zRc (cmpi_con a.n b.n) rfl rfl ?_
  refine aops_nil ?_
  refine aany_one 9 zKr rfl (.none rfl) ?_
  refine aops_call_v zRc (cv_con a.v b.v) rfl rfl ?_
  refine aops_nil ?_
  refine aany_one 10 zKr rfl (.none rfl) ?_
  refine aops_lit (e := 3) (sz := 1) (by_ := 8) rfl rfl zRc rfl rfl rfl rfl ?_
  refine aops_nil ?_
  refine aany_one 11 zKr rfl (.none rfl) ?_
  refine aops_call_v zRc (or_con _ _) rfl rfl ?_
  refine aops_nil ?_
  refine zT 12 rfl (AP.ar (ap_assign rfl)) ?_
  refine aany_nil zKr ?_
  all_goals (
    refine seqQ_n ?_; refine awp_ret ?_
    refine post_is (.tmp rfl .nil) zKeep rfl
    )
theorem bz_con (b : Bal) : Con Tryz.prog 53 [bv b] [] (Is (.b (zB b)) []) := by
  have hcap : capB = 140737488355328 := rfl
  refine con_intro Tryz.func53 rfl Tryz.call53 rfl ?_
  refine zS ?_
  refine aops_box rfl zFlat rfl rfl (fun b1 => ?_)
  refine zAs ?_; refine zN (zS ?_); refine zLd ?_
  refine zP (ap_build zKr rfl zRc zFill) ?_
  refine zP (ap_eqs rfl rfl eq2_29) ?_
  refine zAs ?_; refine zN ?_; refine awp_ret ?_
  refine post_is (.tmp rfl .nil) zKeep rfl
theorem bc_con (a b : Bal) : Con Tryz.prog 81 [bv a, bv b] [] (Is (.b (cB a b)) []) := by
  have hcap : capB = 140737488355328 := rfl
  refine con_intro Tryz.func81 rfl Tryz.call81 rfl ?_
  refine zS ?_
  refine aops_box rfl zFlat rfl rfl (fun b2 => ?_)
  refine aops_box rfl zFlat rfl rfl (fun b3 => ?_)
  refine zAs ?_; refine zN (zS ?_); refine zF 1 1 false ?_; refine zL1 ?_; refine zF 1 1 false ?_; refine zL1 ?_
  refine zP (ap_scmp rfl rfl rfl) ?_
  refine zAs ?_; refine zN ?_; refine awp_ret ?_
  refine post_is (.tmp rfl .nil) zKeep rfl
theorem bl_con (a b : Bal) : Con Tryz.prog 126 [bv a, bv b] [] (Is (.b (lB a b)) []) := by
  have hcap : capB = 140737488355328 := rfl
  refine con_intro Tryz.func126 rfl Tryz.call126 rfl ?_
  refine zS ?_
  refine aops_box rfl zFlat rfl rfl (fun b2 => ?_)
  refine aops_box rfl zFlat rfl rfl (fun b3 => ?_)
  refine zAs ?_; refine zN (zS ?_); refine zLd ?_; refine zLd ?_
  refine aops_call_v zRc (cm_con a b) rfl rfl ?_
  refine zCm ?_; refine zAs ?_; refine zN ?_; refine awp_ret ?_
  refine post_is (.tmp rfl .nil) zKeep rfl
theorem bval_con (b : Bal) : Con Tryz.prog 105 [bv b] [] (Is (.b (vB b)) []) := by
  have hcap : capB = 140737488355328 := rfl
  refine con_intro Tryz.func105 rfl Tryz.call105 rfl ?_
  refine zS ?_
  refine aops_box rfl zFlat rfl rfl (fun b1 => ?_)
  refine zAs ?_; refine zN (zS ?_); refine zF 0 1 false ?_; refine zL1 ?_; refine zCm ?_; refine zMv ?_
  all_goals first | (refine zY ?_; refine zF 0 1 false ?_) | refine zU ?_ | refine zNt ?_ | (refine zGt (fun hg => ?_) fun hg => ?_; case' _ => refine zF 0 1 false ?_)
  all_goals first | (refine zY ?_; refine zL1 ?_) | refine zU ?_ | refine zNt ?_ | (refine zGt (fun hg => ?_) fun hg => ?_; case' _ => refine zL1 ?_)
  all_goals first | (refine zY ?_; refine zCm ?_) | refine zU ?_ | refine zNt ?_ | (refine zGt (fun hg => ?_) fun hg => ?_; case' _ => refine zCm ?_)
  all_goals refine zPk ?_
  all_goals refine zMv ?_
  all_goals first | (refine zY ?_; refine zF 0 1 false ?_) | refine zU ?_ | refine zNf ?_ | (refine zGf (fun hg => ?_) fun hg => ?_; case' _ => refine zF 0 1 false ?_)
  all_goals first | (refine zY ?_; refine zL1 ?_) | refine zU ?_ | refine zNf ?_ | (refine zGf (fun hg => ?_) fun hg => ?_; case' _ => refine zL1 ?_)
  all_goals first | (refine zY ?_; refine zCm ?_) | refine zU ?_ | refine zNf ?_ | (refine zGf (fun hg => ?_) fun hg => ?_; case' _ => refine zCm ?_)
  all_goals refine zPk ?_
  all_goals refine zAs ?_
  all_goals (
    refine zN (zS ?_); refine zMv ?_; refine zMv ?_
    all_goals first | (refine zY ?_; refine zF 1 1 false ?_) | refine zU ?_ | refine zNt ?_ | (refine zGt (fun hg => ?_) fun hg => ?_; case' _ => refine zF 1 1 false ?_)
    all_goals first | (refine zY ?_; refine zL1 ?_) | refine zU ?_ | refine zNt ?_ | (refine zGt (fun hg => ?_) fun hg => ?_; case' _ => refine zL1 ?_)
    all_goals first | (refine zY ?_; refine zP (ap_len_str rfl rfl) ?_) | refine zU ?_ | refine zNt ?_ | (refine zGt (fun hg => ?_) fun hg => ?_; case' _ => refine zP (ap_len_str rfl rfl) ?_)
    all_goals first | (refine zY ?_; refine zCm ?_) | refine zU ?_ | refine zNt ?_ | (refine zGt (fun hg => ?_) fun hg => ?_; case' _ => refine zCm ?_)
    all_goals refine zPk ?_
    all_goals refine zMv ?_
    all_goals first | (refine zY ?_; refine zF 1 1 false ?_) | refine zU ?_ | refine zNt ?_ | (refine zGt (fun hg => ?_) fun hg => ?_; case' _ => refine zF 1 1 false ?_)
    all_goals first | (refine zY ?_; refine zL1 ?_) | refine zU ?_ | refine zNt ?_ | (refine zGt (fun hg => ?_) fun hg => ?_; case' _ => refine zL1 ?_)
    all_goals first | (refine zY ?_; refine zP (ap_len_str rfl rfl) ?_) | refine zU ?_ | refine zNt ?_ | (refine zGt (fun hg => ?_) fun hg => ?_; case' _ => refine zP (ap_len_str rfl rfl) ?_)
    all_goals first | (refine zY ?_; refine zCm ?_) | refine zU ?_ | refine zNt ?_ | (refine zGt (fun hg => ?_) fun hg => ?_; case' _ => refine zCm ?_)
    all_goals refine zPk ?_
    all_goals refine zAs ?_
    all_goals (
      refine zN ?_; refine awp_ret ?_
      refine post_is (.tmp rfl .nil) zKeep (bcl ?_)
      first | rfl | (simp only [vB]; simp [*]; done) | grind [vB]
      )
    )
theorem bcov_con (p b : Bal) : Con Tryz.prog 130 [bv p, bv b] [] (Is (.b (covB p b)) []) := by
  have hcap : capB = 140737488355328 := rfl
  refine con_intro Tryz.func130 rfl Tryz.call130 rfl ?_
  refine zS ?_
  refine aops_box rfl zFlat rfl rfl (fun b2 => ?_)
  refine aops_box rfl zFlat rfl rfl (fun b3 => ?_)
  refine zAs ?_; refine zN (zS ?_); refine zLd ?_
  refine aops_call_v zRc (bz_con p) rfl rfl ?_
  refine zNo ?_; refine zMv ?_
  all_goals first | (refine zY ?_; refine zLd ?_) | refine zU ?_ | refine zNt ?_ | (refine zGt (fun hg => ?_) fun hg => ?_; case' _ => refine zLd ?_)
  all_goals first | (refine zY ?_; refine zLd ?_) | refine zU ?_ | refine zNt ?_ | (refine zGt (fun hg => ?_) fun hg => ?_; case' _ => refine zLd ?_)
  all_goals first | (refine zY ?_; refine aops_call_v zRc (bc_con p b) rfl rfl ?_) | refine zU ?_ | refine zNt ?_ | (refine zGt (fun hg => ?_) fun hg => ?_; case' _ => refine aops_call_v zRc (bc_con p b) rfl rfl ?_)
  all_goals refine zPk ?_
  all_goals refine zMv ?_
  all_goals first | (refine zY ?_; refine zF 0 1 false ?_) | refine zU ?_ | refine zNt ?_ | (refine zGt (fun hg => ?_) fun hg => ?_; case' _ => refine zF 0 1 false ?_)
  all_goals first | (refine zY ?_; refine zL1 ?_) | refine zU ?_ | refine zNt ?_ | (refine zGt (fun hg => ?_) fun hg => ?_; case' _ => refine zL1 ?_)
  all_goals first | (refine zY ?_; refine zF 0 1 false ?_) | refine zU ?_ | refine zNt ?_ | (refine zGt (fun hg => ?_) fun hg => ?_; case' _ => refine zF 0 1 false ?_)
  all_goals first | (refine zY ?_; refine zL1 ?_) | refine zU ?_ | refine zNt ?_ | (refine zGt (fun hg => ?_) fun hg => ?_; case' _ => refine zL1 ?_)
  all_goals first | (refine zY ?_; refine zCm ?_) | refine zU ?_ | refine zNt ?_ | (refine zGt (fun hg => ?_) fun hg => ?_; case' _ => refine zCm ?_)
  all_goals refine zPk ?_
  all_goals refine zAs ?_
  all_goals (
    refine zN ?_; refine awp_ret ?_
    refine post_is (.tmp rfl .nil) zKeep (bcl ?_)
    first | rfl | (simp only [covB]; simp [*]; done) | grind [covB]
    )
theorem bab_con (p b : Bal) : Con Tryz.prog 129 [bv p, bv b] [] (Is (.b (abB p b)) []) := by
  have hcap : capB = 140737488355328 := rfl
  refine con_intro Tryz.func129 rfl Tryz.call129 rfl ?_
  refine zS ?_
  refine aops_box rfl zFlat rfl rfl (fun b2 => ?_)
  refine aops_box rfl zFlat rfl rfl (fun b3 => ?_)
  refine zAs ?_; refine zN (zS ?_); refine zLd ?_
  refine aops_call_v zRc (bz_con p) rfl rfl ?_
  refine zNo ?_; refine zMv ?_
  all_goals first | (refine zY ?_; refine zLd ?_) | refine zU ?_ | refine zNt ?_ | (refine zGt (fun hg => ?_) fun hg => ?_; case' _ => refine zLd ?_)
  all_goals first | (refine zY ?_; refine zLd ?_) | refine zU ?_ | refine zNt ?_ | (refine zGt (fun hg => ?_) fun hg => ?_; case' _ => refine zLd ?_)
  all_goals first | (refine zY ?_; refine aops_call_v zRc (bc_con p b) rfl rfl ?_) | refine zU ?_ | refine zNt ?_ | (refine zGt (fun hg => ?_) fun hg => ?_; case' _ => refine aops_call_v zRc (bc_con p b) rfl rfl ?_)
  all_goals first | (refine zY ?_; refine zNo ?_) | refine zU ?_ | refine zNt ?_ | (refine zGt (fun hg => ?_) fun hg => ?_; case' _ => refine zNo ?_)
  all_goals refine zPk ?_
  all_goals refine zMv ?_
  all_goals first | (refine zY ?_; refine zLd ?_) | refine zU ?_ | refine zNt ?_ | (refine zGt (fun hg => ?_) fun hg => ?_; case' _ => refine zLd ?_)
  all_goals first | (refine zY ?_; refine zLd ?_) | refine zU ?_ | refine zNt ?_ | (refine zGt (fun hg => ?_) fun hg => ?_; case' _ => refine zLd ?_)
  all_goals first | (refine zY ?_; refine aops_call_v zRc (bl_con b p) rfl rfl ?_) | refine zU ?_ | refine zNt ?_ | (refine zGt (fun hg => ?_) fun hg => ?_; case' _ => refine aops_call_v zRc (bl_con b p) rfl rfl ?_)
  all_goals refine zPk ?_
  all_goals refine zAs ?_
  all_goals (
    refine zN ?_; refine awp_ret ?_
    refine post_is (.tmp rfl .nil) zKeep (bcl ?_)
    first | rfl | (simp only [abB]; simp [*]; done) | grind [abB]
    )
theorem bpr_con (p q b : Bal) : Con Tryz.prog 106 [bv p, bv q, bv b] [] (Is (.b (prB p q b)) []) := by
  have hcap : capB = 140737488355328 := rfl
  refine con_intro Tryz.func106 rfl Tryz.call106 rfl ?_
  refine zS ?_
  refine aops_box rfl zFlat rfl rfl (fun b3 => ?_)
  refine aops_box rfl zFlat rfl rfl (fun b4 => ?_)
  refine aops_box rfl zFlat rfl rfl (fun b5 => ?_)
  refine zAs ?_; refine zN (zS ?_); refine zLd ?_; refine zLd ?_
  refine aops_call_v zRc (bcov_con p b) rfl rfl ?_
  refine zMv ?_
  all_goals first | (refine zY ?_; refine zLd ?_) | refine zU ?_ | refine zNf ?_ | (refine zGf (fun hg => ?_) fun hg => ?_; case' _ => refine zLd ?_)
  all_goals first | (refine zY ?_; refine zLd ?_) | refine zU ?_ | refine zNf ?_ | (refine zGf (fun hg => ?_) fun hg => ?_; case' _ => refine zLd ?_)
  all_goals first | (refine zY ?_; refine aops_call_v zRc (bcov_con q b) rfl rfl ?_) | refine zU ?_ | refine zNf ?_ | (refine zGf (fun hg => ?_) fun hg => ?_; case' _ => refine aops_call_v zRc (bcov_con q b) rfl rfl ?_)
  all_goals refine zPk ?_
  all_goals refine zMv ?_
  all_goals first | (refine zY ?_; refine zLd ?_) | refine zU ?_ | refine zNf ?_ | (refine zGf (fun hg => ?_) fun hg => ?_; case' _ => refine zLd ?_)
  all_goals first | (refine zY ?_; refine aops_call_v zRc (bz_con q) rfl rfl ?_) | refine zU ?_ | refine zNf ?_ | (refine zGf (fun hg => ?_) fun hg => ?_; case' _ => refine aops_call_v zRc (bz_con q) rfl rfl ?_)
  all_goals first | (refine zY ?_; refine zNo ?_) | refine zU ?_ | refine zNf ?_ | (refine zGf (fun hg => ?_) fun hg => ?_; case' _ => refine zNo ?_)
  all_goals first | (refine zY ?_; refine zMv ?_) | refine zU ?_ | refine zNf ?_ | (refine zGf (fun hg => ?_) fun hg => ?_; case' _ => refine zMv ?_)
  all_goals first | (refine zY ?_; refine zLd ?_) | refine zU ?_ | refine zNt ?_ | (refine zGt (fun hg => ?_) fun hg => ?_; case' _ => refine zLd ?_)
  all_goals first | (refine zY ?_; refine zLd ?_) | refine zU ?_ | refine zNt ?_ | (refine zGt (fun hg => ?_) fun hg => ?_; case' _ => refine zLd ?_)
  all_goals first | (refine zY ?_; refine aops_call_v zRc (bl_con b q) rfl rfl ?_) | refine zU ?_ | refine zNt ?_ | (refine zGt (fun hg => ?_) fun hg => ?_; case' _ => refine aops_call_v zRc (bl_con b q) rfl rfl ?_)
  all_goals (first | (refine aops_yes rfl rfl rfl rfl zDec ?_; refine zPk ?_) | refine aops_no_u rfl rfl rfl ?_ | refine aops_no_f rfl rfl rfl rfl zDec ?_ | (refine aops_guard_f rfl rfl rfl rfl (fun hg => ?_) (fun hg => ?_); case' _ => refine zPk ?_))
  all_goals refine zPk ?_
  all_goals refine zAs ?_
  all_goals (
    refine zN ?_; refine awp_ret ?_
    refine post_is (.tmp rfl .nil) zKeep (bcl ?_)
    first | rfl | (simp only [prB]; simp [*]; done) | grind [prB]
    )
theorem eat_con (e : Evp) (k : Int) : Con Tryz.prog 128 [ev e, .i k] [] (Is (bv (at_ e k)) []) := by
  have hcap : capB = 140737488355328 := rfl
  refine con_intro Tryz.func128 rfl Tryz.call128 rfl ?_
  refine zS ?_
  refine aops_box rfl zFlat rfl rfl (fun b2 => ?_)
  refine aops_alloc rfl zRc rfl rfl (fun b4 => ?_)
  refine zN (zS ?_); refine zMv ?_; refine zF 7 2 true ?_; refine zF 1 1 false ?_; refine zL1 ?_
  refine zP (ap_build zKr rfl zRc zFill) ?_
  refine zSt ?_; refine zN ?_; refine awp_ret ?_
  refine post_is (.cell rfl zUpd rfl rfl .nil) zKeep rfl
theorem efin_con (b : Bal) : Con Tryz.prog 104 [bv b] [] (Is (.b (finB b)) []) := by
  have hcap : capB = 140737488355328 := rfl
  refine con_intro Tryz.func104 rfl Tryz.call104 rfl ?_
  refine zS ?_
  refine aops_box rfl zFlat rfl rfl (fun b1 => ?_)
  refine zAs ?_; refine zN (zS ?_); refine zLd ?_
  refine aops_call_v zRc (bval_con b) rfl rfl ?_
  refine zMv ?_
  all_goals first | (refine zY ?_; refine zF 0 1 false ?_) | refine zU ?_ | refine zNt ?_ | (refine zGt (fun hg => ?_) fun hg => ?_; case' _ => refine zF 0 1 false ?_)
  all_goals first | (refine zY ?_; refine zL1 ?_) | refine zU ?_ | refine zNt ?_ | (refine zGt (fun hg => ?_) fun hg => ?_; case' _ => refine zL1 ?_)
  all_goals first | (refine zY ?_; refine zCm ?_) | refine zU ?_ | refine zNt ?_ | (refine zGt (fun hg => ?_) fun hg => ?_; case' _ => refine zCm ?_)
  all_goals refine zPk ?_
  all_goals refine zAs ?_
  all_goals (
    refine zN ?_; refine awp_ret ?_
    refine post_is (.tmp rfl .nil) zKeep (bcl ?_)
    first | rfl | (simp only [finB]; simp [*]; done) | grind [finB]
    )
theorem eopt_con (b : Bal) : Con Tryz.prog 127 [bv b] [] (Is (.b (optB b)) []) := by
  have hcap : capB = 140737488355328 := rfl
  refine con_intro Tryz.func127 rfl Tryz.call127 rfl ?_
  refine zS ?_
  refine aops_box rfl zFlat rfl rfl (fun b1 => ?_)
  refine zAs ?_; refine zN (zS ?_); refine zLd ?_
  refine aops_call_v zRc (bz_con b) rfl rfl ?_
  refine zMv ?_
  all_goals first | (refine zY ?_; refine zLd ?_) | refine zU ?_ | refine zNf ?_ | (refine zGf (fun hg => ?_) fun hg => ?_; case' _ => refine zLd ?_)
  all_goals first | (refine zY ?_; refine aops_call_v zRc (bval_con b) rfl rfl ?_) | refine zU ?_ | refine zNf ?_ | (refine zGf (fun hg => ?_) fun hg => ?_; case' _ => refine aops_call_v zRc (bval_con b) rfl rfl ?_)
  all_goals refine zPk ?_
  all_goals refine zAs ?_
  all_goals (
    refine zN ?_; refine awp_ret ?_
    refine post_is (.tmp rfl .nil) zKeep (bcl ?_)
    first | rfl | (simp only [optB]; simp [*]; done) | grind [optB]
    )
set_option maxHeartbeats 2000000 in
theorem eprep_con (e : Evp) : Con Tryz.prog 103 [ev e] [] (Is (.b (prepE e)) []) := by
  have hcap : capB = 140737488355328 := rfl
  refine con_intro Tryz.func103 rfl Tryz.call103 rfl ?_
  refine zS ?_
  refine aops_box rfl zFlat rfl rfl (fun b1 => ?_)
  refine zAs ?_; refine zN (zS ?_); refine zF 11 2 true ?_; refine zLd ?_
  refine aops_call_v zRc (bz_con e.prime) rfl rfl ?_
  refine zMv ?_
  all_goals first | (refine zY ?_; refine zF 9 2 true ?_) | refine zU ?_ | refine zNf ?_ | (refine zGf (fun hg => ?_) fun hg => ?_; case' _ => refine zF 9 2 true ?_)
  all_goals first | (refine zY ?_; refine zLd ?_) | refine zU ?_ | refine zNf ?_ | (refine zGf (fun hg => ?_) fun hg => ?_; case' _ => refine zLd ?_)
  all_goals first | (refine zY ?_; refine aops_call_v zRc (bz_con e.prep) rfl rfl ?_) | refine zU ?_ | refine zNf ?_ | (refine zGf (fun hg => ?_) fun hg => ?_; case' _ => refine aops_call_v zRc (bz_con e.prep) rfl rfl ?_)
  all_goals first | (refine zY ?_; refine zNo ?_) | refine zU ?_ | refine zNf ?_ | (refine zGf (fun hg => ?_) fun hg => ?_; case' _ => refine zNo ?_)
  all_goals first | (refine zY ?_; refine zMv ?_) | refine zU ?_ | refine zNf ?_ | (refine zGf (fun hg => ?_) fun hg => ?_; case' _ => refine zMv ?_)
  all_goals first | (refine zY ?_; refine zF 11 2 true ?_) | refine zU ?_ | refine zNt ?_ | (refine zGt (fun hg => ?_) fun hg => ?_; case' _ => refine zF 11 2 true ?_)
  all_goals first | (refine zY ?_; refine zLd ?_) | refine zU ?_ | refine zNt ?_ | (refine zGt (fun hg => ?_) fun hg => ?_; case' _ => refine zLd ?_)
  all_goals first | (refine zY ?_; refine zF 9 2 true ?_) | refine zU ?_ | refine zNt ?_ | (refine zGt (fun hg => ?_) fun hg => ?_; case' _ => refine zF 9 2 true ?_)
  all_goals first | (refine zY ?_; refine zLd ?_) | refine zU ?_ | refine zNt ?_ | (refine zGt (fun hg => ?_) fun hg => ?_; case' _ => refine zLd ?_)
  all_goals first | (refine zY ?_; refine aops_call_v zRc (bl_con e.prime e.prep) rfl rfl ?_) | refine zU ?_ | refine zNt ?_ | (refine zGt (fun hg => ?_) fun hg => ?_; case' _ => refine aops_call_v zRc (bl_con e.prime e.prep) rfl rfl ?_)
  all_goals (first | (refine aops_yes rfl rfl rfl rfl zDec ?_; refine zPk ?_) | refine aops_no_u rfl rfl rfl ?_ | refine aops_no_f rfl rfl rfl rfl zDec ?_ | (refine aops_guard_f rfl rfl rfl rfl (fun hg => ?_) (fun hg => ?_); case' _ => refine zPk ?_))
  all_goals first | (refine zY ?_; refine zMv ?_) | refine zU ?_ | refine zNf ?_ | (refine zGf (fun hg => ?_) fun hg => ?_; case' _ => refine zMv ?_)
  all_goals first | (refine zY ?_; refine zF 11 2 true ?_) | refine zU ?_ | refine zNt ?_ | (refine zGt (fun hg => ?_) fun hg => ?_; case' _ => refine zF 11 2 true ?_)
  all_goals first | (refine zY ?_; refine zLd ?_) | refine zU ?_ | refine zNt ?_ | (refine zGt (fun hg => ?_) fun hg => ?_; case' _ => refine zLd ?_)
  all_goals first | (refine zY ?_; refine zF 9 2 true ?_) | refine zU ?_ | refine zNt ?_ | (refine zGt (fun hg => ?_) fun hg => ?_; case' _ => refine zF 9 2 true ?_)
  all_goals first | (refine zY ?_; refine zLd ?_) | refine zU ?_ | refine zNt ?_ | (refine zGt (fun hg => ?_) fun hg => ?_; case' _ => refine zLd ?_)
  all_goals first | (refine zY ?_; refine aops_call_v zRc (bc_con e.prime e.prep) rfl rfl ?_) | refine zU ?_ | refine zNt ?_ | (refine zGt (fun hg => ?_) fun hg => ?_; case' _ => refine aops_call_v zRc (bc_con e.prime e.prep) rfl rfl ?_)
  all_goals first | (refine zY ?_; refine zNo ?_) | refine zU ?_ | refine zNt ?_ | (refine zGt (fun hg => ?_) fun hg => ?_; case' _ => refine zNo ?_)
  all_goals (first | (refine aops_yes rfl rfl rfl rfl zDec ?_; refine zPk ?_) | refine aops_no_u rfl rfl rfl ?_ | refine aops_no_f rfl rfl rfl rfl zDec ?_ | (refine aops_guard_f rfl rfl rfl rfl (fun hg => ?_) (fun hg => ?_); case' _ => refine zPk ?_))
  all_goals refine zPk ?_
  all_goals refine zAs ?_
  all_goals (
    refine zN ?_; refine awp_seq ?_; refine zS ?_; refine zF 7 2 true ?_; refine zLd ?_
    refine aops_call_v zRc (efin_con e.bal) rfl rfl ?_
    refine zNo ?_; refine zMv ?_
    all_goals first | (refine zY ?_; refine zF 9 2 true ?_) | refine zU ?_ | refine zNf ?_ | (refine zGf (fun hg => ?_) fun hg => ?_; case' _ => refine zF 9 2 true ?_)
    all_goals first | (refine zY ?_; refine zLd ?_) | refine zU ?_ | refine zNf ?_ | (refine zGf (fun hg => ?_) fun hg => ?_; case' _ => refine zLd ?_)
    all_goals first | (refine zY ?_; refine aops_call_v zRc (eopt_con e.prep) rfl rfl ?_) | refine zU ?_ | refine zNf ?_ | (refine zGf (fun hg => ?_) fun hg => ?_; case' _ => refine aops_call_v zRc (eopt_con e.prep) rfl rfl ?_)
    all_goals first | (refine zY ?_; refine zNo ?_) | refine zU ?_ | refine zNf ?_ | (refine zGf (fun hg => ?_) fun hg => ?_; case' _ => refine zNo ?_)
    all_goals refine zPk ?_
    all_goals refine zMv ?_
    all_goals first | (refine zY ?_; refine zF 11 2 true ?_) | refine zU ?_ | refine zNf ?_ | (refine zGf (fun hg => ?_) fun hg => ?_; case' _ => refine zF 11 2 true ?_)
    all_goals first | (refine zY ?_; refine zLd ?_) | refine zU ?_ | refine zNf ?_ | (refine zGf (fun hg => ?_) fun hg => ?_; case' _ => refine zLd ?_)
    all_goals first | (refine zY ?_; refine aops_call_v zRc (eopt_con e.prime) rfl rfl ?_) | refine zU ?_ | refine zNf ?_ | (refine zGf (fun hg => ?_) fun hg => ?_; case' _ => refine aops_call_v zRc (eopt_con e.prime) rfl rfl ?_)
    all_goals first | (refine zY ?_; refine zNo ?_) | refine zU ?_ | refine zNf ?_ | (refine zGf (fun hg => ?_) fun hg => ?_; case' _ => refine zNo ?_)
    all_goals refine zPk ?_
    all_goals refine zMv ?_
    all_goals first | (refine zY ?_; refine zMv ?_) | refine zU ?_ | refine zNf ?_ | (refine zGf (fun hg => ?_) fun hg => ?_; case' _ => refine zMv ?_)
    all_goals first | (refine zY ?_; refine zNo ?_) | refine zU ?_ | refine zNf ?_ | (refine zGf (fun hg => ?_) fun hg => ?_; case' _ => refine zNo ?_)
    all_goals refine zPk ?_
    all_goals refine zMv ?_
    all_goals first | (refine zY ?_; refine zF 13 1 false ?_) | refine zU ?_ | refine zNf ?_ | (refine zGf (fun hg => ?_) fun hg => ?_; case' _ => refine zF 13 1 false ?_)
    all_goals first | (refine zY ?_; refine zL1 ?_) | refine zU ?_ | refine zNf ?_ | (refine zGf (fun hg => ?_) fun hg => ?_; case' _ => refine zL1 ?_)
    all_goals first | (refine zY ?_; refine zCm ?_) | refine zU ?_ | refine zNf ?_ | (refine zGf (fun hg => ?_) fun hg => ?_; case' _ => refine zCm ?_)
    all_goals refine zPk ?_
    all_goals refine zMv ?_
    all_goals first | (refine zY ?_; refine zF 14 1 false ?_) | refine zU ?_ | refine zNf ?_ | (refine zGf (fun hg => ?_) fun hg => ?_; case' _ => refine zF 14 1 false ?_)
    all_goals first | (refine zY ?_; refine zL1 ?_) | refine zU ?_ | refine zNf ?_ | (refine zGf (fun hg => ?_) fun hg => ?_; case' _ => refine zL1 ?_)
    all_goals first | (refine zY ?_; refine zF 13 1 false ?_) | refine zU ?_ | refine zNf ?_ | (refine zGf (fun hg => ?_) fun hg => ?_; case' _ => refine zF 13 1 false ?_)
    all_goals first | (refine zY ?_; refine zL1 ?_) | refine zU ?_ | refine zNf ?_ | (refine zGf (fun hg => ?_) fun hg => ?_; case' _ => refine zL1 ?_)
    all_goals first | (refine zY ?_; refine zCm ?_) | refine zU ?_ | refine zNf ?_ | (refine zGf (fun hg => ?_) fun hg => ?_; case' _ => refine zCm ?_)
    all_goals refine zPk ?_
    all_goals refine zMv ?_
    all_goals first | (refine zY ?_; refine zF 14 1 false ?_) | refine zU ?_ | refine zNf ?_ | (refine zGf (fun hg => ?_) fun hg => ?_; case' _ => refine zF 14 1 false ?_)
    all_goals first | (refine zY ?_; refine zL1 ?_) | refine zU ?_ | refine zNf ?_ | (refine zGf (fun hg => ?_) fun hg => ?_; case' _ => refine zL1 ?_)
    all_goals first | (refine zY ?_; refine zF 7 2 true ?_) | refine zU ?_ | refine zNf ?_ | (refine zGf (fun hg => ?_) fun hg => ?_; case' _ => refine zF 7 2 true ?_)
    all_goals first | (refine zY ?_; refine zF 0 1 false ?_) | refine zU ?_ | refine zNf ?_ | (refine zGf (fun hg => ?_) fun hg => ?_; case' _ => refine zF 0 1 false ?_)
    all_goals first | (refine zY ?_; refine zL1 ?_) | refine zU ?_ | refine zNf ?_ | (refine zGf (fun hg => ?_) fun hg => ?_; case' _ => refine zL1 ?_)
    all_goals first | (refine zY ?_; refine zCm ?_) | refine zU ?_ | refine zNf ?_ | (refine zGf (fun hg => ?_) fun hg => ?_; case' _ => refine zCm ?_)
    all_goals refine zPk ?_
    all_goals (
      refine zN ?_
      refine zC (fun hc => ?_) fun hc => ?_
      · first
        | (exact absurd hc (by decide))
        | (refine awp_seq ?_
           refine awp_region ?_; refine zAs ?_; refine zN ?_; refine awp_ret ?_; refine seqQ_r ?_
           refine post_is (.tmp rfl .nil) zKeep (bcl ?_)
           first | rfl | (simp only [prepE]; simp [*]; done) | grind [prepE]
          )
      · first
        | (exact absurd hc (by decide))
        | (refine awp_skip ?_
           refine seqQ_n ?_; refine zS ?_; refine zLd ?_; refine zF 13 1 false ?_; refine zL1 ?_
           refine aops_call_v zRc (eat_con e e.low) rfl rfl ?_
           refine aops_alloc rfl zRc rfl rfl (fun b4 => ?_)
           refine zSt ?_; refine zN ?_; refine awp_seq ?_
           refine awp_draw (Hm := []) zKr zSplit ?_
           refine zTF 0 14 1 false ?_; refine zTL 1 ?_
           refine zT 2 rfl (AP.ar (ap_cmp rfl rfl rfl)) ?_
           refine zT 3 rfl (AP.ar (ap_move rfl)) ?_
           refine aany_guard 3 rfl (fun hg => ?_) (fun hg => ?_)
           rotate_left
           case' _ =>
             refine zTF 4 9 2 true ?_; refine zTM 5 ?_; refine zTF 6 11 2 true ?_; refine zTM 7 ?_; refine zTM 8 ?_; refine zTF 9 14 1 false ?_; refine zTL 10 ?_
             refine aany_one 11 zKr rfl (.yes rfl rfl zDec) ?_
             refine aops_call_v zRc (eat_con e e.high) rfl rfl ?_
             refine aops_nil ?_
             refine aany_one 12 zKr rfl (.yes rfl rfl zDec) ?_
             refine aops_call_v zRc (bpr_con e.prep e.prime (at_ e e.high)) rfl rfl ?_
             refine aops_nil ?_; refine zTp 13 ?_
             refine zT 14 rfl (AP.ar (ap_move rfl)) ?_
             refine aany_guard 14 rfl (fun hg => ?_) (fun hg => ?_)
             rotate_left
             case' _ =>
               refine zK 15 ?_; refine zK 16 ?_; refine zK 17 ?_
               refine aany_skipu 18 rfl (.no rfl rfl (by first | (show _ = false; with_reducible assumption) | exact zDec)) zKr zKr zKr rfl rfl ?_
               refine zK 19 ?_; refine zK 20 ?_; refine zK 21 ?_; refine zK 22 ?_; refine zK 23 ?_
               refine aany_skipu 24 rfl (.nou rfl rfl) zKr zKr zKr rfl rfl ?_
               refine zK 25 ?_; refine zK 26 ?_; refine zK 27 ?_; refine zK 28 ?_; refine zK 29 ?_; refine zK 30 ?_; refine zK 31 ?_; refine zTp 32 ?_
               refine zT 33 rfl (AP.ar (ap_assign rfl)) ?_
               refine aany_nil zKr ?_
             rotate_right
             case' _ =>
               refine zTF 15 13 1 false ?_; refine zTL 16 ?_
               refine zT 17 rfl (AP.ar (ap_cmp rfl rfl rfl)) ?_
               refine zT 18 rfl (AP.ar (ap_move rfl)) ?_
               refine aany_guard 18 rfl (fun hg => ?_) (fun hg => ?_)
               rotate_left
               case' _ =>
                 refine zTF 19 9 2 true ?_; refine zTM 20 ?_; refine zTM 21 ?_
                 refine aany_one 22 zKr rfl (.yes rfl rfl zDec) ?_
                 refine aops_call_v zRc (bab_con e.prep (at_ e e.low)) rfl rfl ?_
                 refine aops_nil ?_
                 refine zT 23 rfl (AP.ar (ap_not rfl)) ?_
                 refine zT 24 rfl (AP.ar (ap_move rfl)) ?_
                 refine aany_guard 24 rfl (fun hg => ?_) (fun hg => ?_)
                 rotate_left
                 case' _ =>
                   refine zK 25 ?_; refine zK 26 ?_; refine zK 27 ?_; refine zK 28 ?_; refine zK 29 ?_; refine zTp 30 ?_; refine zTp 31 ?_; refine zTp 32 ?_
                   refine zT 33 rfl (AP.ar (ap_assign rfl)) ?_
                   refine aany_nil zKr ?_
                 rotate_right
                 case' _ =>
                   refine zTF 25 11 2 true ?_; refine zTM 26 ?_; refine zTM 27 ?_
                   refine aany_one 28 zKr rfl (.yes rfl rfl zDec) ?_
                   refine aops_call_v zRc (bab_con e.prime (at_ e e.low)) rfl rfl ?_
                   refine aops_nil ?_
                   refine zT 29 rfl (AP.ar (ap_not rfl)) ?_
                   refine zTp 30 ?_; refine zTp 31 ?_; refine zTp 32 ?_
                   refine zT 33 rfl (AP.ar (ap_assign rfl)) ?_
                   refine aany_nil zKr ?_
               rotate_right
               case' _ =>
                 refine zK 19 ?_; refine zK 20 ?_; refine zK 21 ?_; refine zK 22 ?_; refine zK 23 ?_
                 refine aany_skipu 24 rfl (.no rfl rfl (by first | (show _ = true; with_reducible assumption) | exact zDec)) zKr zKr zKr rfl rfl ?_
                 refine zK 25 ?_; refine zK 26 ?_; refine zK 27 ?_; refine zK 28 ?_; refine zK 29 ?_; refine zK 30 ?_; refine zTp 31 ?_; refine zTp 32 ?_
                 refine zT 33 rfl (AP.ar (ap_assign rfl)) ?_
                 refine aany_nil zKr ?_
           rotate_right
           case' _ =>
             refine zK 4 ?_; refine zK 5 ?_; refine zK 6 ?_; refine zK 7 ?_; refine zK 8 ?_; refine zK 9 ?_; refine zK 10 ?_; refine zK 11 ?_; refine zK 12 ?_; refine zTp 13 ?_
             refine zT 14 rfl (AP.ar (ap_move rfl)) ?_
             refine zTF 15 13 1 false ?_; refine zTL 16 ?_
             refine zT 17 rfl (AP.ar (ap_cmp rfl rfl rfl)) ?_
             refine zT 18 rfl (AP.ar (ap_move rfl)) ?_
             refine aany_guard 18 rfl (fun hg => ?_) (fun hg => ?_)
             rotate_left
             case' _ =>
               refine zTF 19 9 2 true ?_; refine zTM 20 ?_; refine zTM 21 ?_
               refine aany_one 22 zKr rfl (.yes rfl rfl zDec) ?_
               refine aops_call_v zRc (bab_con e.prep (at_ e e.low)) rfl rfl ?_
               refine aops_nil ?_
               refine zT 23 rfl (AP.ar (ap_not rfl)) ?_
               refine zT 24 rfl (AP.ar (ap_move rfl)) ?_
               refine aany_guard 24 rfl (fun hg => ?_) (fun hg => ?_)
               rotate_left
               case' _ =>
                 refine zK 25 ?_; refine zK 26 ?_; refine zK 27 ?_; refine zK 28 ?_; refine zK 29 ?_; refine zTp 30 ?_; refine zTp 31 ?_; refine zTp 32 ?_
                 refine zT 33 rfl (AP.ar (ap_assign rfl)) ?_
                 refine aany_nil zKr ?_
               rotate_right
               case' _ =>
                 refine zTF 25 11 2 true ?_; refine zTM 26 ?_; refine zTM 27 ?_
                 refine aany_one 28 zKr rfl (.yes rfl rfl zDec) ?_
                 refine aops_call_v zRc (bab_con e.prime (at_ e e.low)) rfl rfl ?_
                 refine aops_nil ?_
                 refine zT 29 rfl (AP.ar (ap_not rfl)) ?_
                 refine zTp 30 ?_; refine zTp 31 ?_; refine zTp 32 ?_
                 refine zT 33 rfl (AP.ar (ap_assign rfl)) ?_
                 refine aany_nil zKr ?_
             rotate_right
             case' _ =>
               refine zK 19 ?_; refine zK 20 ?_; refine zK 21 ?_; refine zK 22 ?_; refine zK 23 ?_
               refine aany_skipu 24 rfl (.no rfl rfl (by first | (show _ = true; with_reducible assumption) | exact zDec)) zKr zKr zKr rfl rfl ?_
               refine zK 25 ?_; refine zK 26 ?_; refine zK 27 ?_; refine zK 28 ?_; refine zK 29 ?_; refine zK 30 ?_; refine zTp 31 ?_; refine zTp 32 ?_
               refine zT 33 rfl (AP.ar (ap_assign rfl)) ?_
               refine aany_nil zKr ?_
           all_goals (
             refine seqQ_n ?_; refine awp_ret ?_
             refine post_is (.tmp rfl .nil) zKeep (bcl ?_)
             first | rfl | (simp only [prepE]; simp [*]; done) | grind [prepE]
             )
          )
      )
    )
set_option maxHeartbeats 4000000 in
theorem evalid_con (e : Evp) (hs : sizeT e.t ≤ 1000000000) : Con Tryz.prog 79 [ev e] [] (Is (.b (vE e)) []) := by
  have hcap : capB = 140737488355328 := rfl
  refine con_intro Tryz.func79 rfl Tryz.call79 rfl ?_
  refine zS ?_
  refine aops_box rfl zFlat rfl rfl (fun b1 => ?_)
  refine zAs ?_; refine zN ?_; refine awp_seq ?_; refine zS ?_; refine zF 0 1 false ?_; refine zL1 ?_; refine zCm ?_; refine zMv ?_
  all_goals first | (refine zY ?_; refine zF 0 1 false ?_) | refine zU ?_ | refine zNf ?_ | (refine zGf (fun hg => ?_) fun hg => ?_; case' _ => refine zF 0 1 false ?_)
  all_goals first | (refine zY ?_; refine zL1 ?_) | refine zU ?_ | refine zNf ?_ | (refine zGf (fun hg => ?_) fun hg => ?_; case' _ => refine zL1 ?_)
  all_goals first | (refine zY ?_; refine zCm ?_) | refine zU ?_ | refine zNf ?_ | (refine zGf (fun hg => ?_) fun hg => ?_; case' _ => refine zCm ?_)
  all_goals refine zPk ?_
  all_goals refine zMv ?_
  all_goals first | (refine zY ?_; refine zF 1 1 false ?_) | refine zU ?_ | refine zNf ?_ | (refine zGf (fun hg => ?_) fun hg => ?_; case' _ => refine zF 1 1 false ?_)
  all_goals first | (refine zY ?_; refine zL1 ?_) | refine zU ?_ | refine zNf ?_ | (refine zGf (fun hg => ?_) fun hg => ?_; case' _ => refine zL1 ?_)
  all_goals first | (refine zY ?_; refine zCm ?_) | refine zU ?_ | refine zNf ?_ | (refine zGf (fun hg => ?_) fun hg => ?_; case' _ => refine zCm ?_)
  all_goals refine zPk ?_
  all_goals refine zMv ?_
  all_goals first | (refine zY ?_; refine zF 1 1 false ?_) | refine zU ?_ | refine zNf ?_ | (refine zGf (fun hg => ?_) fun hg => ?_; case' _ => refine zF 1 1 false ?_)
  all_goals first | (refine zY ?_; refine zL1 ?_) | refine zU ?_ | refine zNf ?_ | (refine zGf (fun hg => ?_) fun hg => ?_; case' _ => refine zL1 ?_)
  all_goals first | (refine zY ?_; refine zCm ?_) | refine zU ?_ | refine zNf ?_ | (refine zGf (fun hg => ?_) fun hg => ?_; case' _ => refine zCm ?_)
  all_goals refine zPk ?_
  all_goals refine zMv ?_
  all_goals first | (refine zY ?_; refine zF 2 1 false ?_) | refine zU ?_ | refine zNf ?_ | (refine zGf (fun hg => ?_) fun hg => ?_; case' _ => refine zF 2 1 false ?_)
  all_goals first | (refine zY ?_; refine zL1 ?_) | refine zU ?_ | refine zNf ?_ | (refine zGf (fun hg => ?_) fun hg => ?_; case' _ => refine zL1 ?_)
  all_goals first | (refine zY ?_; refine zCm ?_) | refine zU ?_ | refine zNf ?_ | (refine zGf (fun hg => ?_) fun hg => ?_; case' _ => refine zCm ?_)
  all_goals refine zPk ?_
  all_goals refine zMv ?_
  all_goals first | (refine zY ?_; refine zF 2 1 false ?_) | refine zU ?_ | refine zNf ?_ | (refine zGf (fun hg => ?_) fun hg => ?_; case' _ => refine zF 2 1 false ?_)
  all_goals first | (refine zY ?_; refine zL1 ?_) | refine zU ?_ | refine zNf ?_ | (refine zGf (fun hg => ?_) fun hg => ?_; case' _ => refine zL1 ?_)
  all_goals first | (refine zY ?_; refine zCm ?_) | refine zU ?_ | refine zNf ?_ | (refine zGf (fun hg => ?_) fun hg => ?_; case' _ => refine zCm ?_)
  all_goals refine zPk ?_
  all_goals refine zMv ?_
  all_goals first | (refine zY ?_; refine zF 3 3 true ?_) | refine zU ?_ | refine zNf ?_ | (refine zGf (fun hg => ?_) fun hg => ?_; case' _ => refine zF 3 3 true ?_)
  all_goals first | (refine zY ?_; refine zLd ?_) | refine zU ?_ | refine zNf ?_ | (refine zGf (fun hg => ?_) fun hg => ?_; case' _ => refine zLd ?_)
  all_goals first | (refine zY ?_; refine aops_call_v zRc (validT_con e.t hs) rfl rfl ?_) | refine zU ?_ | refine zNf ?_ | (refine zGf (fun hg => ?_) fun hg => ?_; case' _ => refine aops_call_v zRc (validT_con e.t hs) rfl rfl ?_)
  all_goals first | (refine zY ?_; refine zCm ?_) | refine zU ?_ | refine zNf ?_ | (refine zGf (fun hg => ?_) fun hg => ?_; case' _ => refine zCm ?_)
  all_goals refine zPk ?_
  all_goals (
    refine zN ?_
    refine zC (fun hc => ?_) fun hc => ?_
    · first
      | (exact absurd hc (by decide))
      | (have hh : headE e = false := by first | (simp only [headE]; simp [*]; done) | grind [headE]
         refine zS ?_; refine zAs ?_; refine zN ?_; refine awp_ret ?_; refine seqQ_r ?_
         refine post_is (.tmp rfl .nil) zKeep (bcl ?_)
         unfold vE; rw [hh]; rfl
        )
    · first
      | (exact absurd hc (by decide))
      | (have hh : headE e = true := by first | (simp only [headE]; simp [*]; done) | grind [headE]
         refine awp_skip ?_; refine seqQ_n ?_; refine zS ?_; refine zF 13 1 false ?_; refine zL1 ?_; refine zCm ?_; refine zMv ?_
         all_goals first | (refine zY ?_; refine zF 14 1 false ?_) | refine zU ?_ | refine zNt ?_ | (refine zGt (fun hg => ?_) fun hg => ?_; case' _ => refine zF 14 1 false ?_)
         all_goals first | (refine zY ?_; refine zL1 ?_) | refine zU ?_ | refine zNt ?_ | (refine zGt (fun hg => ?_) fun hg => ?_; case' _ => refine zL1 ?_)
         all_goals first | (refine zY ?_; refine zF 13 1 false ?_) | refine zU ?_ | refine zNt ?_ | (refine zGt (fun hg => ?_) fun hg => ?_; case' _ => refine zF 13 1 false ?_)
         all_goals first | (refine zY ?_; refine zL1 ?_) | refine zU ?_ | refine zNt ?_ | (refine zGt (fun hg => ?_) fun hg => ?_; case' _ => refine zL1 ?_)
         all_goals first | (refine zY ?_; refine zCm ?_) | refine zU ?_ | refine zNt ?_ | (refine zGt (fun hg => ?_) fun hg => ?_; case' _ => refine zCm ?_)
         all_goals refine zPk ?_
         all_goals refine zMv ?_
         all_goals first | (refine zY ?_; refine zF 14 1 false ?_) | refine zU ?_ | refine zNt ?_ | (refine zGt (fun hg => ?_) fun hg => ?_; case' _ => refine zF 14 1 false ?_)
         all_goals first | (refine zY ?_; refine zL1 ?_) | refine zU ?_ | refine zNt ?_ | (refine zGt (fun hg => ?_) fun hg => ?_; case' _ => refine zL1 ?_)
         all_goals first | (refine zY ?_; refine zCm ?_) | refine zU ?_ | refine zNt ?_ | (refine zGt (fun hg => ?_) fun hg => ?_; case' _ => refine zCm ?_)
         all_goals refine zPk ?_
         all_goals refine zAs ?_
         all_goals (obtain ⟨rr, hrr⟩ : ∃ rr, rr = rngE e := ⟨_, rfl⟩)
         all_goals (have hr0 := hrr)
         all_goals (simp only [rngE] at hr0)
         all_goals (
           refine zN ?_; refine awp_seq ?_; refine zS ?_; refine zF 6 1 false ?_; refine zL1 ?_; refine zN ?_; refine awp_block ?_; refine zS ?_; refine zCm ?_; refine zAs ?_; refine zN ?_
           refine zC (fun hc => ?_) fun hc => ?_
           · have hk1 := of_decide_eq_true hc
             refine zS ?_; refine zLd ?_
             refine aops_call_v zRc (eprep_con e) rfl rfl ?_
             refine zAs ?_; refine zN ?_; refine awp_ret ?_; refine blockQ_r ?_; refine seqQ_r ?_
             refine post_is (.tmp rfl .nil) zKeep (bcl ?_)
             unfold vE; rw [hh, Bool.true_and]
             first | (simp only [kindE, rngE]; simp [*]; done) | grind [kindE, rngE]
           · have hk1 := of_decide_eq_false hc
             refine zS ?_; refine zCm ?_; refine zAs ?_; refine zN ?_
             refine zC (fun hc => ?_) fun hc => ?_
             · have hk2 := of_decide_eq_true hc
               refine zS ?_; refine zF 7 2 true ?_; refine zLd ?_
               refine aops_call_v zRc (efin_con e.bal) rfl rfl ?_
               refine zMv ?_
               all_goals first | (refine zY ?_; refine zF 9 2 true ?_) | refine zU ?_ | refine zNt ?_ | (refine zGt (fun hg => ?_) fun hg => ?_; case' _ => refine zF 9 2 true ?_)
               all_goals first | (refine zY ?_; refine zLd ?_) | refine zU ?_ | refine zNt ?_ | (refine zGt (fun hg => ?_) fun hg => ?_; case' _ => refine zLd ?_)
               all_goals first | (refine zY ?_; refine aops_call_v zRc (bval_con e.prep) rfl rfl ?_) | refine zU ?_ | refine zNt ?_ | (refine zGt (fun hg => ?_) fun hg => ?_; case' _ => refine aops_call_v zRc (bval_con e.prep) rfl rfl ?_)
               all_goals refine zPk ?_
               all_goals refine zMv ?_
               all_goals first | (refine zY ?_; refine zF 9 2 true ?_) | refine zU ?_ | refine zNt ?_ | (refine zGt (fun hg => ?_) fun hg => ?_; case' _ => refine zF 9 2 true ?_)
               all_goals first | (refine zY ?_; refine zLd ?_) | refine zU ?_ | refine zNt ?_ | (refine zGt (fun hg => ?_) fun hg => ?_; case' _ => refine zLd ?_)
               all_goals first | (refine zY ?_; refine zF 7 2 true ?_) | refine zU ?_ | refine zNt ?_ | (refine zGt (fun hg => ?_) fun hg => ?_; case' _ => refine zF 7 2 true ?_)
               all_goals first | (refine zY ?_; refine zLd ?_) | refine zU ?_ | refine zNt ?_ | (refine zGt (fun hg => ?_) fun hg => ?_; case' _ => refine zLd ?_)
               all_goals first | (refine zY ?_; refine aops_call_v zRc (bc_con e.prep e.bal) rfl rfl ?_) | refine zU ?_ | refine zNt ?_ | (refine zGt (fun hg => ?_) fun hg => ?_; case' _ => refine aops_call_v zRc (bc_con e.prep e.bal) rfl rfl ?_)
               all_goals refine zPk ?_
               all_goals refine zMv ?_
               all_goals first | (refine zY ?_; refine zF 11 2 true ?_) | refine zU ?_ | refine zNt ?_ | (refine zGt (fun hg => ?_) fun hg => ?_; case' _ => refine zF 11 2 true ?_)
               all_goals first | (refine zY ?_; refine zLd ?_) | refine zU ?_ | refine zNt ?_ | (refine zGt (fun hg => ?_) fun hg => ?_; case' _ => refine zLd ?_)
               all_goals first | (refine zY ?_; refine aops_call_v zRc (bz_con e.prime) rfl rfl ?_) | refine zU ?_ | refine zNt ?_ | (refine zGt (fun hg => ?_) fun hg => ?_; case' _ => refine aops_call_v zRc (bz_con e.prime) rfl rfl ?_)
               all_goals refine zPk ?_
               all_goals refine zMv ?_
               all_goals first | (refine zY ?_; refine zMv ?_) | refine zU ?_ | refine zNt ?_ | (refine zGt (fun hg => ?_) fun hg => ?_; case' _ => refine zMv ?_)
               all_goals refine zPk ?_
               all_goals refine zMv ?_
               all_goals first | (refine zY ?_; refine zF 14 1 false ?_) | refine zU ?_ | refine zNt ?_ | (refine zGt (fun hg => ?_) fun hg => ?_; case' _ => refine zF 14 1 false ?_)
               all_goals first | (refine zY ?_; refine zL1 ?_) | refine zU ?_ | refine zNt ?_ | (refine zGt (fun hg => ?_) fun hg => ?_; case' _ => refine zL1 ?_)
               all_goals first | (refine zY ?_; refine zF 9 2 true ?_) | refine zU ?_ | refine zNt ?_ | (refine zGt (fun hg => ?_) fun hg => ?_; case' _ => refine zF 9 2 true ?_)
               all_goals first | (refine zY ?_; refine zF 0 1 false ?_) | refine zU ?_ | refine zNt ?_ | (refine zGt (fun hg => ?_) fun hg => ?_; case' _ => refine zF 0 1 false ?_)
               all_goals first | (refine zY ?_; refine zL1 ?_) | refine zU ?_ | refine zNt ?_ | (refine zGt (fun hg => ?_) fun hg => ?_; case' _ => refine zL1 ?_)
               all_goals first | (refine zY ?_; refine zCm ?_) | refine zU ?_ | refine zNt ?_ | (refine zGt (fun hg => ?_) fun hg => ?_; case' _ => refine zCm ?_)
               all_goals refine zPk ?_
               all_goals refine zAs ?_
               all_goals (
                 refine zN ?_; refine awp_ret ?_; refine blockQ_r ?_; refine seqQ_r ?_
                 refine post_is (.tmp rfl .nil) zKeep (bcl ?_)
                 unfold vE; rw [hh, Bool.true_and]
                 first | (simp only [kindE, rngE]; simp [*]; done) | grind [kindE, rngE]
                 )
             · have hk2 := of_decide_eq_false hc
               refine zS ?_; refine zCm ?_; refine zAs ?_; refine zN ?_
               refine zC (fun hc => ?_) fun hc => ?_
               · have hk3 := of_decide_eq_true hc
                 refine zS ?_; refine zF 7 2 true ?_; refine zLd ?_
                 refine aops_call_v zRc (bval_con e.bal) rfl rfl ?_
                 refine zMv ?_
                 all_goals first | (refine zY ?_; refine zF 9 2 true ?_) | refine zU ?_ | refine zNt ?_ | (refine zGt (fun hg => ?_) fun hg => ?_; case' _ => refine zF 9 2 true ?_)
                 all_goals first | (refine zY ?_; refine zLd ?_) | refine zU ?_ | refine zNt ?_ | (refine zGt (fun hg => ?_) fun hg => ?_; case' _ => refine zLd ?_)
                 all_goals first | (refine zY ?_; refine aops_call_v zRc (bz_con e.prep) rfl rfl ?_) | refine zU ?_ | refine zNt ?_ | (refine zGt (fun hg => ?_) fun hg => ?_; case' _ => refine aops_call_v zRc (bz_con e.prep) rfl rfl ?_)
                 all_goals refine zPk ?_
                 all_goals refine zMv ?_
                 all_goals first | (refine zY ?_; refine zF 11 2 true ?_) | refine zU ?_ | refine zNt ?_ | (refine zGt (fun hg => ?_) fun hg => ?_; case' _ => refine zF 11 2 true ?_)
                 all_goals first | (refine zY ?_; refine zLd ?_) | refine zU ?_ | refine zNt ?_ | (refine zGt (fun hg => ?_) fun hg => ?_; case' _ => refine zLd ?_)
                 all_goals first | (refine zY ?_; refine aops_call_v zRc (bz_con e.prime) rfl rfl ?_) | refine zU ?_ | refine zNt ?_ | (refine zGt (fun hg => ?_) fun hg => ?_; case' _ => refine aops_call_v zRc (bz_con e.prime) rfl rfl ?_)
                 all_goals refine zPk ?_
                 all_goals refine zMv ?_
                 all_goals first | (refine zY ?_; refine zMv ?_) | refine zU ?_ | refine zNt ?_ | (refine zGt (fun hg => ?_) fun hg => ?_; case' _ => refine zMv ?_)
                 all_goals refine zPk ?_
                 all_goals refine zAs ?_
                 all_goals (
                   refine zN ?_; refine awp_ret ?_; refine blockQ_r ?_; refine seqQ_r ?_
                   refine post_is (.tmp rfl .nil) zKeep (bcl ?_)
                   unfold vE; rw [hh, Bool.true_and]
                   first | (simp only [kindE, rngE]; simp [*]; done) | grind [kindE, rngE]
                   )
               · have hk3 := of_decide_eq_false hc
                 refine awp_skip ?_; refine blockQ_n ?_; refine seqQ_n ?_; refine zS ?_; refine zAs ?_; refine zN ?_; refine awp_ret ?_
                 refine post_is (.tmp rfl .nil) zKeep (bcl ?_)
                 unfold vE; rw [hh, Bool.true_and]
                 first | (simp only [kindE, rngE]; simp [*]; done) | grind [kindE, rngE]
           )
        )
    )
theorem ctrust_con (m : Nat) (hm : m ≤ 200000) : ∀ (t : Trust), sizeT t ≤ m → Con Tryz.prog 82 [av t] [] (Is (av t) []) := by
  have hcap : capB = 140737488355328 := rfl
  intro t
  induction t using Trust.ind with
  | _ t ih =>
    have hl1 : (t.nodes.map D.i).length = t.nodes.length := by simp
    have hl2 := avs_len t.inner
    intro hsz
    have hs0 : sizeT t = t.nodes.length + t.inner.length + sizeL t.inner := rfl
    refine con_intro Tryz.func82 rfl Tryz.call82 rfl ?_
    refine zS ?_
    refine aops_box rfl zFlat rfl rfl (fun b1 => ?_)
    refine aops_alloc rfl zRc rfl rfl (fun b2 => ?_)
    refine zN ?_; refine awp_seq ?_
    refine awp_draw (Hm := []) zKr zSplit ?_
    refine zTF 0 0 1 false ?_; refine zTL 1 ?_; refine zTF 2 1 1 false ?_; refine zTL 3 ?_
    refine aany_each2 4 6 zKr rfl (.none rfl) ?_ rfl (.none rfl) ?_
    rotate_left
    case' _ =>
      refine aops_alloc rfl zRc rfl rfl (fun b3 => ?_)
      refine aops_nil ?_
      refine aany_one 4 zKr rfl (.none rfl) ?_
      refine aops_call_v zRc (Clone_con t.nodes (by omega)) rfl rfl ?_
      refine aops_nil ?_
      refine zT 5 rfl (AP.ar (ap_build zKr rfl zRc zFill)) ?_
      refine aany_one 7 zKr rfl (.none rfl) ?_
      refine zSt ?_; refine aops_nil ?_; refine aany_nil zKr ?_
    rotate_right
    case' _ =>
      refine aops_call_v zRc (Clone_con t.nodes (by omega)) rfl rfl ?_
      refine aops_nil ?_
      refine zT 5 rfl (AP.ar (ap_build zKr rfl zRc zFill)) ?_
      refine aany_one 6 zKr rfl (.none rfl) ?_
      refine aops_alloc rfl zRc rfl rfl (fun b3 => ?_)
      refine aops_nil ?_
      refine aany_one 7 zKr rfl (.none rfl) ?_
      refine zSt ?_; refine aops_nil ?_; refine aany_nil zKr ?_
    all_goals (
      refine seqQ_n ?_; refine awp_seq ?_; refine zS ?_; refine zF 2 1 false ?_; refine zL1 ?_
      first | refine aops_len rfl rfl rfl rfl (fun _ => ?_) | refine zP (ap_len_arr rfl zUpd rfl) ?_ | refine zP (ap_len_nil rfl rfl) ?_
      refine zMv ?_; refine zN ?_; refine awp_block ?_
      refine awp_loop3 [2, 3, 13, 14] [.box b1 _ _, .box b2 _ _] (fun (k : Nat) (v : Value) (q : List Trust) r => (15, .i (k : Int)) :: r) (fun (k : Nat) (v : Value) (q : List Trust) r => .box b3 27 [.i t.th, .sl 1 (t.nodes.map .i), .v v] :: .arr v 27 3 (avs q) :: r) (fun (k : Nat) (v : Value) (q : List Trust) => k ≤ t.inner.length ∧ q = t.inner.take k) (fun (k : Nat) (v : Value) (q : List Trust) => t.inner.length - k) (0) (.slice none 0 0) ([]) zRc ⟨by omega, by simp⟩ ((wk_own 27 3 rfl).trans (wk zSub zKeep)) ?_
      intro k v q ⟨hk, hI⟩
      have hql : q.length = k := by rw [hI]; simp; omega
      refine zS ?_; refine zCm ?_; refine zN ?_; refine awp_seq ?_
      refine zC (fun hc => ?_) fun hc => ?_
      · have hlt : k < t.inner.length := by have := of_decide_eq_true hc; omega
        obtain ⟨x, hx, hd⟩ := drop_cons hlt
        have hx' := avs_get hx
        have hxm := List.mem_of_getElem? hx
        refine awp_skip ?_; refine seqQ_n ?_; refine awp_seq ?_; refine awp_block ?_; refine zS ?_
        first | refine zP (ap_index rfl rfl rfl rfl (by decide) rfl zAss) ?_ | refine zP (ap_index rfl rfl rfl rfl (by decide) (by omega) zAss) ?_ | refine zP (ap_index_own rfl rfl rfl rfl rfl (by first | omega | (simp only [List.length_map, List.length_set, avs_len]; omega))) ?_
        refine zLd ?_
        refine aops_alloc rfl zRc rfl rfl (fun b5 => ?_)
        refine zSt ?_; refine zN ?_
        refine awp_draw (Hm := [.box b3 _ _, .arr v _ _ _]) zKr zSplit ?_
        refine zTF 0 2 1 false ?_; refine zTM 2 ?_
        refine aany_each2 1 3 zKr rfl (.none rfl) ?_ rfl (.none rfl) ?_
        rotate_left
        case' _ =>
          refine aops_call_v zRc (ih _ hxm (by have := sizeL_mem hxm; omega)) rfl rfl ?_
          refine aops_nil ?_
          refine aany_each2 1 4 zKr rfl (.none rfl) ?_ rfl (.none rfl) ?_
          rotate_left
          case' _ =>
            refine aops_lit (e := 27) (sz := 3) (by_ := 56) rfl rfl zRc rfl rfl rfl rfl ?_
            refine aops_nil ?_
            refine aany_one 1 zKr rfl (.none rfl) ?_
            refine zL1 ?_; refine aops_nil ?_
            refine aany_one 5 zKr rfl (.none rfl) ?_
            first | refine aops_append (e := 27) (sz := 3) (by_ := 56) rfl zUpd rfl rfl rfl rfl rfl zLen (fun v24 hv24 => ?_) | refine aops_append_nil (e := 27) (sz := 3) (by_ := 56) rfl rfl rfl rfl rfl rfl zLen (fun v24 hv24 => ?_)
            refine aops_nil ?_; refine zTF 6 2 1 false ?_
            refine aany_one 7 zKr rfl (.none rfl) ?_
            refine zSt ?_; refine aops_nil ?_; refine aany_nil zKr ?_
          rotate_right
          case' _ =>
            refine zL1 ?_; refine aops_nil ?_
            refine aany_one 4 zKr rfl (.none rfl) ?_
            refine aops_lit (e := 27) (sz := 3) (by_ := 56) rfl rfl zRc rfl rfl rfl rfl ?_
            refine aops_nil ?_
            refine aany_one 5 zKr rfl (.none rfl) ?_
            first | refine aops_append (e := 27) (sz := 3) (by_ := 56) rfl zUpd rfl rfl rfl rfl rfl zLen (fun v24 hv24 => ?_) | refine aops_append_nil (e := 27) (sz := 3) (by_ := 56) rfl rfl rfl rfl rfl rfl zLen (fun v24 hv24 => ?_)
            refine aops_nil ?_; refine zTF 6 2 1 false ?_
            refine aany_one 7 zKr rfl (.none rfl) ?_
            refine zSt ?_; refine aops_nil ?_; refine aany_nil zKr ?_
        rotate_right
        case' _ =>
          refine zL1 ?_; refine aops_nil ?_
          refine aany_one 3 zKr rfl (.none rfl) ?_
          refine aops_call_v zRc (ih _ hxm (by have := sizeL_mem hxm; omega)) rfl rfl ?_
          refine aops_nil ?_
          refine aany_one 4 zKr rfl (.none rfl) ?_
          refine aops_lit (e := 27) (sz := 3) (by_ := 56) rfl rfl zRc rfl rfl rfl rfl ?_
          refine aops_nil ?_
          refine aany_one 5 zKr rfl (.none rfl) ?_
          first | refine aops_append (e := 27) (sz := 3) (by_ := 56) rfl zUpd rfl rfl rfl rfl rfl zLen (fun v24 hv24 => ?_) | refine aops_append_nil (e := 27) (sz := 3) (by_ := 56) rfl rfl rfl rfl rfl rfl zLen (fun v24 hv24 => ?_)
          refine aops_nil ?_; refine zTF 6 2 1 false ?_
          refine aany_one 7 zKr rfl (.none rfl) ?_
          refine zSt ?_; refine aops_nil ?_; refine aany_nil zKr ?_
        all_goals (
          refine blockQ_n ?_; refine seqQ_n ?_; refine awp_region ?_; refine zAr ?_; refine zMv ?_; refine zN ?_
          rw [avs_snoc]
          refine ⟨k + 1, _, _, ⟨by omega, ?_⟩, by omega, wk zSub zKeep⟩
          rw [hI, List.take_add_one, hx]; simp
          )
      · have hge : t.inner.length ≤ k := by have := of_decide_eq_false hc; omega
        refine awp_freeze v [2,3] zRem zSelC zHeapA ?_
        refine awp_exit ?_; refine seqQ_x ?_; refine seqQ_x ?_; refine blockQ_x rfl ?_; refine seqQ_n ?_; refine zS ?_; refine zLd ?_; refine zSt ?_; refine zN ?_; refine awp_ret ?_
        refine post_is (.cell rfl zUpd rfl rfl .nil) .nil ?_
        subst hI
        rw [List.take_of_length_le hge]; rfl
      )
theorem cenv_con (e : Evp) (hs : sizeT e.t ≤ 200000) : Con Tryz.prog 84 [ev e] [] (Is (ev e) []) := by
  have hcap : capB = 140737488355328 := rfl
  refine con_intro Tryz.func84 rfl Tryz.call84 rfl ?_
  refine zS ?_
  refine aops_box rfl zFlat rfl rfl (fun b1 => ?_)
  refine aops_alloc rfl zRc rfl rfl (fun b2 => ?_)
  refine zN (zS ?_); refine zF 3 3 true ?_; refine zLd ?_
  refine aops_call_v zRc (ctrust_con 200000 (by omega) e.t hs) rfl rfl ?_
  refine zF 3 3 true ?_; refine zSt ?_; refine zN (zS ?_); refine zLd ?_; refine zSt ?_; refine zN ?_; refine awp_ret ?_
  refine post_is (.cell rfl zUpd rfl rfl .nil) zKeep rfl
theorem ev_snoc (q : List Evp) (x : Evp) : q.map ev ++ [ev x] = (q ++ [x]).map ev := by simp
theorem call_con (l : List Evp) (hlen : l.length ≤ 1000000) (hl : ∀ e ∈ l, sizeT e.t ≤ 200000) : Con Tryz.prog 83 [.sl 15 (l.map ev), .v (.func (.func 84) #[] #[])] [] (Is (.sl 15 (l.map ev)) []) := by
  have hcap : capB = 140737488355328 := rfl
  have hml : (l.map ev).length = l.length := by simp
  refine con_intro Tryz.func83 rfl Tryz.call83 rfl ?_
  refine zS ?_; refine zAs ?_; refine zN (zS ?_); refine zAs ?_; refine zN ?_; refine awp_seq ?_; refine zS ?_; refine zMv ?_
  first | refine aops_len rfl rfl rfl rfl (fun _ => ?_) | refine zP (ap_len_arr rfl zUpd rfl) ?_ | refine zP (ap_len_nil rfl rfl) ?_
  refine zMv ?_; refine zN ?_; refine awp_block ?_
  refine awp_loop3 [1, 8, 9] [] (fun (k : Nat) (v : Value) (q : List Evp) r => (5, .v v) :: (10, .i (k : Int)) :: r) (fun (k : Nat) (v : Value) (q : List Evp) r => .arr v 52 15 (q.map ev) :: r) (fun (k : Nat) (v : Value) (q : List Evp) => k ≤ l.length ∧ q = l.take k) (fun (k : Nat) (v : Value) (q : List Evp) => l.length - k) (0) (.slice none 0 0) ([]) zRc ⟨by omega, by simp⟩ ((wk_own 52 15 rfl).trans (wk zSub zKeep)) ?_
  intro k v q ⟨hk, hI⟩
  have hql : q.length = k := by rw [hI]; simp; omega
  refine zS ?_; refine zCm ?_; refine zN ?_; refine awp_seq ?_
  refine zC (fun hc => ?_) fun hc => ?_
  · have hlt := of_decide_eq_true hc
    obtain ⟨x, hx, hd⟩ := drop_cons (l := l) (k := k) (by omega)
    have hx' := getMap ev hx
    have hxs := hl x (List.mem_of_getElem? hx)
    refine awp_skip ?_; refine seqQ_n ?_; refine awp_seq ?_; refine awp_block ?_; refine zS ?_
    first | refine zP (ap_index rfl rfl rfl rfl (by decide) rfl zAss) ?_ | refine zP (ap_index rfl rfl rfl rfl (by decide) (by omega) zAss) ?_ | refine zP (ap_index_own rfl rfl rfl rfl rfl (by first | omega | (simp only [List.length_map, List.length_set, avs_len]; omega))) ?_
    refine zLd ?_
    refine aops_alloc rfl zRc rfl rfl (fun b7 => ?_)
    refine zSt ?_; refine zN ?_; refine awp_region ?_; refine zMv ?_; refine zMv ?_; refine zLd ?_
    refine aops_callv_v (caps := []) rfl zRc (cenv_con x hxs) rfl rfl ?_
    refine aops_lit (e := 52) (sz := 15) (by_ := 176) rfl rfl zRc rfl rfl rfl rfl ?_
    first | refine aops_append (e := 52) (sz := 15) (by_ := 176) rfl zUpd rfl rfl rfl rfl rfl zLen (fun v19 hv19 => ?_) | refine aops_append_nil (e := 52) (sz := 15) (by_ := 176) rfl rfl rfl rfl rfl rfl zLen (fun v19 hv19 => ?_)
    refine zAs ?_; refine aops_nil ?_; refine blockQ_n ?_; refine seqQ_n ?_; refine awp_region ?_; refine zAr ?_; refine zMv ?_; refine zN ?_
    rw [ev_snoc]
    refine ⟨k + 1, _, _, ⟨by omega, ?_⟩, by omega, wk zSub zKeep⟩
    rw [hI, List.take_add_one, hx]; simp
  · have hge := of_decide_eq_false hc
    refine awp_freeze v [5] zRem zSelC zHeapA ?_
    refine awp_exit ?_; refine seqQ_x ?_; refine seqQ_x ?_; refine blockQ_x rfl ?_; refine seqQ_n ?_; refine zS ?_; refine zMv ?_; refine zAs ?_; refine zN ?_; refine awp_ret ?_
    refine post_is (.tmp rfl .nil) zKeep ?_
    rw [hI, List.take_of_length_le (by omega)]; rfl
theorem mmsg_con (m : Mach) : Con Tryz.prog 55 [mcv m] [] (Is (ev (msgM m)) []) := by
  have hcap : capB = 140737488355328 := rfl
  refine con_intro Tryz.func55 rfl Tryz.call55 rfl ?_
  refine zS ?_
  refine aops_box rfl zFlat rfl rfl (fun b1 => ?_)
  refine aops_alloc rfl zRc rfl rfl (fun b2 => ?_)
  refine zN (zS ?_); refine zF 0 1 false ?_; refine zL1 ?_; refine zF 1 1 false ?_; refine zL1 ?_; refine zF 2 1 false ?_; refine zL1 ?_; refine zF 3 3 true ?_; refine zLd ?_; refine zF 6 1 false ?_; refine zL1 ?_; refine zF 7 2 true ?_; refine zLd ?_; refine zF 9 2 true ?_; refine zLd ?_; refine zF 11 2 true ?_; refine zLd ?_; refine zF 15 1 false ?_; refine zL1 ?_; refine zF 16 1 false ?_; refine zL1 ?_
  refine zP (ap_build zKr rfl zRc zFill) ?_
  refine aops_alloc rfl zRc rfl rfl (fun b3 => ?_)
  refine zSt ?_; refine zN ?_; refine awp_seq ?_; refine zS ?_; refine zF 6 1 false ?_; refine zL1 ?_; refine zCm ?_; refine zN ?_
  refine zC (fun hc => ?_) fun hc => ?_
  · have hp1 := of_decide_eq_true hc
    refine zS ?_; refine zF 14 1 false ?_; refine zSt ?_; refine zN (zS ?_); refine zF 13 2 true ?_; refine zLd ?_
    refine aops_call_v zRc (bz_con m.conf) rfl rfl ?_
    refine zNo ?_; refine zMv ?_
    all_goals first | (refine zY ?_; refine zF 13 2 true ?_) | refine zU ?_ | refine zNt ?_ | (refine zGt (fun hg => ?_) fun hg => ?_; case' _ => refine zF 13 2 true ?_)
    all_goals first | (refine zY ?_; refine zLd ?_) | refine zU ?_ | refine zNt ?_ | (refine zGt (fun hg => ?_) fun hg => ?_; case' _ => refine zLd ?_)
    all_goals first | (refine zY ?_; refine zF 7 2 true ?_) | refine zU ?_ | refine zNt ?_ | (refine zGt (fun hg => ?_) fun hg => ?_; case' _ => refine zF 7 2 true ?_)
    all_goals first | (refine zY ?_; refine zLd ?_) | refine zU ?_ | refine zNt ?_ | (refine zGt (fun hg => ?_) fun hg => ?_; case' _ => refine zLd ?_)
    all_goals first | (refine zY ?_; refine aops_call_v zRc (bc_con m.conf m.bal) rfl rfl ?_) | refine zU ?_ | refine zNt ?_ | (refine zGt (fun hg => ?_) fun hg => ?_; case' _ => refine aops_call_v zRc (bc_con m.conf m.bal) rfl rfl ?_)
    all_goals refine zPk ?_
    all_goals (
      refine zN ?_
      refine zC (fun hc => ?_) fun hc => ?_
      · first
        | (exact absurd hc (by decide))
        | (refine awp_region ?_
           refine zF 13 2 true ?_; refine zF 0 1 false ?_; refine zL1 ?_; refine zF 14 1 false ?_; refine zSt ?_; refine zN (zS ?_); refine zLd ?_; refine zSt ?_; refine zN ?_; refine awp_ret ?_
           refine post_is (.cell rfl zUpd rfl rfl .nil) zKeep ?_
           unfold msgM ev
           first | (rw [if_neg hp1]; rfl) | (rw [if_pos hp1, if_pos (by simp [*])]; rfl) | (rw [if_pos hp1, if_neg (by simp [*])]; rfl)
          )
      · first
        | (exact absurd hc (by decide))
        | (refine awp_skip ?_
           refine seqQ_n ?_; refine zS ?_; refine zLd ?_; refine zSt ?_; refine zN ?_; refine awp_ret ?_
           refine post_is (.cell rfl zUpd rfl rfl .nil) zKeep ?_
           unfold msgM ev
           first | (rw [if_neg hp1]; rfl) | (rw [if_pos hp1, if_pos (by simp [*])]; rfl) | (rw [if_pos hp1, if_neg (by simp [*])]; rfl)
          )
      )
  · have hp1 := of_decide_eq_false hc
    refine awp_skip ?_; refine seqQ_n ?_; refine zS ?_; refine zLd ?_; refine zSt ?_; refine zN ?_; refine awp_ret ?_
    refine post_is (.cell rfl zUpd rfl rfl .nil) zKeep ?_
    unfold msgM ev
    first | (rw [if_neg hp1]; rfl) | (rw [if_pos hp1, if_pos (by simp [*])]; rfl) | (rw [if_pos hp1, if_neg (by simp [*])]; rfl)
theorem mfresh_con (m : Mach) : Con Tryz.prog 78 [mcv m] [] (Is (.b (freshM m)) []) := by
  have hcap : capB = 140737488355328 := rfl
  refine con_intro Tryz.func78 rfl Tryz.call78 rfl ?_
  refine zS ?_
  refine aops_box rfl zFlat rfl rfl (fun b1 => ?_)
  refine zAs ?_; refine zN (zS ?_)
  refine zP (ap_build zKr rfl zRc zFill) ?_
  refine aops_alloc rfl zRc rfl rfl (fun b3 => ?_)
  refine zSt ?_; refine zN (zS ?_); refine zF 6 1 false ?_; refine zL1 ?_; refine zCm ?_; refine zMv ?_
  all_goals first | (refine zY ?_; refine zF 2 1 false ?_) | refine zU ?_ | refine zNt ?_ | (refine zGt (fun hg => ?_) fun hg => ?_; case' _ => refine zF 2 1 false ?_)
  all_goals first | (refine zY ?_; refine zL1 ?_) | refine zU ?_ | refine zNt ?_ | (refine zGt (fun hg => ?_) fun hg => ?_; case' _ => refine zL1 ?_)
  all_goals first | (refine zY ?_; refine zCm ?_) | refine zU ?_ | refine zNt ?_ | (refine zGt (fun hg => ?_) fun hg => ?_; case' _ => refine zCm ?_)
  all_goals refine zPk ?_
  all_goals refine zMv ?_
  all_goals first | (refine zY ?_; refine zF 9 2 true ?_) | refine zU ?_ | refine zNt ?_ | (refine zGt (fun hg => ?_) fun hg => ?_; case' _ => refine zF 9 2 true ?_)
  all_goals first | (refine zY ?_; refine zLd ?_) | refine zU ?_ | refine zNt ?_ | (refine zGt (fun hg => ?_) fun hg => ?_; case' _ => refine zLd ?_)
  all_goals first | (refine zY ?_; refine zLd ?_) | refine zU ?_ | refine zNt ?_ | (refine zGt (fun hg => ?_) fun hg => ?_; case' _ => refine zLd ?_)
  all_goals first | (refine zY ?_; refine zP (ap_eqs rfl rfl eq2_29) ?_) | refine zU ?_ | refine zNt ?_ | (refine zGt (fun hg => ?_) fun hg => ?_; case' _ => refine zP (ap_eqs rfl rfl eq2_29) ?_)
  all_goals refine zPk ?_
  all_goals refine zMv ?_
  all_goals first | (refine zY ?_; refine zF 11 2 true ?_) | refine zU ?_ | refine zNt ?_ | (refine zGt (fun hg => ?_) fun hg => ?_; case' _ => refine zF 11 2 true ?_)
  all_goals first | (refine zY ?_; refine zLd ?_) | refine zU ?_ | refine zNt ?_ | (refine zGt (fun hg => ?_) fun hg => ?_; case' _ => refine zLd ?_)
  all_goals first | (refine zY ?_; refine zLd ?_) | refine zU ?_ | refine zNt ?_ | (refine zGt (fun hg => ?_) fun hg => ?_; case' _ => refine zLd ?_)
  all_goals first | (refine zY ?_; refine zP (ap_eqs rfl rfl eq2_29) ?_) | refine zU ?_ | refine zNt ?_ | (refine zGt (fun hg => ?_) fun hg => ?_; case' _ => refine zP (ap_eqs rfl rfl eq2_29) ?_)
  all_goals refine zPk ?_
  all_goals refine zMv ?_
  all_goals first | (refine zY ?_; refine zF 13 2 true ?_) | refine zU ?_ | refine zNt ?_ | (refine zGt (fun hg => ?_) fun hg => ?_; case' _ => refine zF 13 2 true ?_)
  all_goals first | (refine zY ?_; refine zLd ?_) | refine zU ?_ | refine zNt ?_ | (refine zGt (fun hg => ?_) fun hg => ?_; case' _ => refine zLd ?_)
  all_goals first | (refine zY ?_; refine zLd ?_) | refine zU ?_ | refine zNt ?_ | (refine zGt (fun hg => ?_) fun hg => ?_; case' _ => refine zLd ?_)
  all_goals first | (refine zY ?_; refine zP (ap_eqs rfl rfl eq2_29) ?_) | refine zU ?_ | refine zNt ?_ | (refine zGt (fun hg => ?_) fun hg => ?_; case' _ => refine zP (ap_eqs rfl rfl eq2_29) ?_)
  all_goals refine zPk ?_
  all_goals refine zMv ?_
  all_goals first | (refine zY ?_; refine zF 15 1 false ?_) | refine zU ?_ | refine zNt ?_ | (refine zGt (fun hg => ?_) fun hg => ?_; case' _ => refine zF 15 1 false ?_)
  all_goals first | (refine zY ?_; refine zL1 ?_) | refine zU ?_ | refine zNt ?_ | (refine zGt (fun hg => ?_) fun hg => ?_; case' _ => refine zL1 ?_)
  all_goals first | (refine zY ?_; refine zCm ?_) | refine zU ?_ | refine zNt ?_ | (refine zGt (fun hg => ?_) fun hg => ?_; case' _ => refine zCm ?_)
  all_goals refine zPk ?_
  all_goals refine zMv ?_
  all_goals first | (refine zY ?_; refine zF 16 1 false ?_) | refine zU ?_ | refine zNt ?_ | (refine zGt (fun hg => ?_) fun hg => ?_; case' _ => refine zF 16 1 false ?_)
  all_goals first | (refine zY ?_; refine zL1 ?_) | refine zU ?_ | refine zNt ?_ | (refine zGt (fun hg => ?_) fun hg => ?_; case' _ => refine zL1 ?_)
  all_goals first | (refine zY ?_; refine zCm ?_) | refine zU ?_ | refine zNt ?_ | (refine zGt (fun hg => ?_) fun hg => ?_; case' _ => refine zCm ?_)
  all_goals refine zPk ?_
  all_goals refine zAs ?_
  all_goals (
    refine zN ?_; refine awp_ret ?_
    refine post_is (.tmp rfl .nil) zKeep (bcl ?_)
    first | (simp only [freshM, zB, noS]; simp [*]; done) | grind [freshM, zB, noS]
    )
end Go.Proofs.YtegejdhkckndaaaGreat
