/- The walks of: level_con, validT_con, blank_con, member_con, validC_con, lowered_con, plevel_con, pdelT_con, pdel_con, all_con, check1_con, indexFM_con, containsFM_con, indexFV_con, containsFV_con, check_con, silent_con. Each says what one function of the program answers, for the arguments that its statement names. No condition beyond what each theorem says. -/
import Derived.Test.YtkgcehimmfkikaaAnalyserLeastW1
import Derived.Test.YtkgcehimmfkikaaProg
import Derived.KernelRfl
import Derived.Tactics
import Derived.Tactics2
import Derived.StillTactics
set_option linter.unusedVariables false
set_option linter.unusedSimpArgs false
set_option linter.unnecessarySimpa false
set_option maxRecDepth 4000
namespace Go.Proofs.Ytkgcehimmfkikaa
open Go Go.Av Go.Tq
theorem level_con : ∀ (t : Trust), Con none Try.prog 69 [av t] [] (Is (.i (checkT t)) []) := by
  have hcap : capB = 140737488355328 := rfl
  intro t
  induction t using Trust.ind with
  | _ t ih =>
    have hl1 : (t.nodes.map D.i).length = t.nodes.length := by simp
    have hl2 := avs_len t.inner
    refine con_intro Try.func69 rfl Try.call69 rfl ?_
    refine awp_seq ?_
    refine awp_region ?_
    refine aops_box rfl zFlat rfl rfl (fun b1 => ?_)
    refine aops_p (ap_assign rfl) rfl rfl rfl ?_
    refine aops_nil ?_
    refine seqQ_n ?_
    refine awp_seq ?_
    refine awp_seq ?_
    refine awp_region ?_
    first | refine aops_p (ap_fieldAddr (off := 0) (sz := 1) (g := false) rfl rfl) rfl rfl rfl ?_ | refine aops_p (ap_fieldAddr_el (off := 0) (sz := 1) (g := false) rfl rfl zRc) rfl rfl rfl ?_
    first | refine aops_q (aq_load1 rfl zUpd List.not_mem_nil rfl zRc) rfl rfl rfl ?_ | refine aops_q (aq_load_el1 rfl rfl zScal (fun _ h => absurd h List.not_mem_nil)) rfl rfl rfl ?_ | refine aops_q (aq_load_el1' rfl rfl zScal (fun _ h => absurd h List.not_mem_nil)) rfl rfl rfl ?_ | refine aops_q (aq_load_own1 rfl zUpd List.not_mem_nil rfl zAss zScal) rfl rfl rfl ?_
    refine aops_p (ap_cmp rfl rfl rfl) rfl rfl rfl ?_
    refine aops_p (ap_move rfl) rfl rfl rfl ?_
    all_goals (first | (refine aops_yes rfl rfl rfl rfl zDec ?_; (first | refine aops_p (ap_fieldAddr (off := 0) (sz := 1) (g := false) rfl rfl) rfl rfl rfl ?_ | refine aops_p (ap_fieldAddr_el (off := 0) (sz := 1) (g := false) rfl rfl zRc) rfl rfl rfl ?_)) | refine aops_no_u rfl rfl rfl ?_ | refine aops_no_f rfl rfl rfl rfl zDec ?_ | (refine aops_guard_f rfl rfl rfl rfl (fun hg => ?_) (fun hg => ?_); case' _ => (first | refine aops_p (ap_fieldAddr (off := 0) (sz := 1) (g := false) rfl rfl) rfl rfl rfl ?_ | refine aops_p (ap_fieldAddr_el (off := 0) (sz := 1) (g := false) rfl rfl zRc) rfl rfl rfl ?_)))
    all_goals (first | (refine aops_yes rfl rfl rfl rfl zDec ?_; (first | refine aops_q (aq_load1 rfl zUpd List.not_mem_nil rfl zRc) rfl rfl rfl ?_ | refine aops_q (aq_load_el1 rfl rfl zScal (fun _ h => absurd h List.not_mem_nil)) rfl rfl rfl ?_ | refine aops_q (aq_load_el1' rfl rfl zScal (fun _ h => absurd h List.not_mem_nil)) rfl rfl rfl ?_ | refine aops_q (aq_load_own1 rfl zUpd List.not_mem_nil rfl zAss zScal) rfl rfl rfl ?_)) | refine aops_no_u rfl rfl rfl ?_ | refine aops_no_f rfl rfl rfl rfl zDec ?_ | (refine aops_guard_f rfl rfl rfl rfl (fun hg => ?_) (fun hg => ?_); case' _ => (first | refine aops_q (aq_load1 rfl zUpd List.not_mem_nil rfl zRc) rfl rfl rfl ?_ | refine aops_q (aq_load_el1 rfl rfl zScal (fun _ h => absurd h List.not_mem_nil)) rfl rfl rfl ?_ | refine aops_q (aq_load_el1' rfl rfl zScal (fun _ h => absurd h List.not_mem_nil)) rfl rfl rfl ?_ | refine aops_q (aq_load_own1 rfl zUpd List.not_mem_nil rfl zAss zScal) rfl rfl rfl ?_)))
    all_goals (first | (refine aops_yes rfl rfl rfl rfl zDec ?_; (first | refine aops_p (ap_fieldAddr (off := 1) (sz := 1) (g := false) rfl rfl) rfl rfl rfl ?_ | refine aops_p (ap_fieldAddr_el (off := 1) (sz := 1) (g := false) rfl rfl zRc) rfl rfl rfl ?_)) | refine aops_no_u rfl rfl rfl ?_ | refine aops_no_f rfl rfl rfl rfl zDec ?_ | (refine aops_guard_f rfl rfl rfl rfl (fun hg => ?_) (fun hg => ?_); case' _ => (first | refine aops_p (ap_fieldAddr (off := 1) (sz := 1) (g := false) rfl rfl) rfl rfl rfl ?_ | refine aops_p (ap_fieldAddr_el (off := 1) (sz := 1) (g := false) rfl rfl zRc) rfl rfl rfl ?_)))
    all_goals (first | (refine aops_yes rfl rfl rfl rfl zDec ?_; (first | refine aops_q (aq_load1 rfl zUpd List.not_mem_nil rfl zRc) rfl rfl rfl ?_ | refine aops_q (aq_load_el1 rfl rfl zScal (fun _ h => absurd h List.not_mem_nil)) rfl rfl rfl ?_ | refine aops_q (aq_load_el1' rfl rfl zScal (fun _ h => absurd h List.not_mem_nil)) rfl rfl rfl ?_ | refine aops_q (aq_load_own1 rfl zUpd List.not_mem_nil rfl zAss zScal) rfl rfl rfl ?_)) | refine aops_no_u rfl rfl rfl ?_ | refine aops_no_f rfl rfl rfl rfl zDec ?_ | (refine aops_guard_f rfl rfl rfl rfl (fun hg => ?_) (fun hg => ?_); case' _ => (first | refine aops_q (aq_load1 rfl zUpd List.not_mem_nil rfl zRc) rfl rfl rfl ?_ | refine aops_q (aq_load_el1 rfl rfl zScal (fun _ h => absurd h List.not_mem_nil)) rfl rfl rfl ?_ | refine aops_q (aq_load_el1' rfl rfl zScal (fun _ h => absurd h List.not_mem_nil)) rfl rfl rfl ?_ | refine aops_q (aq_load_own1 rfl zUpd List.not_mem_nil rfl zAss zScal) rfl rfl rfl ?_)))
    all_goals (first | (refine aops_yes rfl rfl rfl rfl zDec ?_; (first | refine aops_len rfl rfl rfl rfl (fun _ => ?_) | refine aops_p (ap_len_arr rfl zUpd rfl) rfl rfl rfl ?_ | refine aops_p (ap_len_nil rfl rfl) rfl rfl rfl ?_)) | refine aops_no_u rfl rfl rfl ?_ | refine aops_no_f rfl rfl rfl rfl zDec ?_ | (refine aops_guard_f rfl rfl rfl rfl (fun hg => ?_) (fun hg => ?_); case' _ => (first | refine aops_len rfl rfl rfl rfl (fun _ => ?_) | refine aops_p (ap_len_arr rfl zUpd rfl) rfl rfl rfl ?_ | refine aops_p (ap_len_nil rfl rfl) rfl rfl rfl ?_)))
    all_goals (first | (refine aops_yes rfl rfl rfl rfl zDec ?_; (first | refine aops_p (ap_fieldAddr (off := 2) (sz := 1) (g := false) rfl rfl) rfl rfl rfl ?_ | refine aops_p (ap_fieldAddr_el (off := 2) (sz := 1) (g := false) rfl rfl zRc) rfl rfl rfl ?_)) | refine aops_no_u rfl rfl rfl ?_ | refine aops_no_f rfl rfl rfl rfl zDec ?_ | (refine aops_guard_f rfl rfl rfl rfl (fun hg => ?_) (fun hg => ?_); case' _ => (first | refine aops_p (ap_fieldAddr (off := 2) (sz := 1) (g := false) rfl rfl) rfl rfl rfl ?_ | refine aops_p (ap_fieldAddr_el (off := 2) (sz := 1) (g := false) rfl rfl zRc) rfl rfl rfl ?_)))
    all_goals (first | (refine aops_yes rfl rfl rfl rfl zDec ?_; (first | refine aops_q (aq_load1 rfl zUpd List.not_mem_nil rfl zRc) rfl rfl rfl ?_ | refine aops_q (aq_load_el1 rfl rfl zScal (fun _ h => absurd h List.not_mem_nil)) rfl rfl rfl ?_ | refine aops_q (aq_load_el1' rfl rfl zScal (fun _ h => absurd h List.not_mem_nil)) rfl rfl rfl ?_ | refine aops_q (aq_load_own1 rfl zUpd List.not_mem_nil rfl zAss zScal) rfl rfl rfl ?_)) | refine aops_no_u rfl rfl rfl ?_ | refine aops_no_f rfl rfl rfl rfl zDec ?_ | (refine aops_guard_f rfl rfl rfl rfl (fun hg => ?_) (fun hg => ?_); case' _ => (first | refine aops_q (aq_load1 rfl zUpd List.not_mem_nil rfl zRc) rfl rfl rfl ?_ | refine aops_q (aq_load_el1 rfl rfl zScal (fun _ h => absurd h List.not_mem_nil)) rfl rfl rfl ?_ | refine aops_q (aq_load_el1' rfl rfl zScal (fun _ h => absurd h List.not_mem_nil)) rfl rfl rfl ?_ | refine aops_q (aq_load_own1 rfl zUpd List.not_mem_nil rfl zAss zScal) rfl rfl rfl ?_)))
    all_goals (first | (refine aops_yes rfl rfl rfl rfl zDec ?_; (first | refine aops_len rfl rfl rfl rfl (fun _ => ?_) | refine aops_p (ap_len_arr rfl zUpd rfl) rfl rfl rfl ?_ | refine aops_p (ap_len_nil rfl rfl) rfl rfl rfl ?_)) | refine aops_no_u rfl rfl rfl ?_ | refine aops_no_f rfl rfl rfl rfl zDec ?_ | (refine aops_guard_f rfl rfl rfl rfl (fun hg => ?_) (fun hg => ?_); case' _ => (first | refine aops_len rfl rfl rfl rfl (fun _ => ?_) | refine aops_p (ap_len_arr rfl zUpd rfl) rfl rfl rfl ?_ | refine aops_p (ap_len_nil rfl rfl) rfl rfl rfl ?_)))
    all_goals (first | (refine aops_yes rfl rfl rfl rfl zDec ?_; (refine aops_p (ap_arith rfl rfl rfl (by omega)) rfl rfl rfl ?_)) | refine aops_no_u rfl rfl rfl ?_ | refine aops_no_f rfl rfl rfl rfl zDec ?_ | (refine aops_guard_f rfl rfl rfl rfl (fun hg => ?_) (fun hg => ?_); case' _ => (refine aops_p (ap_arith rfl rfl rfl (by omega)) rfl rfl rfl ?_)))
    all_goals (first | (refine aops_yes rfl rfl rfl rfl zDec ?_; (refine aops_p (ap_cmp rfl rfl rfl) rfl rfl rfl ?_)) | refine aops_no_u rfl rfl rfl ?_ | refine aops_no_f rfl rfl rfl rfl zDec ?_ | (refine aops_guard_f rfl rfl rfl rfl (fun hg => ?_) (fun hg => ?_); case' _ => (refine aops_p (ap_cmp rfl rfl rfl) rfl rfl rfl ?_)))
    all_goals (first | refine aops_p (ap_pick_true rfl zDec rfl) rfl rfl rfl ?_ | refine aops_p (ap_pick_false rfl zDec rfl) rfl rfl rfl ?_)
    all_goals (
      refine aops_nil ?_
      refine seqQ_n ?_
      refine awp_cond rfl (fun hc => ?_) (fun hc => ?_)
      · first
        | (exact absurd hc (by decide))
        | (refine awp_seq ?_
           refine awp_region ?_
           refine aops_p (ap_assign rfl) rfl rfl rfl ?_
           refine aops_nil ?_
           refine seqQ_n ?_
           refine awp_ret ?_
           refine seqQ_r ?_
           refine post_is (.tmp rfl .nil) .nil ?_
           simp only [resD, checkT]; rw [if_pos (by first | (have := of_decide_eq_true hg; omega) | (have := of_decide_eq_true hc; omega))]
          )
      · first
        | (exact absurd hc (by decide))
        | (have hth : ¬ (t.th < 1 ∨ (t.nodes.length + t.inner.length : Int) < t.th) := by have h1 := of_decide_eq_false hg; have h2 := of_decide_eq_false hc; omega
           refine awp_skip ?_
           refine seqQ_n ?_
           refine awp_seq ?_
           refine awp_seq ?_
           refine awp_region ?_
           first | refine aops_p (ap_fieldAddr (off := 1) (sz := 1) (g := false) rfl rfl) rfl rfl rfl ?_ | refine aops_p (ap_fieldAddr_el (off := 1) (sz := 1) (g := false) rfl rfl zRc) rfl rfl rfl ?_
           first | refine aops_q (aq_load1 rfl zUpd List.not_mem_nil rfl zRc) rfl rfl rfl ?_ | refine aops_q (aq_load_el1 rfl rfl zScal (fun _ h => absurd h List.not_mem_nil)) rfl rfl rfl ?_ | refine aops_q (aq_load_el1' rfl rfl zScal (fun _ h => absurd h List.not_mem_nil)) rfl rfl rfl ?_ | refine aops_q (aq_load_own1 rfl zUpd List.not_mem_nil rfl zAss zScal) rfl rfl rfl ?_
           refine aops_call_v zRc (containsF_con _ badN lev1_con t.nodes) rfl rfl ?_
           refine aops_nil ?_
           refine seqQ_n ?_
           refine awp_cond rfl (fun hc => ?_) (fun hc => ?_)
           · have hany := hc
             refine awp_seq ?_
             refine awp_region ?_
             refine aops_p (ap_assign rfl) rfl rfl rfl ?_
             refine aops_nil ?_
             refine seqQ_n ?_
             refine awp_ret ?_
             refine seqQ_r ?_
             refine post_is (.tmp rfl .nil) .nil ?_
             simp only [resD, checkT]; rw [if_neg hth, if_pos hany]
           · have hany := hc
             refine awp_skip ?_
             refine seqQ_n ?_
             refine awp_seq ?_
             refine awp_seq ?_
             refine awp_region ?_
             first | refine aops_p (ap_fieldAddr (off := 1) (sz := 1) (g := false) rfl rfl) rfl rfl rfl ?_ | refine aops_p (ap_fieldAddr_el (off := 1) (sz := 1) (g := false) rfl rfl zRc) rfl rfl rfl ?_
             first | refine aops_q (aq_load1 rfl zUpd List.not_mem_nil rfl zRc) rfl rfl rfl ?_ | refine aops_q (aq_load_el1 rfl rfl zScal (fun _ h => absurd h List.not_mem_nil)) rfl rfl rfl ?_ | refine aops_q (aq_load_el1' rfl rfl zScal (fun _ h => absurd h List.not_mem_nil)) rfl rfl rfl ?_ | refine aops_q (aq_load_own1 rfl zUpd List.not_mem_nil rfl zAss zScal) rfl rfl rfl ?_
             refine aops_call_v zRc (of_con t.nodes) rfl rfl ?_
             refine aops_p (ap_move rfl) rfl rfl rfl ?_
             refine aops_p (ap_extract rfl rfl) rfl rfl rfl ?_
             refine aops_p (ap_extract rfl rfl) rfl rfl rfl ?_
             refine aops_p (ap_assign rfl) rfl rfl rfl ?_
             refine aops_p (ap_assign rfl) rfl rfl rfl ?_
             refine aops_nil ?_
             refine seqQ_n ?_
             refine awp_seq ?_
             refine awp_region ?_
             refine aops_p (ap_move rfl) rfl rfl rfl ?_
             refine aops_p (ap_cmp rfl rfl rfl) rfl rfl rfl ?_
             refine aops_nil ?_
             refine seqQ_n ?_
             refine awp_cond rfl (fun hc => ?_) (fun hc => ?_)
             · have he := hc
               refine awp_seq ?_
               refine awp_region ?_
               refine aops_p (ap_move rfl) rfl rfl rfl ?_
               refine aops_p (ap_assign rfl) rfl rfl rfl ?_
               refine aops_nil ?_
               refine seqQ_n ?_
               refine awp_ret ?_
               refine seqQ_r ?_
               refine post_is (.tmp rfl .nil) .nil ?_
               simp only [resD, checkT]; rw [if_neg hth, if_neg (by rw [hany]; simp), if_pos (by simpa using he)]
             · have he := hc
               refine awp_skip ?_
               refine seqQ_n ?_
               refine awp_seq ?_
               refine awp_seq ?_
               refine awp_region ?_
               first | refine aops_p (ap_fieldAddr (off := 2) (sz := 1) (g := false) rfl rfl) rfl rfl rfl ?_ | refine aops_p (ap_fieldAddr_el (off := 2) (sz := 1) (g := false) rfl rfl zRc) rfl rfl rfl ?_
               first | refine aops_q (aq_load1 rfl zUpd List.not_mem_nil rfl zRc) rfl rfl rfl ?_ | refine aops_q (aq_load_el1 rfl rfl zScal (fun _ h => absurd h List.not_mem_nil)) rfl rfl rfl ?_ | refine aops_q (aq_load_el1' rfl rfl zScal (fun _ h => absurd h List.not_mem_nil)) rfl rfl rfl ?_ | refine aops_q (aq_load_own1 rfl zUpd List.not_mem_nil rfl zAss zScal) rfl rfl rfl ?_
               first | refine aops_len rfl rfl rfl rfl (fun _ => ?_) | refine aops_p (ap_len_arr rfl zUpd rfl) rfl rfl rfl ?_ | refine aops_p (ap_len_nil rfl rfl) rfl rfl rfl ?_
               refine aops_p (ap_move rfl) rfl rfl rfl ?_
               refine aops_nil ?_
               refine seqQ_n ?_
               refine awp_block ?_
               refine awp_loop1 [36, 37] [] (fun (k : Nat) r => (38, .i (k : Int)) :: r) (fun (k : Nat) r => r) (fun (k : Nat) => k ≤ t.inner.length ∧ checkL (t.inner.drop k) = checkL t.inner) (fun (k : Nat) => t.inner.length - k) (0) zRc ⟨by omega, by simp⟩ (wk zSub (by repeat (first | exact .nil | refine .cons (by first | exact .here | exact .there .here | exact .there (.there .here) | exact .there (.there (.there .here)) | exact .there (.there (.there (.there .here)))) ?_))) ?_
               intro k ⟨hk, hI⟩
               refine awp_seq ?_
               refine awp_region ?_
               refine aops_p (ap_cmp rfl rfl rfl) rfl rfl rfl ?_
               refine aops_nil ?_
               refine seqQ_n ?_
               refine awp_seq ?_
               refine awp_cond rfl (fun hc => ?_) (fun hc => ?_)
               · have hlt : k < t.inner.length := by have := of_decide_eq_true hc; omega
                 obtain ⟨x, hx, hd⟩ := drop_cons hlt
                 have hx' := avs_get hx
                 have hxm := List.mem_of_getElem? hx
                 refine awp_skip ?_
                 refine seqQ_n ?_
                 refine awp_seq ?_
                 refine awp_block ?_
                 refine awp_seq ?_
                 refine awp_region ?_
                 first | refine aops_p (ap_index rfl rfl rfl rfl (by decide) rfl zAss) rfl rfl rfl ?_ | refine aops_p (ap_index rfl rfl rfl rfl (by decide) (by omega) zAss) rfl rfl rfl ?_ | refine aops_p (ap_index_own rfl rfl rfl rfl rfl (by first | omega | (simp only [List.length_map, List.length_set, avs_len]; omega))) rfl rfl rfl ?_
                 first | refine aops_q (aq_load rfl zUpd List.not_mem_nil rfl rfl zRc) rfl rfl rfl ?_ | refine aops_q (aq_load_el rfl rfl rfl rfl (fun _ h => absurd h List.not_mem_nil)) rfl rfl rfl ?_
                 refine aops_alloc rfl zRc rfl rfl (fun b6 => ?_)
                 first | refine aops_store rfl rfl zFlat zUpd rfl zRc ?_ | refine aops_store_own1 rfl rfl zScal zUpd rfl (by simp only [List.length_set, List.length_map]; omega) ?_
                 refine aops_nil ?_
                 refine seqQ_n ?_
                 refine awp_seq ?_
                 refine awp_region ?_
                 first | refine aops_q (aq_load rfl zUpd List.not_mem_nil rfl rfl zRc) rfl rfl rfl ?_ | refine aops_q (aq_load_el rfl rfl rfl rfl (fun _ h => absurd h List.not_mem_nil)) rfl rfl rfl ?_
                 refine aops_call_v zRc (ih _ hxm) rfl rfl ?_
                 refine aops_p (ap_assign rfl) rfl rfl rfl ?_
                 refine aops_nil ?_
                 refine seqQ_n ?_
                 refine awp_seq ?_
                 refine awp_region ?_
                 refine aops_p (ap_move rfl) rfl rfl rfl ?_
                 refine aops_p (ap_cmp rfl rfl rfl) rfl rfl rfl ?_
                 refine aops_nil ?_
                 refine seqQ_n ?_
                 refine awp_cond rfl (fun hc => ?_) (fun hc => ?_)
                 · refine awp_seq ?_
                   refine awp_region ?_
                   refine aops_p (ap_move rfl) rfl rfl rfl ?_
                   refine aops_p (ap_assign rfl) rfl rfl rfl ?_
                   refine aops_nil ?_
                   refine seqQ_n ?_
                   refine awp_ret ?_
                   refine blockQ_r ?_
                   refine seqQ_r ?_
                   refine seqQ_r ?_
                   refine blockQ_r ?_
                   refine seqQ_r ?_
                   refine post_is (.tmp rfl .nil) .nil ?_
                   rw [hd, checkL_cons, if_pos (by simpa using hc)] at hI
                   have e : checkT t = checkL t.inner := by unfold checkT; rw [if_neg hth, if_neg (by rw [hany]; simp), if_neg (by simpa using he)]
                   simp only [resD]; rw [e, ← hI]
                 · refine awp_skip ?_
                   refine blockQ_n ?_
                   refine seqQ_n ?_
                   refine awp_region ?_
                   refine aops_p (ap_arith rfl rfl rfl (by omega)) rfl rfl rfl ?_
                   refine aops_p (ap_move rfl) rfl rfl rfl ?_
                   refine aops_nil ?_
                   refine seqQ_n ?_
                   have hz := of_decide_eq_true (Bool.not_eq_false' .. ▸ hc)
                   rw [hd, checkL_cons, if_neg (by simpa using hz)] at hI
                   refine ⟨k + 1, ⟨by omega, hI⟩, by omega, wk zSub (by repeat (first | exact .nil | refine .cons (by first | exact .here | exact .there .here | exact .there (.there .here) | exact .there (.there (.there .here)) | exact .there (.there (.there (.there .here)))) ?_))⟩
               · have hge : t.inner.length ≤ k := by have := of_decide_eq_false hc; omega
                 rw [drop_nil hge] at hI; simp only [checkL] at hI
                 refine awp_exit ?_
                 refine seqQ_x ?_
                 refine seqQ_x ?_
                 refine blockQ_x rfl ?_
                 refine seqQ_n ?_
                 refine awp_seq ?_
                 refine awp_region ?_
                 refine aops_p (ap_assign rfl) rfl rfl rfl ?_
                 refine aops_nil ?_
                 refine seqQ_n ?_
                 refine awp_ret ?_
                 refine post_is (.tmp rfl .nil) .nil ?_
                 have e : checkT t = checkL t.inner := by unfold checkT; rw [if_neg hth, if_neg (by rw [hany]; simp), if_neg (by simpa using he)]
                 simp only [resD]; rw [e, ← hI]
          )
      )
theorem validT_con (t : Trust) (ht : sizeT t ≤ 1000000000) : Con none Try.prog 62 [av t] [] (Is (.i (validT t)) []) := by
  have hcap : capB = 140737488355328 := rfl
  refine con_intro Try.func62 rfl Try.call62 rfl ?_
  refine awp_seq ?_
  refine awp_region ?_
  refine aops_box rfl zFlat rfl rfl (fun b1 => ?_)
  refine aops_p (ap_assign rfl) rfl rfl rfl ?_
  refine aops_nil ?_
  refine seqQ_n ?_
  refine awp_seq ?_
  refine awp_seq ?_
  refine awp_region ?_
  first | refine aops_q (aq_load rfl zUpd List.not_mem_nil rfl rfl zRc) rfl rfl rfl ?_ | refine aops_q (aq_load_el rfl rfl rfl rfl (fun _ h => absurd h List.not_mem_nil)) rfl rfl rfl ?_
  refine aops_call_v zRc (depth_con 1000000000 (by omega) t ht) rfl rfl ?_
  refine aops_p (ap_cmp rfl rfl rfl) rfl rfl rfl ?_
  refine aops_p (ap_move rfl) rfl rfl rfl ?_
  all_goals (first | (refine aops_yes rfl rfl rfl rfl zDec ?_; (first | refine aops_q (aq_load rfl zUpd List.not_mem_nil rfl rfl zRc) rfl rfl rfl ?_ | refine aops_q (aq_load_el rfl rfl rfl rfl (fun _ h => absurd h List.not_mem_nil)) rfl rfl rfl ?_)) | refine aops_no_u rfl rfl rfl ?_ | refine aops_no_f rfl rfl rfl rfl zDec ?_ | (refine aops_guard_f rfl rfl rfl rfl (fun hg => ?_) (fun hg => ?_); case' _ => (first | refine aops_q (aq_load rfl zUpd List.not_mem_nil rfl rfl zRc) rfl rfl rfl ?_ | refine aops_q (aq_load_el rfl rfl rfl rfl (fun _ h => absurd h List.not_mem_nil)) rfl rfl rfl ?_)))
  all_goals (first | (refine aops_yes rfl rfl rfl rfl zDec ?_; (refine aops_call_v zRc (size_con 1000000000 (by omega) t ht) rfl rfl ?_)) | refine aops_no_u rfl rfl rfl ?_ | refine aops_no_f rfl rfl rfl rfl zDec ?_ | (refine aops_guard_f rfl rfl rfl rfl (fun hg => ?_) (fun hg => ?_); case' _ => (refine aops_call_v zRc (size_con 1000000000 (by omega) t ht) rfl rfl ?_)))
  all_goals (first | (refine aops_yes rfl rfl rfl rfl zDec ?_; (refine aops_p (ap_cmp rfl rfl rfl) rfl rfl rfl ?_)) | refine aops_no_u rfl rfl rfl ?_ | refine aops_no_f rfl rfl rfl rfl zDec ?_ | (refine aops_guard_f rfl rfl rfl rfl (fun hg => ?_) (fun hg => ?_); case' _ => (refine aops_p (ap_cmp rfl rfl rfl) rfl rfl rfl ?_)))
  all_goals (first | refine aops_p (ap_pick_true rfl zDec rfl) rfl rfl rfl ?_ | refine aops_p (ap_pick_false rfl zDec rfl) rfl rfl rfl ?_)
  all_goals (
    refine aops_nil ?_
    refine seqQ_n ?_
    refine awp_cond rfl (fun hc => ?_) (fun hc => ?_)
    · first
      | (exact absurd hc (by decide))
      | (refine awp_seq ?_
         refine awp_region ?_
         refine aops_p (ap_assign rfl) rfl rfl rfl ?_
         refine aops_nil ?_
         refine seqQ_n ?_
         refine awp_ret ?_
         refine seqQ_r ?_
         refine post_is (.tmp rfl .nil) .nil ?_
         simp only [resD, validT]; rw [if_pos (by first | (have := of_decide_eq_true hg; omega) | (have := of_decide_eq_true hc; omega))]
        )
    · first
      | (exact absurd hc (by decide))
      | (refine awp_skip ?_
         refine seqQ_n ?_
         refine awp_seq ?_
         refine awp_region ?_
         first | refine aops_q (aq_load rfl zUpd List.not_mem_nil rfl rfl zRc) rfl rfl rfl ?_ | refine aops_q (aq_load_el rfl rfl rfl rfl (fun _ h => absurd h List.not_mem_nil)) rfl rfl rfl ?_
         refine aops_call_v zRc (level_con t) rfl rfl ?_
         refine aops_p (ap_assign rfl) rfl rfl rfl ?_
         refine aops_nil ?_
         refine seqQ_n ?_
         refine awp_ret ?_
         refine post_is (.tmp rfl .nil) .nil ?_
         simp only [resD, validT]; rw [if_neg (by have h1 := of_decide_eq_false hg; have h2 := of_decide_eq_false hc; omega)]
        )
    )
theorem op_ints {w : World} (n : Nat) : OpN Try.prog w 22 n (List Int) (fun l => [.sl 1 (l.map .i)]) :=
  op_slice Try.underlying22 zKr (by omega) (of_decide_eq_true zKr) mk_int (fun m _ => op_int Try.underlying3)
def blankT (t : Trust) : Bool := decide (t.th = 0) && (decide (t.nodes.length = 0) && decide (t.inner.length = 0))
theorem memV_0 {m : Mem} {n : Nat} {b : Bool} (h : m.decl = false) (hb : blankT m.t = b) : memV m n = if b = true then 0 else 1 := by
  unfold memV
  rw [h, ← hb]
  unfold blankT
  simp [and_assoc]
theorem blank_con (t : Trust) : Con none Try.prog 61 [av t] [] (Is (.b (blankT t)) []) := by
  have hcap : capB = 140737488355328 := rfl
  have hl1 : (t.nodes.map D.i).length = t.nodes.length := by simp
  have hl2 := avs_len t.inner
  refine con_intro Try.func61 rfl Try.call61 rfl ?_
  refine awp_seq ?_
  refine awp_region ?_
  refine aops_box rfl zFlat rfl rfl (fun b1 => ?_)
  refine aops_p (ap_assign rfl) rfl rfl rfl ?_
  refine aops_nil ?_
  refine seqQ_n ?_
  refine awp_seq ?_
  refine awp_region ?_
  first | refine aops_p (ap_fieldAddr (off := 0) (sz := 1) (g := false) rfl rfl) rfl rfl rfl ?_ | refine aops_p (ap_fieldAddr_el (off := 0) (sz := 1) (g := false) rfl rfl zRc) rfl rfl rfl ?_
  first | refine aops_q (aq_load1 rfl zUpd List.not_mem_nil rfl zRc) rfl rfl rfl ?_ | refine aops_q (aq_load_el1 rfl rfl zScal (fun _ h => absurd h List.not_mem_nil)) rfl rfl rfl ?_ | refine aops_q (aq_load_el1' rfl rfl zScal (fun _ h => absurd h List.not_mem_nil)) rfl rfl rfl ?_ | refine aops_q (aq_load_own1 rfl zUpd List.not_mem_nil rfl zAss zScal) rfl rfl rfl ?_
  refine aops_p (ap_cmp rfl rfl rfl) rfl rfl rfl ?_
  refine aops_p (ap_move rfl) rfl rfl rfl ?_
  all_goals (first | (refine aops_yes rfl rfl rfl rfl zDec ?_; (first | refine aops_p (ap_fieldAddr (off := 1) (sz := 1) (g := false) rfl rfl) rfl rfl rfl ?_ | refine aops_p (ap_fieldAddr_el (off := 1) (sz := 1) (g := false) rfl rfl zRc) rfl rfl rfl ?_)) | refine aops_no_u rfl rfl rfl ?_ | refine aops_no_t rfl rfl rfl rfl zDec ?_ | (refine aops_guard_t rfl rfl rfl rfl (fun hg => ?_) (fun hg => ?_); case' _ => (first | refine aops_p (ap_fieldAddr (off := 1) (sz := 1) (g := false) rfl rfl) rfl rfl rfl ?_ | refine aops_p (ap_fieldAddr_el (off := 1) (sz := 1) (g := false) rfl rfl zRc) rfl rfl rfl ?_)))
  all_goals (first | (refine aops_yes rfl rfl rfl rfl zDec ?_; (first | refine aops_q (aq_load1 rfl zUpd List.not_mem_nil rfl zRc) rfl rfl rfl ?_ | refine aops_q (aq_load_el1 rfl rfl zScal (fun _ h => absurd h List.not_mem_nil)) rfl rfl rfl ?_ | refine aops_q (aq_load_el1' rfl rfl zScal (fun _ h => absurd h List.not_mem_nil)) rfl rfl rfl ?_ | refine aops_q (aq_load_own1 rfl zUpd List.not_mem_nil rfl zAss zScal) rfl rfl rfl ?_)) | refine aops_no_u rfl rfl rfl ?_ | refine aops_no_t rfl rfl rfl rfl zDec ?_ | (refine aops_guard_t rfl rfl rfl rfl (fun hg => ?_) (fun hg => ?_); case' _ => (first | refine aops_q (aq_load1 rfl zUpd List.not_mem_nil rfl zRc) rfl rfl rfl ?_ | refine aops_q (aq_load_el1 rfl rfl zScal (fun _ h => absurd h List.not_mem_nil)) rfl rfl rfl ?_ | refine aops_q (aq_load_el1' rfl rfl zScal (fun _ h => absurd h List.not_mem_nil)) rfl rfl rfl ?_ | refine aops_q (aq_load_own1 rfl zUpd List.not_mem_nil rfl zAss zScal) rfl rfl rfl ?_)))
  all_goals (first | (refine aops_yes rfl rfl rfl rfl zDec ?_; (first | refine aops_len rfl rfl rfl rfl (fun _ => ?_) | refine aops_p (ap_len_arr rfl zUpd rfl) rfl rfl rfl ?_ | refine aops_p (ap_len_nil rfl rfl) rfl rfl rfl ?_)) | refine aops_no_u rfl rfl rfl ?_ | refine aops_no_t rfl rfl rfl rfl zDec ?_ | (refine aops_guard_t rfl rfl rfl rfl (fun hg => ?_) (fun hg => ?_); case' _ => (first | refine aops_len rfl rfl rfl rfl (fun _ => ?_) | refine aops_p (ap_len_arr rfl zUpd rfl) rfl rfl rfl ?_ | refine aops_p (ap_len_nil rfl rfl) rfl rfl rfl ?_)))
  all_goals (first | (refine aops_yes rfl rfl rfl rfl zDec ?_; ((rw [hl1]; refine aops_p (ap_cmp rfl rfl rfl) rfl rfl rfl ?_))) | refine aops_no_u rfl rfl rfl ?_ | refine aops_no_t rfl rfl rfl rfl zDec ?_ | (refine aops_guard_t rfl rfl rfl rfl (fun hg => ?_) (fun hg => ?_); case' _ => ((rw [hl1]; refine aops_p (ap_cmp rfl rfl rfl) rfl rfl rfl ?_))))
  all_goals (first | refine aops_p (ap_pick_true rfl zDec rfl) rfl rfl rfl ?_ | refine aops_p (ap_pick_false rfl zDec rfl) rfl rfl rfl ?_)
  all_goals (refine aops_p (ap_move rfl) rfl rfl rfl ?_)
  all_goals (first | (refine aops_yes rfl rfl rfl rfl zDec ?_; (first | refine aops_p (ap_fieldAddr (off := 2) (sz := 1) (g := false) rfl rfl) rfl rfl rfl ?_ | refine aops_p (ap_fieldAddr_el (off := 2) (sz := 1) (g := false) rfl rfl zRc) rfl rfl rfl ?_)) | refine aops_no_u rfl rfl rfl ?_ | refine aops_no_t rfl rfl rfl rfl zDec ?_ | (refine aops_guard_t rfl rfl rfl rfl (fun hg => ?_) (fun hg => ?_); case' _ => (first | refine aops_p (ap_fieldAddr (off := 2) (sz := 1) (g := false) rfl rfl) rfl rfl rfl ?_ | refine aops_p (ap_fieldAddr_el (off := 2) (sz := 1) (g := false) rfl rfl zRc) rfl rfl rfl ?_)))
  all_goals (first | (refine aops_yes rfl rfl rfl rfl zDec ?_; (first | refine aops_q (aq_load1 rfl zUpd List.not_mem_nil rfl zRc) rfl rfl rfl ?_ | refine aops_q (aq_load_el1 rfl rfl zScal (fun _ h => absurd h List.not_mem_nil)) rfl rfl rfl ?_ | refine aops_q (aq_load_el1' rfl rfl zScal (fun _ h => absurd h List.not_mem_nil)) rfl rfl rfl ?_ | refine aops_q (aq_load_own1 rfl zUpd List.not_mem_nil rfl zAss zScal) rfl rfl rfl ?_)) | refine aops_no_u rfl rfl rfl ?_ | refine aops_no_t rfl rfl rfl rfl zDec ?_ | (refine aops_guard_t rfl rfl rfl rfl (fun hg => ?_) (fun hg => ?_); case' _ => (first | refine aops_q (aq_load1 rfl zUpd List.not_mem_nil rfl zRc) rfl rfl rfl ?_ | refine aops_q (aq_load_el1 rfl rfl zScal (fun _ h => absurd h List.not_mem_nil)) rfl rfl rfl ?_ | refine aops_q (aq_load_el1' rfl rfl zScal (fun _ h => absurd h List.not_mem_nil)) rfl rfl rfl ?_ | refine aops_q (aq_load_own1 rfl zUpd List.not_mem_nil rfl zAss zScal) rfl rfl rfl ?_)))
  all_goals (first | (refine aops_yes rfl rfl rfl rfl zDec ?_; (first | refine aops_len rfl rfl rfl rfl (fun _ => ?_) | refine aops_p (ap_len_arr rfl zUpd rfl) rfl rfl rfl ?_ | refine aops_p (ap_len_nil rfl rfl) rfl rfl rfl ?_)) | refine aops_no_u rfl rfl rfl ?_ | refine aops_no_t rfl rfl rfl rfl zDec ?_ | (refine aops_guard_t rfl rfl rfl rfl (fun hg => ?_) (fun hg => ?_); case' _ => (first | refine aops_len rfl rfl rfl rfl (fun _ => ?_) | refine aops_p (ap_len_arr rfl zUpd rfl) rfl rfl rfl ?_ | refine aops_p (ap_len_nil rfl rfl) rfl rfl rfl ?_)))
  all_goals (first | (refine aops_yes rfl rfl rfl rfl zDec ?_; ((rw [hl2]; refine aops_p (ap_cmp rfl rfl rfl) rfl rfl rfl ?_))) | refine aops_no_u rfl rfl rfl ?_ | refine aops_no_t rfl rfl rfl rfl zDec ?_ | (refine aops_guard_t rfl rfl rfl rfl (fun hg => ?_) (fun hg => ?_); case' _ => ((rw [hl2]; refine aops_p (ap_cmp rfl rfl rfl) rfl rfl rfl ?_))))
  all_goals (first | refine aops_p (ap_pick_true rfl zDec rfl) rfl rfl rfl ?_ | refine aops_p (ap_pick_false rfl zDec rfl) rfl rfl rfl ?_)
  all_goals (refine aops_p (ap_assign rfl) rfl rfl rfl ?_)
  all_goals (
    refine aops_nil ?_
    refine seqQ_n ?_
    refine awp_ret ?_
    refine post_is (.tmp rfl .nil) (by repeat (first | exact .nil | refine .cons (by first | exact .here | exact .there .here | exact .there (.there .here) | exact .there (.there (.there .here)) | exact .there (.there (.there (.there .here)))) ?_)) ?_
    unfold blankT
    first
    | (simp_all [resD]; done)
    | (have e1 : t.nodes = [] := by simpa using of_decide_eq_true (show decide (((t.nodes.length : Nat) : Int) = 0) = true by with_reducible assumption); simp_all [resD]; done)
    )
theorem member_con (m : Mem) (hm : sizeT m.t ≤ 1000000000) (n : Nat) (hn : n ≤ 10) : Con none Try.prog 52 [mv m, .i n] [] (Is (.i (memV m n)) []) := by
  have hcap : capB = 140737488355328 := rfl
  have hp10 := pow_le10 hn
  have hul := uses_lt m.t
  refine con_intro Try.func52 rfl Try.call52 rfl ?_
  refine awp_seq ?_
  refine awp_region ?_
  refine aops_box rfl zFlat rfl rfl (fun b2 => ?_)
  refine aops_p (ap_assign rfl) rfl rfl rfl ?_
  refine aops_nil ?_
  refine seqQ_n ?_
  refine awp_seq ?_
  refine awp_seq ?_
  refine awp_region ?_
  first | refine aops_p (ap_fieldAddr (off := 0) (sz := 1) (g := false) rfl rfl) rfl rfl rfl ?_ | refine aops_p (ap_fieldAddr_el (off := 0) (sz := 1) (g := false) rfl rfl zRc) rfl rfl rfl ?_
  first | refine aops_q (aq_load1 rfl zUpd List.not_mem_nil rfl zRc) rfl rfl rfl ?_ | refine aops_q (aq_load_el1 rfl rfl zScal (fun _ h => absurd h List.not_mem_nil)) rfl rfl rfl ?_ | refine aops_q (aq_load_el1' rfl rfl zScal (fun _ h => absurd h List.not_mem_nil)) rfl rfl rfl ?_ | refine aops_q (aq_load_own1 rfl zUpd List.not_mem_nil rfl zAss zScal) rfl rfl rfl ?_
  refine aops_p (ap_not rfl) rfl rfl rfl ?_
  refine aops_nil ?_
  refine seqQ_n ?_
  refine awp_cond rfl (fun hc => ?_) (fun hc => ?_)
  · have hdl : m.decl = false := not_t hc
    refine awp_seq ?_
    refine awp_seq ?_
    refine awp_region ?_
    first | refine aops_p (ap_fieldAddr (off := 1) (sz := 3) (g := true) rfl rfl) rfl rfl rfl ?_ | refine aops_p (ap_fieldAddr_el (off := 1) (sz := 3) (g := true) rfl rfl zRc) rfl rfl rfl ?_
    first | refine aops_q (aq_load rfl zUpd List.not_mem_nil rfl rfl zRc) rfl rfl rfl ?_ | refine aops_q (aq_load_el rfl rfl rfl rfl (fun _ h => absurd h List.not_mem_nil)) rfl rfl rfl ?_
    refine aops_call_b zRc (blank_con m.t) rfl rfl (fun c11 hc11 => ?_)
    refine aops_p (ap_not rfl) rfl rfl rfl ?_
    refine aops_nil ?_
    refine seqQ_n ?_
    refine awp_cond rfl (fun hc => ?_) (fun hc => ?_)
    · refine awp_seq ?_
      refine awp_region ?_
      refine aops_p (ap_assign rfl) rfl rfl rfl ?_
      refine aops_nil ?_
      refine seqQ_n ?_
      refine awp_ret ?_
      refine seqQ_r ?_
      refine seqQ_r ?_
      refine post_is (.tmp rfl .nil) .nil ?_
      rw [memV_0 hdl (hc11.trans (not_t hc))]; rfl
    · refine awp_skip ?_
      refine seqQ_n ?_
      refine awp_seq ?_
      refine awp_region ?_
      refine aops_p (ap_assign rfl) rfl rfl rfl ?_
      refine aops_nil ?_
      refine seqQ_n ?_
      refine awp_ret ?_
      refine seqQ_r ?_
      refine post_is (.tmp rfl .nil) .nil ?_
      rw [memV_0 hdl (hc11.trans (not_f hc))]; rfl
  · have hdl : m.decl = true := not_f hc
    refine awp_skip ?_
    refine seqQ_n ?_
    refine awp_seq ?_
    refine awp_seq ?_
    refine awp_region ?_
    first | refine aops_p (ap_fieldAddr (off := 1) (sz := 3) (g := true) rfl rfl) rfl rfl rfl ?_ | refine aops_p (ap_fieldAddr_el (off := 1) (sz := 3) (g := true) rfl rfl zRc) rfl rfl rfl ?_
    first | refine aops_q (aq_load rfl zUpd List.not_mem_nil rfl rfl zRc) rfl rfl rfl ?_ | refine aops_q (aq_load_el rfl rfl rfl rfl (fun _ h => absurd h List.not_mem_nil)) rfl rfl rfl ?_
    refine aops_call_v zRc (validT_con m.t hm) rfl rfl ?_
    refine aops_p (ap_assign rfl) rfl rfl rfl ?_
    refine aops_nil ?_
    refine seqQ_n ?_
    refine awp_seq ?_
    refine awp_region ?_
    refine aops_p (ap_move rfl) rfl rfl rfl ?_
    refine aops_p (ap_cmp rfl rfl rfl) rfl rfl rfl ?_
    refine aops_nil ?_
    refine seqQ_n ?_
    refine awp_cond rfl (fun hc => ?_) (fun hc => ?_)
    · have hv := of_neq_true hc
      refine awp_seq ?_
      refine awp_region ?_
      refine aops_p (ap_move rfl) rfl rfl rfl ?_
      refine aops_p (ap_assign rfl) rfl rfl rfl ?_
      refine aops_nil ?_
      refine seqQ_n ?_
      refine awp_ret ?_
      refine seqQ_r ?_
      refine post_is (.tmp rfl .nil) .nil ?_
      unfold memV; rw [if_pos hdl, if_neg hv]; rfl
    · have hv := of_neq_false hc
      refine awp_skip ?_
      refine seqQ_n ?_
      refine awp_seq ?_
      refine awp_seq ?_
      refine awp_draw (Hm := []) zKr zSplit ?_
      first | refine aany_take 0 rfl (.none rfl) zKr zKr zKr (AP.ar (ap_fieldAddr (off := 1) (sz := 3) (g := true) rfl rfl)) rfl rfl ?_ | refine aany_take 0 rfl (.none rfl) zKr zKr zKr (AP.ar (ap_fieldAddr_el (off := 1) (sz := 3) (g := true) rfl rfl zRc)) rfl rfl ?_
      first | refine aany_take 1 rfl (.none rfl) zKr zKr zKr (ar_load rfl zUpd rfl rfl zRc) rfl rfl ?_ | refine aany_take 1 rfl (.none rfl) zKr zKr zKr (AQ.ar (aq_load_el rfl rfl rfl rfl (fun _ h => h))) rfl rfl ?_
      refine aany_take 3 rfl (.none rfl) zKr zKr zKr (AP.ar (ap_move rfl)) rfl rfl ?_
      refine aany_take 4 rfl (.none rfl) zKr zKr zKr (AP.ar (ap_shl (p := 1) rfl rfl rfl (by omega) (by omega))) rfl rfl ?_
      refine aany_one 2 zKr rfl (.none rfl) ?_
      refine aops_call_v zRc (uses_con m.t) rfl rfl ?_
      refine aops_nil ?_
      refine aany_take 5 rfl (.none rfl) zKr zKr zKr (AP.ar (ap_cmp rfl rfl rfl)) rfl rfl ?_
      refine aany_nil zKr ?_
      all_goals (
        refine seqQ_n ?_
        refine awp_cond rfl (fun hc => ?_) (fun hc => ?_)
        · have hge := of_decide_eq_true hc
          refine awp_seq ?_
          refine awp_region ?_
          refine aops_p (ap_assign rfl) rfl rfl rfl ?_
          refine aops_nil ?_
          refine seqQ_n ?_
          refine awp_ret ?_
          refine seqQ_r ?_
          refine post_is (.tmp rfl .nil) .nil ?_
          unfold memV; rw [if_pos hdl, if_pos hv, if_pos (by omega)]; rfl
        · have hge := of_decide_eq_false hc
          refine awp_skip ?_
          refine seqQ_n ?_
          refine awp_seq ?_
          refine awp_region ?_
          refine aops_p (ap_assign rfl) rfl rfl rfl ?_
          refine aops_nil ?_
          refine seqQ_n ?_
          refine awp_ret ?_
          refine post_is (.tmp rfl .nil) .nil ?_
          unfold memV; rw [if_pos hdl, if_pos hv, if_neg (by omega)]; rfl
        )
theorem validC_con (c : List Mem) (hs : ∀ m ∈ c, sizeT m.t ≤ 1000000000) : Con none Try.prog 40 [cv c] [] (Is (.i (validC c)) []) := by
  have hcap : capB = 140737488355328 := rfl
  have hml : (c.map mv).length = c.length := by simp
  refine con_intro Try.func40 rfl Try.call40 rfl ?_
  refine awp_seq ?_
  refine awp_region ?_
  refine aops_box rfl zFlat rfl rfl (fun b1 => ?_)
  refine aops_p (ap_assign rfl) rfl rfl rfl ?_
  refine aops_nil ?_
  refine seqQ_n ?_
  refine awp_seq ?_
  refine awp_seq ?_
  refine awp_region ?_
  first | refine aops_p (ap_fieldAddr (off := 0) (sz := 1) (g := false) rfl rfl) rfl rfl rfl ?_ | refine aops_p (ap_fieldAddr_el (off := 0) (sz := 1) (g := false) rfl rfl zRc) rfl rfl rfl ?_
  first | refine aops_q (aq_load1 rfl zUpd List.not_mem_nil rfl zRc) rfl rfl rfl ?_ | refine aops_q (aq_load_el1 rfl rfl zScal (fun _ h => absurd h List.not_mem_nil)) rfl rfl rfl ?_ | refine aops_q (aq_load_el1' rfl rfl zScal (fun _ h => absurd h List.not_mem_nil)) rfl rfl rfl ?_ | refine aops_q (aq_load_own1 rfl zUpd List.not_mem_nil rfl zAss zScal) rfl rfl rfl ?_
  first | refine aops_len rfl rfl rfl rfl (fun _ => ?_) | refine aops_p (ap_len_arr rfl zUpd rfl) rfl rfl rfl ?_ | refine aops_p (ap_len_nil rfl rfl) rfl rfl rfl ?_
  refine aops_p (ap_cmp rfl rfl rfl) rfl rfl rfl ?_
  refine aops_nil ?_
  refine seqQ_n ?_
  refine awp_cond rfl (fun hc => ?_) (fun hc => ?_)
  · have hlen := of_decide_eq_true hc
    refine awp_seq ?_
    refine awp_region ?_
    refine aops_p (ap_assign rfl) rfl rfl rfl ?_
    refine aops_nil ?_
    refine seqQ_n ?_
    refine awp_ret ?_
    refine seqQ_r ?_
    refine post_is (.tmp rfl .nil) .nil ?_
    unfold validC; rw [if_pos (by omega)]; rfl
  · have hlen := of_decide_eq_false hc
    refine awp_skip ?_
    refine seqQ_n ?_
    refine awp_seq ?_
    refine awp_seq ?_
    refine awp_region ?_
    first | refine aops_p (ap_fieldAddr (off := 0) (sz := 1) (g := false) rfl rfl) rfl rfl rfl ?_ | refine aops_p (ap_fieldAddr_el (off := 0) (sz := 1) (g := false) rfl rfl zRc) rfl rfl rfl ?_
    first | refine aops_q (aq_load1 rfl zUpd List.not_mem_nil rfl zRc) rfl rfl rfl ?_ | refine aops_q (aq_load_el1 rfl rfl zScal (fun _ h => absurd h List.not_mem_nil)) rfl rfl rfl ?_ | refine aops_q (aq_load_el1' rfl rfl zScal (fun _ h => absurd h List.not_mem_nil)) rfl rfl rfl ?_ | refine aops_q (aq_load_own1 rfl zUpd List.not_mem_nil rfl zAss zScal) rfl rfl rfl ?_
    first | refine aops_len rfl rfl rfl rfl (fun _ => ?_) | refine aops_p (ap_len_arr rfl zUpd rfl) rfl rfl rfl ?_ | refine aops_p (ap_len_nil rfl rfl) rfl rfl rfl ?_
    refine aops_p (ap_move rfl) rfl rfl rfl ?_
    refine aops_nil ?_
    refine seqQ_n ?_
    refine awp_block ?_
    refine awp_loop1 [1, 11, 12] [.box b1 _ _] (fun (k : Nat) r => (13, .i (k : Int)) :: r) (fun (k : Nat) r => r) (fun (k : Nat) => k ≤ c.length ∧ memsV c.length (c.drop k) = memsV c.length c) (fun (k : Nat) => c.length - k) (0) zRc ⟨by omega, by simp⟩ (wk zSub (by repeat (first | exact .nil | refine .cons (by first | exact .here | exact .there .here | exact .there (.there .here) | exact .there (.there (.there .here)) | exact .there (.there (.there (.there .here)))) ?_))) ?_
    intro k ⟨hk, hI⟩
    refine awp_seq ?_
    refine awp_region ?_
    refine aops_p (ap_cmp rfl rfl rfl) rfl rfl rfl ?_
    refine aops_nil ?_
    refine seqQ_n ?_
    refine awp_seq ?_
    refine awp_cond rfl (fun hc => ?_) (fun hc => ?_)
    · have hlt := of_decide_eq_true hc
      obtain ⟨x, hx, hd⟩ := drop_cons (l := c) (k := k) (by omega)
      have hx' := getMap mv hx
      refine awp_skip ?_
      refine seqQ_n ?_
      refine awp_seq ?_
      refine awp_block ?_
      refine awp_seq ?_
      refine awp_region ?_
      first | refine aops_p (ap_index rfl rfl rfl rfl (by decide) rfl zAss) rfl rfl rfl ?_ | refine aops_p (ap_index rfl rfl rfl rfl (by decide) (by omega) zAss) rfl rfl rfl ?_ | refine aops_p (ap_index_own rfl rfl rfl rfl rfl (by first | omega | (simp only [List.length_map, List.length_set, avs_len]; omega))) rfl rfl rfl ?_
      first | refine aops_q (aq_load rfl zUpd List.not_mem_nil rfl rfl zRc) rfl rfl rfl ?_ | refine aops_q (aq_load_el rfl rfl rfl rfl (fun _ h => absurd h List.not_mem_nil)) rfl rfl rfl ?_
      refine aops_alloc rfl zRc rfl rfl (fun b4 => ?_)
      first | refine aops_store rfl rfl zFlat zUpd rfl zRc ?_ | refine aops_store_own1 rfl rfl zScal zUpd rfl (by simp only [List.length_set, List.length_map]; omega) ?_
      refine aops_nil ?_
      refine seqQ_n ?_
      refine awp_seq ?_
      refine awp_region ?_
      first | refine aops_q (aq_load rfl zUpd List.not_mem_nil rfl rfl zRc) rfl rfl rfl ?_ | refine aops_q (aq_load_el rfl rfl rfl rfl (fun _ h => absurd h List.not_mem_nil)) rfl rfl rfl ?_
      first | refine aops_p (ap_fieldAddr (off := 0) (sz := 1) (g := false) rfl rfl) rfl rfl rfl ?_ | refine aops_p (ap_fieldAddr_el (off := 0) (sz := 1) (g := false) rfl rfl zRc) rfl rfl rfl ?_
      first | refine aops_q (aq_load1 rfl zUpd List.not_mem_nil rfl zRc) rfl rfl rfl ?_ | refine aops_q (aq_load_el1 rfl rfl zScal (fun _ h => absurd h List.not_mem_nil)) rfl rfl rfl ?_ | refine aops_q (aq_load_el1' rfl rfl zScal (fun _ h => absurd h List.not_mem_nil)) rfl rfl rfl ?_ | refine aops_q (aq_load_own1 rfl zUpd List.not_mem_nil rfl zAss zScal) rfl rfl rfl ?_
      first | refine aops_len rfl rfl rfl rfl (fun _ => ?_) | refine aops_p (ap_len_arr rfl zUpd rfl) rfl rfl rfl ?_ | refine aops_p (ap_len_nil rfl rfl) rfl rfl rfl ?_
      (rw [hml]; refine aops_call_v zRc (member_con x (hs x (List.mem_of_getElem? hx)) c.length (by omega)) rfl rfl ?_)
      refine aops_p (ap_assign rfl) rfl rfl rfl ?_
      refine aops_nil ?_
      refine seqQ_n ?_
      refine awp_seq ?_
      refine awp_region ?_
      refine aops_p (ap_move rfl) rfl rfl rfl ?_
      refine aops_p (ap_cmp rfl rfl rfl) rfl rfl rfl ?_
      refine aops_nil ?_
      refine seqQ_n ?_
      refine awp_cond rfl (fun hc => ?_) (fun hc => ?_)
      · refine awp_seq ?_
        refine awp_region ?_
        refine aops_p (ap_move rfl) rfl rfl rfl ?_
        refine aops_p (ap_assign rfl) rfl rfl rfl ?_
        refine aops_nil ?_
        refine seqQ_n ?_
        refine awp_ret ?_
        refine blockQ_r ?_
        refine seqQ_r ?_
        refine seqQ_r ?_
        refine blockQ_r ?_
        refine seqQ_r ?_
        refine post_is (.tmp rfl .nil) .nil ?_
        rw [hd] at hI; simp only [memsV] at hI
        rw [if_neg (of_neq_true hc)] at hI
        unfold validC; rw [if_neg (by omega), ← hI]; rfl
      · refine awp_skip ?_
        refine blockQ_n ?_
        refine seqQ_n ?_
        refine awp_region ?_
        refine aops_p (ap_arith rfl rfl rfl (by omega)) rfl rfl rfl ?_
        refine aops_p (ap_move rfl) rfl rfl rfl ?_
        refine aops_nil ?_
        refine seqQ_n ?_
        rw [hd] at hI; simp only [memsV] at hI
        rw [if_pos (of_neq_false hc)] at hI
        refine ⟨k + 1, ⟨by omega, hI⟩, by omega, wk zSub (by repeat (first | exact .nil | refine .cons (by first | exact .here | exact .there .here | exact .there (.there .here) | exact .there (.there (.there .here)) | exact .there (.there (.there (.there .here)))) ?_))⟩
    · have hge := of_decide_eq_false hc
      rw [drop_nil (by omega)] at hI; simp only [memsV] at hI
      refine awp_exit ?_
      refine seqQ_x ?_
      refine seqQ_x ?_
      refine blockQ_x rfl ?_
      refine seqQ_n ?_
      refine awp_seq ?_
      refine awp_region ?_
      refine aops_p (ap_assign rfl) rfl rfl rfl ?_
      refine aops_nil ?_
      refine seqQ_n ?_
      refine awp_ret ?_
      refine post_is (.tmp rfl .nil) .nil ?_
      unfold validC; rw [if_neg (by omega), ← hI]; rfl
theorem v32 : validC (sameC 3 2) = 0 := same_valid (by omega) (by omega)
theorem a32 : aloneC (sameC 3 2) 0 = false := by kernel_rfl
theorem less_mk {s : Int} {t : Trust} {th th2 : Int} {q : List Int} {q2 : List Trust} (h1 : lessN s t.nodes t.th [] = (th, q)) (h2 : lessI s t.inner th [] = (th2, q2)) : less s t = .mk th2 q q2 := by unfold less; rw [h1, h2]
theorem delM_1 {s : Int} {k : Nat} {m : Mem} (h : has s k = true) : delM s k m = ⟨false, Trust.none⟩ := by unfold delM; rw [if_pos h]
theorem delM_2 {s : Int} {k : Nat} {m : Mem} (h : has s k = false) (hd : m.decl = true) : delM s k m = ⟨m.decl, delT s k m.t⟩ := by unfold delM; rw [if_neg (by rw [h]; decide), if_pos hd, hd]
theorem del_next {s : Int} {k : Nat} {x : Mem} {c l l' q : List Mem} (hd : l = x :: l') (hI : q ++ delGo s k l = delC c s) : (q ++ [delM s k x]) ++ delGo s (k + 1) l' = delC c s := by rw [← hI, hd]; simp [delGo]
/-- The thresholds are not negative, and no giants. -/
abbrev TB (k : Int) : Prop := 0 ≤ k ∧ k ≤ 1000000000000
inductive NN : Trust → Prop
  | mk {th : Int} {q : List Int} {i : List Trust} (h : TB th) (hi : ∀ y ∈ i, NN y) : NN (.mk th q i)
theorem NN.th {t : Trust} (h : NN t) : TB t.th := by cases h with | mk h hi => exact h
theorem NN.inner {t : Trust} (h : NN t) : ∀ y ∈ t.inner, NN y := by cases h with | mk h hi => exact hi
theorem lw_nn {k : Int} (h : TB k) : TB (lw k) ∧ max k 1 - 1 = lw k := by
  obtain ⟨h1, h2⟩ := h
  unfold lw TB
  split
  · omega
  · rw [wrap_id (by omega) (by omega)]; omega
theorem lessN_nn {s : Int} : ∀ (l : List Int) (th : Int) (q : List Int), TB th → TB (lessN s l th q).1
  | [], th, q, h => by simpa [lessN] using h
  | x :: l, th, q, h => by
    simp only [lessN]
    split
    · exact lessN_nn l _ _ (lw_nn h).1
    · exact lessN_nn l _ _ h
theorem lessI_nn {s : Int} : ∀ (l : List Trust) (th : Int) (q : List Trust), TB th → TB (lessI s l th q).1
  | [], th, q, h => by simpa [lessI] using h
  | x :: l, th, q, h => by
    rw [lessI_cons]
    split
    · exact lessI_nn l _ _ (lw_nn h).1
    · exact lessI_nn l _ _ h
theorem less_nn {s : Int} {t : Trust} (h : NN t) : TB (less s t).th :=
  lessI_nn t.inner _ [] (lessN_nn t.nodes t.th [] h.th)
theorem lowered_con (k : Int) (h : TB k) : Con none Try.prog 65 [.i k, .i 1] [] (Is (.i (lw k)) []) := by
  have hcap : capB = 140737488355328 := rfl
  have h2 := (lw_nn h).2
  obtain ⟨h0, h1⟩ := h
  refine con_intro Try.func65 rfl Try.call65 rfl ?_
  refine awp_seq ?_
  refine awp_region ?_
  refine aops_p (ap_assign rfl) rfl rfl rfl ?_
  refine aops_nil ?_
  refine seqQ_n ?_
  refine awp_seq ?_
  refine awp_region ?_
  refine aops_p (ap_move rfl) rfl rfl rfl ?_
  refine aops_p (ap_move rfl) rfl rfl rfl ?_
  refine aops_p (ap_max rfl rfl) rfl rfl rfl ?_
  refine aops_p (ap_move rfl) rfl rfl rfl ?_
  refine aops_p (ap_arith (m := lw k) rfl rfl (by simp only [addI, Option.some.injEq]; exact h2) (by omega)) rfl rfl rfl ?_
  refine aops_p (ap_assign rfl) rfl rfl rfl ?_
  refine aops_nil ?_
  refine seqQ_n ?_
  refine awp_ret ?_
  exact post_is (.tmp rfl .nil) (by repeat (first | exact .nil | refine .cons (by first | exact .here | exact .there .here | exact .there (.there .here) | exact .there (.there (.there .here)) | exact .there (.there (.there (.there .here)))) ?_)) rfl
theorem plevel_con (s : Int) : ∀ (t : Trust), sizeT t ≤ 200000 → NN t → Con none Try.prog 55 [av t, .i s] [] (Is (av (less s t)) []) := by
  have hcap : capB = 140737488355328 := rfl
  intro t
  induction t using Trust.ind with
  | _ t ih =>
    have hl1 : (t.nodes.map D.i).length = t.nodes.length := by simp
    have hl2 := avs_len t.inner
    intro hsz hnn
    have hs0 : sizeT t = t.nodes.length + t.inner.length + sizeL t.inner := rfl
    have hm0 : max t.th 0 = t.th := by have := hnn.th.1; omega
    refine con_intro Try.func55 rfl Try.call55 rfl ?_
    refine awp_seq ?_
    refine awp_region ?_
    refine aops_box rfl zFlat rfl rfl (fun b2 => ?_)
    refine aops_alloc rfl zRc rfl rfl (fun b4 => ?_)
    refine aops_nil ?_
    refine seqQ_n ?_
    refine awp_seq ?_
    refine awp_region ?_
    first | refine aops_p (ap_fieldAddr (off := 0) (sz := 1) (g := false) rfl rfl) rfl rfl rfl ?_ | refine aops_p (ap_fieldAddr_el (off := 0) (sz := 1) (g := false) rfl rfl zRc) rfl rfl rfl ?_
    first | refine aops_q (aq_load1 rfl zUpd List.not_mem_nil rfl zRc) rfl rfl rfl ?_ | refine aops_q (aq_load_el1 rfl rfl zScal (fun _ h => absurd h List.not_mem_nil)) rfl rfl rfl ?_ | refine aops_q (aq_load_el1' rfl rfl zScal (fun _ h => absurd h List.not_mem_nil)) rfl rfl rfl ?_ | refine aops_q (aq_load_own1 rfl zUpd List.not_mem_nil rfl zAss zScal) rfl rfl rfl ?_
    refine aops_p (ap_max rfl rfl) rfl rfl rfl ?_
    refine aops_p (ap_build zKr rfl zRc (by repeat (first | exact .nil | apply FillL.cons rfl zFlat rfl zRc))) rfl rfl rfl ?_
    refine aops_alloc rfl zRc rfl rfl (fun b5 => ?_)
    first | refine aops_store rfl rfl zFlat zUpd rfl zRc ?_ | refine aops_store_own1 rfl rfl zScal zUpd rfl (by simp only [List.length_set, List.length_map]; omega) ?_
    refine aops_nil ?_
    refine seqQ_n ?_
    refine awp_seq ?_
    refine awp_seq ?_
    rw [hm0]
    refine awp_region ?_
    first | refine aops_p (ap_fieldAddr (off := 1) (sz := 1) (g := false) rfl rfl) rfl rfl rfl ?_ | refine aops_p (ap_fieldAddr_el (off := 1) (sz := 1) (g := false) rfl rfl zRc) rfl rfl rfl ?_
    first | refine aops_q (aq_load1 rfl zUpd List.not_mem_nil rfl zRc) rfl rfl rfl ?_ | refine aops_q (aq_load_el1 rfl rfl zScal (fun _ h => absurd h List.not_mem_nil)) rfl rfl rfl ?_ | refine aops_q (aq_load_el1' rfl rfl zScal (fun _ h => absurd h List.not_mem_nil)) rfl rfl rfl ?_ | refine aops_q (aq_load_own1 rfl zUpd List.not_mem_nil rfl zAss zScal) rfl rfl rfl ?_
    first | refine aops_len rfl rfl rfl rfl (fun _ => ?_) | refine aops_p (ap_len_arr rfl zUpd rfl) rfl rfl rfl ?_ | refine aops_p (ap_len_nil rfl rfl) rfl rfl rfl ?_
    refine aops_p (ap_move rfl) rfl rfl rfl ?_
    refine aops_nil ?_
    refine seqQ_n ?_
    refine awp_block ?_
    refine awp_loop4 [1, 2, 4, 5, 15, 16] [.box b4 _ _, .box b2 _ _] (fun (k : Nat) (v : Value) (th : Int) (q : List Int) r => (17, .i (k : Int)) :: r) (fun (k : Nat) (v : Value) (th : Int) (q : List Int) r => .box b5 52 [.i th, .v v, .nil] :: .arr v 3 1 (q.map .i) :: r) (fun (k : Nat) (v : Value) (th : Int) (q : List Int) => k ≤ t.nodes.length ∧ q.length ≤ k ∧ TB th ∧ lessN s (t.nodes.drop k) th q = lessN s t.nodes t.th []) (fun (k : Nat) (v : Value) (th : Int) (q : List Int) => t.nodes.length - k) (0) (.slice none 0 0) (t.th) ([]) zRc ⟨by omega, by simp, hnn.th, by simp⟩ ((wk_own 3 1 rfl).trans (wk zSub (by repeat (first | exact .nil | refine .cons (by first | exact .here | exact .there .here | exact .there (.there .here) | exact .there (.there (.there .here)) | exact .there (.there (.there (.there .here)))) ?_)))) ?_
    intro k v th q ⟨hk, hql, hth, hI⟩
    have hml : (q.map D.i).length = q.length := by simp
    refine awp_seq ?_
    refine awp_region ?_
    refine aops_p (ap_cmp rfl rfl rfl) rfl rfl rfl ?_
    refine aops_nil ?_
    refine seqQ_n ?_
    refine awp_seq ?_
    refine awp_cond rfl (fun hc => ?_) (fun hc => ?_)
    · have hlt := of_decide_eq_true hc
      obtain ⟨x, hx, hd⟩ := drop_cons (l := t.nodes) (k := k) (by omega)
      have hx' := getMap D.i hx
      refine awp_skip ?_
      refine seqQ_n ?_
      refine awp_seq ?_
      refine awp_block ?_
      refine awp_seq ?_
      refine awp_region ?_
      first | refine aops_p (ap_index rfl rfl rfl rfl (by decide) rfl zAss) rfl rfl rfl ?_ | refine aops_p (ap_index rfl rfl rfl rfl (by decide) (by omega) zAss) rfl rfl rfl ?_ | refine aops_p (ap_index_own rfl rfl rfl rfl rfl (by first | omega | (simp only [List.length_map, List.length_set, avs_len]; omega))) rfl rfl rfl ?_
      first | refine aops_q (aq_load1 rfl zUpd List.not_mem_nil rfl zRc) rfl rfl rfl ?_ | refine aops_q (aq_load_el1 rfl rfl zScal (fun _ h => absurd h List.not_mem_nil)) rfl rfl rfl ?_ | refine aops_q (aq_load_el1' rfl rfl zScal (fun _ h => absurd h List.not_mem_nil)) rfl rfl rfl ?_ | refine aops_q (aq_load_own1 rfl zUpd List.not_mem_nil rfl zAss zScal) rfl rfl rfl ?_
      refine aops_p (ap_assign rfl) rfl rfl rfl ?_
      refine aops_nil ?_
      refine seqQ_n ?_
      refine awp_seq ?_
      refine awp_region ?_
      refine aops_p (ap_move rfl) rfl rfl rfl ?_
      refine aops_p (ap_move rfl) rfl rfl rfl ?_
      refine aops_call_b zRc (has_con s x) rfl rfl (fun c23 hc23 => ?_)
      refine aops_nil ?_
      refine seqQ_n ?_
      refine awp_cond rfl (fun hc => ?_) (fun hc => ?_)
      · refine awp_region ?_
        first | refine aops_p (ap_fieldAddr (off := 0) (sz := 1) (g := false) rfl rfl) rfl rfl rfl ?_ | refine aops_p (ap_fieldAddr_el (off := 0) (sz := 1) (g := false) rfl rfl zRc) rfl rfl rfl ?_
        first | refine aops_q (aq_load1 rfl zUpd List.not_mem_nil rfl zRc) rfl rfl rfl ?_ | refine aops_q (aq_load_el1 rfl rfl zScal (fun _ h => absurd h List.not_mem_nil)) rfl rfl rfl ?_ | refine aops_q (aq_load_el1' rfl rfl zScal (fun _ h => absurd h List.not_mem_nil)) rfl rfl rfl ?_ | refine aops_q (aq_load_own1 rfl zUpd List.not_mem_nil rfl zAss zScal) rfl rfl rfl ?_
        refine aops_call_v zRc (lowered_con _ (by assumption)) rfl rfl ?_
        first | refine aops_p (ap_fieldAddr (off := 0) (sz := 1) (g := false) rfl rfl) rfl rfl rfl ?_ | refine aops_p (ap_fieldAddr_el (off := 0) (sz := 1) (g := false) rfl rfl zRc) rfl rfl rfl ?_
        first | refine aops_store rfl rfl zFlat zUpd rfl zRc ?_ | refine aops_store_own1 rfl rfl zScal zUpd rfl (by simp only [List.length_set, List.length_map]; omega) ?_
        refine aops_nil ?_
        refine blockQ_n ?_
        refine seqQ_n ?_
        refine awp_region ?_
        refine aops_p (ap_arith rfl rfl rfl (by omega)) rfl rfl rfl ?_
        refine aops_p (ap_move rfl) rfl rfl rfl ?_
        refine aops_nil ?_
        refine seqQ_n ?_
        rw [hd] at hI; simp only [lessN] at hI
        first
        | (rw [if_pos (hc23.trans hc)] at hI; refine ⟨k + 1, v, lw th, q, ⟨by omega, by omega, (lw_nn hth).1, hI⟩, by omega, wk zSub (by repeat (first | exact .nil | refine .cons (by first | exact .here | exact .there .here | exact .there (.there .here) | exact .there (.there (.there .here)) | exact .there (.there (.there (.there .here)))) ?_))⟩)
        | (rw [if_neg (fun e => by rw [hc23.trans hc] at e; cases e)] at hI; rw [mapi_snoc]; refine ⟨k + 1, _, th, q ++ [x], ⟨by omega, by simp only [List.length_append, List.length_cons, List.length_nil]; omega, hth, hI⟩, by omega, wk zSub (by repeat (first | exact .nil | refine .cons (by first | exact .here | exact .there .here | exact .there (.there .here) | exact .there (.there (.there .here)) | exact .there (.there (.there (.there .here)))) ?_))⟩)
      · refine awp_region ?_
        first | refine aops_p (ap_fieldAddr (off := 1) (sz := 1) (g := false) rfl rfl) rfl rfl rfl ?_ | refine aops_p (ap_fieldAddr_el (off := 1) (sz := 1) (g := false) rfl rfl zRc) rfl rfl rfl ?_
        first | refine aops_q (aq_load1 rfl zUpd List.not_mem_nil rfl zRc) rfl rfl rfl ?_ | refine aops_q (aq_load_el1 rfl rfl zScal (fun _ h => absurd h List.not_mem_nil)) rfl rfl rfl ?_ | refine aops_q (aq_load_el1' rfl rfl zScal (fun _ h => absurd h List.not_mem_nil)) rfl rfl rfl ?_ | refine aops_q (aq_load_own1 rfl zUpd List.not_mem_nil rfl zAss zScal) rfl rfl rfl ?_
        refine aops_p (ap_move rfl) rfl rfl rfl ?_
        refine aops_lit (e := 3) (sz := 1) (by_ := 8) rfl rfl zRc rfl rfl rfl rfl ?_
        first | refine aops_append (e := 3) (sz := 1) (by_ := 8) rfl zUpd rfl rfl rfl rfl rfl (by simp only [List.length_cons, List.length_nil, List.length_append, List.length_map, avs_len]; omega) (fun v32 hv32 => ?_) | refine aops_append_nil (e := 3) (sz := 1) (by_ := 8) rfl rfl rfl rfl rfl rfl (by simp only [List.length_cons, List.length_nil, List.length_append, List.length_map, avs_len]; omega) (fun v32 hv32 => ?_)
        first | refine aops_p (ap_fieldAddr (off := 1) (sz := 1) (g := false) rfl rfl) rfl rfl rfl ?_ | refine aops_p (ap_fieldAddr_el (off := 1) (sz := 1) (g := false) rfl rfl zRc) rfl rfl rfl ?_
        first | refine aops_store rfl rfl zFlat zUpd rfl zRc ?_ | refine aops_store_own1 rfl rfl zScal zUpd rfl (by simp only [List.length_set, List.length_map]; omega) ?_
        refine aops_nil ?_
        refine blockQ_n ?_
        refine seqQ_n ?_
        refine awp_region ?_
        refine aops_p (ap_arith rfl rfl rfl (by omega)) rfl rfl rfl ?_
        refine aops_p (ap_move rfl) rfl rfl rfl ?_
        refine aops_nil ?_
        refine seqQ_n ?_
        rw [hd] at hI; simp only [lessN] at hI
        first
        | (rw [if_pos (hc23.trans hc)] at hI; refine ⟨k + 1, v, lw th, q, ⟨by omega, by omega, (lw_nn hth).1, hI⟩, by omega, wk zSub (by repeat (first | exact .nil | refine .cons (by first | exact .here | exact .there .here | exact .there (.there .here) | exact .there (.there (.there .here)) | exact .there (.there (.there (.there .here)))) ?_))⟩)
        | (rw [if_neg (fun e => by rw [hc23.trans hc] at e; cases e)] at hI; rw [mapi_snoc]; refine ⟨k + 1, _, th, q ++ [x], ⟨by omega, by simp only [List.length_append, List.length_cons, List.length_nil]; omega, hth, hI⟩, by omega, wk zSub (by repeat (first | exact .nil | refine .cons (by first | exact .here | exact .there .here | exact .there (.there .here) | exact .there (.there (.there .here)) | exact .there (.there (.there (.there .here)))) ?_))⟩)
    · have hge := of_decide_eq_false hc
      have hN : lessN s t.nodes t.th [] = (th, q) := by rw [drop_nil (by omega)] at hI; exact hI.symm
      refine awp_exit ?_
      refine seqQ_x ?_
      refine seqQ_x ?_
      refine blockQ_x rfl ?_
      refine seqQ_n ?_
      refine awp_seq ?_
      refine awp_seq ?_
      refine awp_region ?_
      first | refine aops_p (ap_fieldAddr (off := 2) (sz := 1) (g := false) rfl rfl) rfl rfl rfl ?_ | refine aops_p (ap_fieldAddr_el (off := 2) (sz := 1) (g := false) rfl rfl zRc) rfl rfl rfl ?_
      first | refine aops_q (aq_load1 rfl zUpd List.not_mem_nil rfl zRc) rfl rfl rfl ?_ | refine aops_q (aq_load_el1 rfl rfl zScal (fun _ h => absurd h List.not_mem_nil)) rfl rfl rfl ?_ | refine aops_q (aq_load_el1' rfl rfl zScal (fun _ h => absurd h List.not_mem_nil)) rfl rfl rfl ?_ | refine aops_q (aq_load_own1 rfl zUpd List.not_mem_nil rfl zAss zScal) rfl rfl rfl ?_
      first | refine aops_len rfl rfl rfl rfl (fun _ => ?_) | refine aops_p (ap_len_arr rfl zUpd rfl) rfl rfl rfl ?_ | refine aops_p (ap_len_nil rfl rfl) rfl rfl rfl ?_
      refine aops_p (ap_move rfl) rfl rfl rfl ?_
      refine aops_nil ?_
      refine seqQ_n ?_
      refine awp_block ?_
      refine awp_loop4 [1, 4, 5, 36, 37] [.box b4 _ _, .box b2 _ _, .arr v 3 1 (q.map .i)] (fun (k : Nat) (v2 : Value) (th2 : Int) (q2 : List Trust) r => (38, .i (k : Int)) :: r) (fun (k : Nat) (v2 : Value) (th2 : Int) (q2 : List Trust) r => .box b5 52 [.i th2, .v v, .v v2] :: .arr v2 52 3 (avs q2) :: r) (fun (k : Nat) (v2 : Value) (th2 : Int) (q2 : List Trust) => k ≤ t.inner.length ∧ q2.length ≤ k ∧ TB th2 ∧ lessI s (t.inner.drop k) th2 q2 = lessI s t.inner th []) (fun (k : Nat) (v2 : Value) (th2 : Int) (q2 : List Trust) => t.inner.length - k) (0) (.slice none 0 0) (th) ([]) zRc ⟨by omega, by simp, hth, by simp⟩ ((wk_own 52 3 rfl).trans (wk zSub (by repeat (first | exact .nil | refine .cons (by first | exact .here | exact .there .here | exact .there (.there .here) | exact .there (.there (.there .here)) | exact .there (.there (.there (.there .here)))) ?_)))) ?_
      intro k v2 th2 q2 ⟨hk, hql2, hth2, hI2⟩
      have hal : (avs q2).length = q2.length := avs_len _
      refine awp_seq ?_
      refine awp_region ?_
      refine aops_p (ap_cmp rfl rfl rfl) rfl rfl rfl ?_
      refine aops_nil ?_
      refine seqQ_n ?_
      refine awp_seq ?_
      refine awp_cond rfl (fun hc => ?_) (fun hc => ?_)
      · have hlt := of_decide_eq_true hc
        obtain ⟨y, hy, hd⟩ := drop_cons (l := t.inner) (k := k) (by omega)
        have hy' := avs_get hy
        have hym := List.mem_of_getElem? hy
        refine awp_skip ?_
        refine seqQ_n ?_
        refine awp_seq ?_
        refine awp_block ?_
        refine awp_seq ?_
        refine awp_region ?_
        first | refine aops_p (ap_index rfl rfl rfl rfl (by decide) rfl zAss) rfl rfl rfl ?_ | refine aops_p (ap_index rfl rfl rfl rfl (by decide) (by omega) zAss) rfl rfl rfl ?_ | refine aops_p (ap_index_own rfl rfl rfl rfl rfl (by first | omega | (simp only [List.length_map, List.length_set, avs_len]; omega))) rfl rfl rfl ?_
        first | refine aops_q (aq_load rfl zUpd List.not_mem_nil rfl rfl zRc) rfl rfl rfl ?_ | refine aops_q (aq_load_el rfl rfl rfl rfl (fun _ h => absurd h List.not_mem_nil)) rfl rfl rfl ?_
        refine aops_alloc rfl zRc rfl rfl (fun b9 => ?_)
        first | refine aops_store rfl rfl zFlat zUpd rfl zRc ?_ | refine aops_store_own1 rfl rfl zScal zUpd rfl (by simp only [List.length_set, List.length_map]; omega) ?_
        refine aops_nil ?_
        refine seqQ_n ?_
        refine awp_seq ?_
        refine awp_region ?_
        first | refine aops_q (aq_load rfl zUpd List.not_mem_nil rfl rfl zRc) rfl rfl rfl ?_ | refine aops_q (aq_load_el rfl rfl rfl rfl (fun _ h => absurd h List.not_mem_nil)) rfl rfl rfl ?_
        refine aops_p (ap_move rfl) rfl rfl rfl ?_
        refine aops_call_v zRc (ih y hym (by have := sizeL_mem hym; omega) (hnn.inner y hym)) rfl rfl ?_
        first | refine aops_store rfl rfl zFlat zUpd rfl zRc ?_ | refine aops_store_own1 rfl rfl zScal zUpd rfl (by simp only [List.length_set, List.length_map]; omega) ?_
        refine aops_nil ?_
        refine seqQ_n ?_
        refine awp_seq ?_
        refine awp_region ?_
        first | refine aops_p (ap_fieldAddr (off := 0) (sz := 1) (g := false) rfl rfl) rfl rfl rfl ?_ | refine aops_p (ap_fieldAddr_el (off := 0) (sz := 1) (g := false) rfl rfl zRc) rfl rfl rfl ?_
        first | refine aops_q (aq_load1 rfl zUpd List.not_mem_nil rfl zRc) rfl rfl rfl ?_ | refine aops_q (aq_load_el1 rfl rfl zScal (fun _ h => absurd h List.not_mem_nil)) rfl rfl rfl ?_ | refine aops_q (aq_load_el1' rfl rfl zScal (fun _ h => absurd h List.not_mem_nil)) rfl rfl rfl ?_ | refine aops_q (aq_load_own1 rfl zUpd List.not_mem_nil rfl zAss zScal) rfl rfl rfl ?_
        refine aops_p (ap_cmp rfl rfl rfl) rfl rfl rfl ?_
        refine aops_nil ?_
        refine seqQ_n ?_
        refine awp_cond rfl (fun hc => ?_) (fun hc => ?_)
        · refine awp_region ?_
          first | refine aops_p (ap_fieldAddr (off := 0) (sz := 1) (g := false) rfl rfl) rfl rfl rfl ?_ | refine aops_p (ap_fieldAddr_el (off := 0) (sz := 1) (g := false) rfl rfl zRc) rfl rfl rfl ?_
          first | refine aops_q (aq_load1 rfl zUpd List.not_mem_nil rfl zRc) rfl rfl rfl ?_ | refine aops_q (aq_load_el1 rfl rfl zScal (fun _ h => absurd h List.not_mem_nil)) rfl rfl rfl ?_ | refine aops_q (aq_load_el1' rfl rfl zScal (fun _ h => absurd h List.not_mem_nil)) rfl rfl rfl ?_ | refine aops_q (aq_load_own1 rfl zUpd List.not_mem_nil rfl zAss zScal) rfl rfl rfl ?_
          refine aops_call_v zRc (lowered_con _ (by assumption)) rfl rfl ?_
          first | refine aops_p (ap_fieldAddr (off := 0) (sz := 1) (g := false) rfl rfl) rfl rfl rfl ?_ | refine aops_p (ap_fieldAddr_el (off := 0) (sz := 1) (g := false) rfl rfl zRc) rfl rfl rfl ?_
          first | refine aops_store rfl rfl zFlat zUpd rfl zRc ?_ | refine aops_store_own1 rfl rfl zScal zUpd rfl (by simp only [List.length_set, List.length_map]; omega) ?_
          refine aops_nil ?_
          refine blockQ_n ?_
          refine seqQ_n ?_
          refine awp_region ?_
          refine aops_p (ap_arith rfl rfl rfl (by omega)) rfl rfl rfl ?_
          refine aops_p (ap_move rfl) rfl rfl rfl ?_
          refine aops_nil ?_
          refine seqQ_n ?_
          rw [hd, lessI_cons] at hI2
          first
          | (rw [if_pos (by have := of_decide_eq_true hc; omega)] at hI2; refine ⟨k + 1, v2, lw th2, q2, ⟨by omega, by omega, (lw_nn hth2).1, hI2⟩, by omega, wk zSub (by repeat (first | exact .nil | refine .cons (by first | exact .here | exact .there .here | exact .there (.there .here) | exact .there (.there (.there .here)) | exact .there (.there (.there (.there .here)))) ?_))⟩)
          | (rw [if_neg (by have := of_decide_eq_false hc; have := (less_nn (s := s) (hnn.inner y hym)).1; omega)] at hI2; rw [show D.agg [.i (less s y).th, .sl 1 ((less s y).nodes.map .i), .sl 3 (avs (less s y).inner)] = av (less s y) from rfl, avs_snoc]; refine ⟨k + 1, _, th2, q2 ++ [less s y], ⟨by omega, by simp only [List.length_append, List.length_cons, List.length_nil]; omega, hth2, hI2⟩, by omega, wk zSub (by repeat (first | exact .nil | refine .cons (by first | exact .here | exact .there .here | exact .there (.there .here) | exact .there (.there (.there .here)) | exact .there (.there (.there (.there .here)))) ?_))⟩)
        · refine awp_region ?_
          first | refine aops_p (ap_fieldAddr (off := 2) (sz := 1) (g := false) rfl rfl) rfl rfl rfl ?_ | refine aops_p (ap_fieldAddr_el (off := 2) (sz := 1) (g := false) rfl rfl zRc) rfl rfl rfl ?_
          first | refine aops_q (aq_load1 rfl zUpd List.not_mem_nil rfl zRc) rfl rfl rfl ?_ | refine aops_q (aq_load_el1 rfl rfl zScal (fun _ h => absurd h List.not_mem_nil)) rfl rfl rfl ?_ | refine aops_q (aq_load_el1' rfl rfl zScal (fun _ h => absurd h List.not_mem_nil)) rfl rfl rfl ?_ | refine aops_q (aq_load_own1 rfl zUpd List.not_mem_nil rfl zAss zScal) rfl rfl rfl ?_
          first | refine aops_q (aq_load rfl zUpd List.not_mem_nil rfl rfl zRc) rfl rfl rfl ?_ | refine aops_q (aq_load_el rfl rfl rfl rfl (fun _ h => absurd h List.not_mem_nil)) rfl rfl rfl ?_
          refine aops_lit (e := 52) (sz := 3) (by_ := 56) rfl rfl zRc rfl rfl rfl rfl ?_
          first | refine aops_append (e := 52) (sz := 3) (by_ := 56) rfl zUpd rfl rfl rfl rfl rfl (by simp only [List.length_cons, List.length_nil, List.length_append, List.length_map, avs_len]; omega) (fun v56 hv56 => ?_) | refine aops_append_nil (e := 52) (sz := 3) (by_ := 56) rfl rfl rfl rfl rfl rfl (by simp only [List.length_cons, List.length_nil, List.length_append, List.length_map, avs_len]; omega) (fun v56 hv56 => ?_)
          first | refine aops_p (ap_fieldAddr (off := 2) (sz := 1) (g := false) rfl rfl) rfl rfl rfl ?_ | refine aops_p (ap_fieldAddr_el (off := 2) (sz := 1) (g := false) rfl rfl zRc) rfl rfl rfl ?_
          first | refine aops_store rfl rfl zFlat zUpd rfl zRc ?_ | refine aops_store_own1 rfl rfl zScal zUpd rfl (by simp only [List.length_set, List.length_map]; omega) ?_
          refine aops_nil ?_
          refine blockQ_n ?_
          refine seqQ_n ?_
          refine awp_region ?_
          refine aops_p (ap_arith rfl rfl rfl (by omega)) rfl rfl rfl ?_
          refine aops_p (ap_move rfl) rfl rfl rfl ?_
          refine aops_nil ?_
          refine seqQ_n ?_
          rw [hd, lessI_cons] at hI2
          first
          | (rw [if_pos (by have := of_decide_eq_true hc; omega)] at hI2; refine ⟨k + 1, v2, lw th2, q2, ⟨by omega, by omega, (lw_nn hth2).1, hI2⟩, by omega, wk zSub (by repeat (first | exact .nil | refine .cons (by first | exact .here | exact .there .here | exact .there (.there .here) | exact .there (.there (.there .here)) | exact .there (.there (.there (.there .here)))) ?_))⟩)
          | (rw [if_neg (by have := of_decide_eq_false hc; have := (less_nn (s := s) (hnn.inner y hym)).1; omega)] at hI2; rw [show D.agg [.i (less s y).th, .sl 1 ((less s y).nodes.map .i), .sl 3 (avs (less s y).inner)] = av (less s y) from rfl, avs_snoc]; refine ⟨k + 1, _, th2, q2 ++ [less s y], ⟨by omega, by simp only [List.length_append, List.length_cons, List.length_nil]; omega, hth2, hI2⟩, by omega, wk zSub (by repeat (first | exact .nil | refine .cons (by first | exact .here | exact .there .here | exact .there (.there .here) | exact .there (.there (.there .here)) | exact .there (.there (.there (.there .here)))) ?_))⟩)
      · have hge := of_decide_eq_false hc
        have hL : lessI s t.inner th [] = (th2, q2) := by rw [drop_nil (by omega)] at hI2; exact hI2.symm
        refine awp_exit ?_
        refine seqQ_x ?_
        refine seqQ_x ?_
        refine blockQ_x rfl ?_
        refine seqQ_n ?_
        refine awp_seq ?_
        refine awp_region ?_
        first | refine aops_q (aq_load rfl zUpd List.not_mem_nil rfl rfl zRc) rfl rfl rfl ?_ | refine aops_q (aq_load_el rfl rfl rfl rfl (fun _ h => absurd h List.not_mem_nil)) rfl rfl rfl ?_
        first | refine aops_store rfl rfl zFlat zUpd rfl zRc ?_ | refine aops_store_own1 rfl rfl zScal zUpd rfl (by simp only [List.length_set, List.length_map]; omega) ?_
        refine aops_nil ?_
        refine seqQ_n ?_
        refine awp_freeze v [4] (by repeat (first | exact .here | apply Rem.there)) (by repeat (first | exact .nil | apply SelC.cons rfl (by first | exact Cv.fz | (apply Cv.agg; repeat (first | exact CvL.nil | apply CvL.cons (by first | exact Cv.fz | exact Cv.same))) | exact Cv.same))) (by repeat (first | exact .nil | apply HeapA.box (by repeat (first | exact CvL.nil | apply CvL.cons (by first | exact Cv.fz | exact Cv.same))) | apply HeapA.arr)) ?_; refine awp_freeze v2 [4] (by repeat (first | exact .here | apply Rem.there)) (by repeat (first | exact .nil | apply SelC.cons rfl (by first | exact Cv.fz | (apply Cv.agg; repeat (first | exact CvL.nil | apply CvL.cons (by first | exact Cv.fz | exact Cv.same))) | exact Cv.same))) (by repeat (first | exact .nil | apply HeapA.box (by repeat (first | exact CvL.nil | apply CvL.cons (by first | exact Cv.fz | exact Cv.same))) | apply HeapA.arr)) ?_
        refine awp_ret ?_
        refine post_is (.cell rfl zUpd rfl rfl .nil) (by repeat (first | exact .nil | refine .cons (by first | exact .here | exact .there .here | exact .there (.there .here) | exact .there (.there (.there .here)) | exact .there (.there (.there (.there .here)))) ?_)) ?_
        rw [less_mk hN hL]; rfl
theorem pdelT_con (t : Trust) (k : Int) (s : Nat) (hs : s < 1024) (hsz : sizeT t ≤ 200000) (hnn : NN t) : Con none Try.prog 45 [av t, .i k, .i s] [] (Is (av (delT s k t)) []) := by
  have hcap : capB = 140737488355328 := rfl
  have hb := (less_nn (s := (s : Int)) hnn).1
  refine con_intro Try.func45 rfl Try.call45 rfl ?_
  refine awp_seq ?_
  refine awp_region ?_
  refine aops_box rfl zFlat rfl rfl (fun b3 => ?_)
  refine aops_alloc rfl zRc rfl rfl (fun b6 => ?_)
  refine aops_nil ?_
  refine seqQ_n ?_
  refine awp_seq ?_
  refine awp_seq ?_
  refine awp_region ?_
  refine aops_p (ap_move rfl) rfl rfl rfl ?_
  refine aops_call_v zRc (validn hs) rfl rfl ?_
  refine aops_p (ap_not rfl) rfl rfl rfl ?_
  refine aops_nil ?_
  refine seqQ_n ?_
  refine awp_cond_f rfl zDec ?_
  refine awp_skip ?_
  refine seqQ_n ?_
  refine awp_seq ?_
  refine awp_region ?_
  first | refine aops_q (aq_load rfl zUpd List.not_mem_nil rfl rfl zRc) rfl rfl rfl ?_ | refine aops_q (aq_load_el rfl rfl rfl rfl (fun _ h => absurd h List.not_mem_nil)) rfl rfl rfl ?_
  refine aops_p (ap_move rfl) rfl rfl rfl ?_
  refine aops_call_v zRc (plevel_con s t hsz hnn) rfl rfl ?_
  refine aops_alloc rfl zRc rfl rfl (fun b7 => ?_)
  first | refine aops_store rfl rfl zFlat zUpd rfl zRc ?_ | refine aops_store_own1 rfl rfl zScal zUpd rfl (by simp only [List.length_set, List.length_map]; omega) ?_
  refine aops_nil ?_
  refine seqQ_n ?_
  refine awp_seq ?_
  refine awp_seq ?_
  refine awp_region ?_
  first | refine aops_p (ap_fieldAddr (off := 0) (sz := 1) (g := false) rfl rfl) rfl rfl rfl ?_ | refine aops_p (ap_fieldAddr_el (off := 0) (sz := 1) (g := false) rfl rfl zRc) rfl rfl rfl ?_
  first | refine aops_q (aq_load1 rfl zUpd List.not_mem_nil rfl zRc) rfl rfl rfl ?_ | refine aops_q (aq_load_el1 rfl rfl zScal (fun _ h => absurd h List.not_mem_nil)) rfl rfl rfl ?_ | refine aops_q (aq_load_el1' rfl rfl zScal (fun _ h => absurd h List.not_mem_nil)) rfl rfl rfl ?_ | refine aops_q (aq_load_own1 rfl zUpd List.not_mem_nil rfl zAss zScal) rfl rfl rfl ?_
  refine aops_p (ap_cmp rfl rfl rfl) rfl rfl rfl ?_
  refine aops_nil ?_
  refine seqQ_n ?_
  refine awp_cond rfl (fun hc => ?_) (fun hc => ?_)
  · have hle := of_decide_eq_true hc
    refine awp_seq ?_
    refine awp_region ?_
    refine aops_p (ap_move rfl) rfl rfl rfl ?_
    refine aops_lit (e := 3) (sz := 1) (by_ := 8) rfl rfl zRc rfl rfl rfl rfl ?_
    refine aops_p (ap_build zKr rfl zRc (by repeat (first | exact .nil | apply FillL.cons rfl zFlat rfl zRc))) rfl rfl rfl ?_
    first | refine aops_store rfl rfl zFlat zUpd rfl zRc ?_ | refine aops_store_own1 rfl rfl zScal zUpd rfl (by simp only [List.length_set, List.length_map]; omega) ?_
    refine aops_nil ?_
    refine seqQ_n ?_
    refine awp_unnil [6] 3 rfl (by repeat (first | exact .nil | apply SelC.cons rfl (by first | exact Cv.fz | (apply Cv.agg; repeat (first | exact CvL.nil | apply CvL.cons (by first | exact Cv.fz | exact Cv.same))) | exact Cv.same))) (by repeat (first | exact .nil | apply HeapA.box (by repeat (first | exact CvL.nil | apply CvL.cons (by first | exact Cv.fz | exact Cv.same))) | apply HeapA.arr)) ?_
    refine awp_ret ?_
    refine seqQ_r ?_
    refine post_is (.cell rfl zUpd rfl rfl .nil) (by repeat (first | exact .nil | refine .cons (by first | exact .here | exact .there .here | exact .there (.there .here) | exact .there (.there (.there .here)) | exact .there (.there (.there (.there .here)))) ?_)) ?_
    unfold delT; rw [if_pos (by omega)]; rfl
  · have hle := of_decide_eq_false hc
    refine awp_skip ?_
    refine seqQ_n ?_
    refine awp_seq ?_
    refine awp_region ?_
    first | refine aops_q (aq_load rfl zUpd List.not_mem_nil rfl rfl zRc) rfl rfl rfl ?_ | refine aops_q (aq_load_el rfl rfl rfl rfl (fun _ h => absurd h List.not_mem_nil)) rfl rfl rfl ?_
    first | refine aops_store rfl rfl zFlat zUpd rfl zRc ?_ | refine aops_store_own1 rfl rfl zScal zUpd rfl (by simp only [List.length_set, List.length_map]; omega) ?_
    refine aops_nil ?_
    refine seqQ_n ?_
    refine awp_ret ?_
    refine post_is (.cell rfl zUpd rfl rfl .nil) (by repeat (first | exact .nil | refine .cons (by first | exact .here | exact .there .here | exact .there (.there .here) | exact .there (.there (.there .here)) | exact .there (.there (.there (.there .here)))) ?_)) ?_
    unfold delT; rw [if_neg (by omega)]; rfl
theorem pdel_con (c : List Mem) (hcl : c.length ≤ 10) (s : Nat) (hs : s < 1024) (hsz : ∀ m ∈ c, sizeT m.t ≤ 200000) (hdc : ∀ m ∈ c, m.decl = true) (hnn : ∀ m ∈ c, NN m.t) : Con none Try.prog 29 [cv c, .i s] [] (Is (cv (delC c s)) []) := by
  have hcap : capB = 140737488355328 := rfl
  have hml : (c.map mv).length = c.length := by simp
  refine con_intro Try.func29 rfl Try.call29 rfl ?_
  refine awp_seq ?_
  refine awp_region ?_
  refine aops_box rfl zFlat rfl rfl (fun b2 => ?_)
  refine aops_alloc rfl zRc rfl rfl (fun b4 => ?_)
  refine aops_nil ?_
  refine seqQ_n ?_
  refine awp_seq ?_
  refine awp_region ?_
  refine aops_alloc rfl zRc rfl rfl (fun b5 => ?_)
  refine aops_nil ?_
  refine seqQ_n ?_
  refine awp_seq ?_
  refine awp_seq ?_
  refine awp_region ?_
  first | refine aops_p (ap_fieldAddr (off := 0) (sz := 1) (g := false) rfl rfl) rfl rfl rfl ?_ | refine aops_p (ap_fieldAddr_el (off := 0) (sz := 1) (g := false) rfl rfl zRc) rfl rfl rfl ?_
  first | refine aops_q (aq_load1 rfl zUpd List.not_mem_nil rfl zRc) rfl rfl rfl ?_ | refine aops_q (aq_load_el1 rfl rfl zScal (fun _ h => absurd h List.not_mem_nil)) rfl rfl rfl ?_ | refine aops_q (aq_load_el1' rfl rfl zScal (fun _ h => absurd h List.not_mem_nil)) rfl rfl rfl ?_ | refine aops_q (aq_load_own1 rfl zUpd List.not_mem_nil rfl zAss zScal) rfl rfl rfl ?_
  first | refine aops_len rfl rfl rfl rfl (fun _ => ?_) | refine aops_p (ap_len_arr rfl zUpd rfl) rfl rfl rfl ?_ | refine aops_p (ap_len_nil rfl rfl) rfl rfl rfl ?_
  refine aops_p (ap_move rfl) rfl rfl rfl ?_
  refine aops_nil ?_
  refine seqQ_n ?_
  refine awp_block ?_
  refine awp_loop3 [1, 4, 5, 9, 10] [.box b4 _ _, .box b2 _ _] (fun (k : Nat) (v : Value) (q : List Mem) r => (11, .i (k : Int)) :: r) (fun (k : Nat) (v : Value) (q : List Mem) r => .box b5 28 [.v v] :: .arr v 56 4 (q.map mv) :: r) (fun (k : Nat) (v : Value) (q : List Mem) => k ≤ c.length ∧ q.length = k ∧ q ++ delGo s k (c.drop k) = delC c s) (fun (k : Nat) (v : Value) (q : List Mem) => c.length - k) (0) (.slice none 0 0) ([]) zRc ⟨by omega, rfl, by simp [delC]⟩ ((wk_own 56 4 rfl).trans (wk zSub (by repeat (first | exact .nil | refine .cons (by first | exact .here | exact .there .here | exact .there (.there .here) | exact .there (.there (.there .here)) | exact .there (.there (.there (.there .here)))) ?_)))) ?_
  intro k v q ⟨hk, hql, hI⟩
  have hqm : (q.map mv).length = q.length := by simp
  refine awp_seq ?_
  refine awp_region ?_
  refine aops_p (ap_cmp rfl rfl rfl) rfl rfl rfl ?_
  refine aops_nil ?_
  refine seqQ_n ?_
  refine awp_seq ?_
  refine awp_cond rfl (fun hc => ?_) (fun hc => ?_)
  · have hlt := of_decide_eq_true hc
    obtain ⟨x, hx, hd⟩ := drop_cons (l := c) (k := k) (by omega)
    have hx' := getMap mv hx
    have hxd := hdc x (List.mem_of_getElem? hx)
    refine awp_skip ?_
    refine seqQ_n ?_
    refine awp_seq ?_
    refine awp_block ?_
    refine awp_seq ?_
    refine awp_region ?_
    refine aops_p (ap_move rfl) rfl rfl rfl ?_
    first | refine aops_p (ap_index rfl rfl rfl rfl (by decide) rfl zAss) rfl rfl rfl ?_ | refine aops_p (ap_index rfl rfl rfl rfl (by decide) (by omega) zAss) rfl rfl rfl ?_ | refine aops_p (ap_index_own rfl rfl rfl rfl rfl (by first | omega | (simp only [List.length_map, List.length_set, avs_len]; omega))) rfl rfl rfl ?_
    first | refine aops_q (aq_load rfl zUpd List.not_mem_nil rfl rfl zRc) rfl rfl rfl ?_ | refine aops_q (aq_load_el rfl rfl rfl rfl (fun _ h => absurd h List.not_mem_nil)) rfl rfl rfl ?_
    refine aops_alloc rfl zRc rfl rfl (fun b7 => ?_)
    refine aops_p (ap_assign rfl) rfl rfl rfl ?_
    first | refine aops_store rfl rfl zFlat zUpd rfl zRc ?_ | refine aops_store_own1 rfl rfl zScal zUpd rfl (by simp only [List.length_set, List.length_map]; omega) ?_
    refine aops_nil ?_
    refine seqQ_n ?_
    refine awp_seq ?_
    refine awp_block ?_
    refine awp_seq ?_
    refine awp_region ?_
    refine aops_p (ap_move rfl) rfl rfl rfl ?_
    refine aops_p (ap_move rfl) rfl rfl rfl ?_
    refine aops_call_b zRc (has_con s k) rfl rfl (fun c23 hc23 => ?_)
    refine aops_p (ap_assign rfl) rfl rfl rfl ?_
    refine aops_nil ?_
    refine seqQ_n ?_
    refine awp_cond rfl (fun hc => ?_) (fun hc => ?_)
    · refine awp_region ?_
      refine aops_p (ap_build zKr rfl zRc (by repeat (first | exact .nil | apply FillL.cons rfl zFlat rfl zRc))) rfl rfl rfl ?_
      first | refine aops_store rfl rfl zFlat zUpd rfl zRc ?_ | refine aops_store_own1 rfl rfl zScal zUpd rfl (by simp only [List.length_set, List.length_map]; omega) ?_
      refine aops_nil ?_
      refine blockQ_n ?_
      refine seqQ_n ?_
      refine awp_region ?_
      first | refine aops_p (ap_fieldAddr (off := 0) (sz := 1) (g := false) rfl rfl) rfl rfl rfl ?_ | refine aops_p (ap_fieldAddr_el (off := 0) (sz := 1) (g := false) rfl rfl zRc) rfl rfl rfl ?_
      first | refine aops_q (aq_load1 rfl zUpd List.not_mem_nil rfl zRc) rfl rfl rfl ?_ | refine aops_q (aq_load_el1 rfl rfl zScal (fun _ h => absurd h List.not_mem_nil)) rfl rfl rfl ?_ | refine aops_q (aq_load_el1' rfl rfl zScal (fun _ h => absurd h List.not_mem_nil)) rfl rfl rfl ?_ | refine aops_q (aq_load_own1 rfl zUpd List.not_mem_nil rfl zAss zScal) rfl rfl rfl ?_
      first | refine aops_q (aq_load rfl zUpd List.not_mem_nil rfl rfl zRc) rfl rfl rfl ?_ | refine aops_q (aq_load_el rfl rfl rfl rfl (fun _ h => absurd h List.not_mem_nil)) rfl rfl rfl ?_
      refine aops_unnil [1,4,5,9,10,11,35,36] 1 rfl rfl (by repeat (first | exact SelC.nil | apply SelC.cons rfl (Cv.agg (CvL.cons Cv.same (CvL.cons Cv.same (CvL.cons Cv.fz (CvL.cons Cv.same CvL.nil))))) | apply SelC.cons rfl Cv.same)) (by repeat (first | exact .nil | apply HeapA.box (by repeat (first | exact CvL.nil | apply CvL.cons Cv.same)) | apply HeapA.arr)) ?_; refine aops_unnil [1,4,5,9,10,11,35,36] 3 rfl rfl (by repeat (first | exact .nil | apply SelC.cons rfl (by first | exact Cv.fz | (apply Cv.agg; repeat (first | exact CvL.nil | apply CvL.cons (by first | exact Cv.fz | exact Cv.same))) | exact Cv.same))) (by repeat (first | exact .nil | apply HeapA.box (by repeat (first | exact CvL.nil | apply CvL.cons Cv.same)) | apply HeapA.arr)) ?_; refine aops_lit (e := 56) (sz := 4) (by_ := 64) rfl rfl zRc rfl rfl rfl rfl ?_
      first | refine aops_append (e := 56) (sz := 4) (by_ := 64) rfl zUpd rfl rfl rfl rfl rfl (by simp only [List.length_cons, List.length_nil, List.length_append, List.length_map]; omega) (fun v38 hv38 => ?_) | refine aops_append_nil (e := 56) (sz := 4) (by_ := 64) rfl rfl rfl rfl rfl rfl (by simp only [List.length_cons, List.length_nil, List.length_append, List.length_map]; omega) (fun v38 hv38 => ?_)
      first | refine aops_p (ap_fieldAddr (off := 0) (sz := 1) (g := false) rfl rfl) rfl rfl rfl ?_ | refine aops_p (ap_fieldAddr_el (off := 0) (sz := 1) (g := false) rfl rfl zRc) rfl rfl rfl ?_
      first | refine aops_store rfl rfl zFlat zUpd rfl zRc ?_ | refine aops_store_own1 rfl rfl zScal zUpd rfl (by simp only [List.length_set, List.length_map]; omega) ?_
      refine aops_nil ?_
      refine blockQ_n ?_
      refine seqQ_n ?_
      refine awp_region ?_
      refine aops_p (ap_arith rfl rfl rfl (by omega)) rfl rfl rfl ?_
      refine aops_p (ap_move rfl) rfl rfl rfl ?_
      refine aops_nil ?_
      refine seqQ_n ?_
      first
      | (refine ⟨k + 1, v38, q ++ [delM s k x], ⟨by omega, by simp only [List.length_append, List.length_cons, List.length_nil]; omega, del_next hd hI⟩, by omega, ?_⟩; rw [← mv_snoc, delM_1 (hc23.trans (by with_reducible assumption))]; exact (wk zSub (by repeat (first | exact .nil | refine .cons (by first | exact .here | exact .there .here | exact .there (.there .here) | exact .there (.there (.there .here)) | exact .there (.there (.there (.there .here)))) ?_))))
      | (refine ⟨k + 1, v38, q ++ [delM s k x], ⟨by omega, by simp only [List.length_append, List.length_cons, List.length_nil]; omega, del_next hd hI⟩, by omega, ?_⟩; rw [← mv_snoc, delM_2 (hc23.trans (by with_reducible assumption)) (by with_reducible assumption)]; exact (wk zSub (by repeat (first | exact .nil | refine .cons (by first | exact .here | exact .there .here | exact .there (.there .here) | exact .there (.there (.there .here)) | exact .there (.there (.there (.there .here)))) ?_))))
    · refine awp_seq ?_
      refine awp_region ?_
      first | refine aops_p (ap_fieldAddr (off := 0) (sz := 1) (g := false) rfl rfl) rfl rfl rfl ?_ | refine aops_p (ap_fieldAddr_el (off := 0) (sz := 1) (g := false) rfl rfl zRc) rfl rfl rfl ?_
      first | refine aops_q (aq_load1 rfl zUpd List.not_mem_nil rfl zRc) rfl rfl rfl ?_ | refine aops_q (aq_load_el1 rfl rfl zScal (fun _ h => absurd h List.not_mem_nil)) rfl rfl rfl ?_ | refine aops_q (aq_load_el1' rfl rfl zScal (fun _ h => absurd h List.not_mem_nil)) rfl rfl rfl ?_ | refine aops_q (aq_load_own1 rfl zUpd List.not_mem_nil rfl zAss zScal) rfl rfl rfl ?_
      refine aops_p (ap_assign rfl) rfl rfl rfl ?_
      refine aops_nil ?_
      refine seqQ_n ?_
      refine awp_cond_t rfl zDec ?_
      refine awp_region ?_
      first | refine aops_p (ap_fieldAddr (off := 1) (sz := 3) (g := true) rfl rfl) rfl rfl rfl ?_ | refine aops_p (ap_fieldAddr_el (off := 1) (sz := 3) (g := true) rfl rfl zRc) rfl rfl rfl ?_
      first | refine aops_q (aq_load rfl zUpd List.not_mem_nil rfl rfl zRc) rfl rfl rfl ?_ | refine aops_q (aq_load_el rfl rfl rfl rfl (fun _ h => absurd h List.not_mem_nil)) rfl rfl rfl ?_
      refine aops_p (ap_move rfl) rfl rfl rfl ?_
      refine aops_p (ap_move rfl) rfl rfl rfl ?_
      refine aops_call_v zRc (pdelT_con x.t k s hs (hsz x (List.mem_of_getElem? hx)) (hnn x (List.mem_of_getElem? hx))) rfl rfl ?_
      first | refine aops_p (ap_fieldAddr (off := 1) (sz := 3) (g := true) rfl rfl) rfl rfl rfl ?_ | refine aops_p (ap_fieldAddr_el (off := 1) (sz := 3) (g := true) rfl rfl zRc) rfl rfl rfl ?_
      first | refine aops_store rfl rfl zFlat zUpd rfl zRc ?_ | refine aops_store_own1 rfl rfl zScal zUpd rfl (by simp only [List.length_set, List.length_map]; omega) ?_
      refine aops_nil ?_
      refine blockQ_n ?_
      refine seqQ_n ?_
      refine awp_region ?_
      first | refine aops_p (ap_fieldAddr (off := 0) (sz := 1) (g := false) rfl rfl) rfl rfl rfl ?_ | refine aops_p (ap_fieldAddr_el (off := 0) (sz := 1) (g := false) rfl rfl zRc) rfl rfl rfl ?_
      first | refine aops_q (aq_load1 rfl zUpd List.not_mem_nil rfl zRc) rfl rfl rfl ?_ | refine aops_q (aq_load_el1 rfl rfl zScal (fun _ h => absurd h List.not_mem_nil)) rfl rfl rfl ?_ | refine aops_q (aq_load_el1' rfl rfl zScal (fun _ h => absurd h List.not_mem_nil)) rfl rfl rfl ?_ | refine aops_q (aq_load_own1 rfl zUpd List.not_mem_nil rfl zAss zScal) rfl rfl rfl ?_
      first | refine aops_q (aq_load rfl zUpd List.not_mem_nil rfl rfl zRc) rfl rfl rfl ?_ | refine aops_q (aq_load_el rfl rfl rfl rfl (fun _ h => absurd h List.not_mem_nil)) rfl rfl rfl ?_
      refine aops_unnil [1,4,5,9,10,11,35,36] 1 rfl rfl (by repeat (first | exact SelC.nil | apply SelC.cons rfl (Cv.agg (CvL.cons Cv.same (CvL.cons Cv.same (CvL.cons Cv.fz (CvL.cons Cv.same CvL.nil))))) | apply SelC.cons rfl Cv.same)) (by repeat (first | exact .nil | apply HeapA.box (by repeat (first | exact CvL.nil | apply CvL.cons Cv.same)) | apply HeapA.arr)) ?_; refine aops_unnil [1,4,5,9,10,11,35,36] 3 rfl rfl (by repeat (first | exact .nil | apply SelC.cons rfl (by first | exact Cv.fz | (apply Cv.agg; repeat (first | exact CvL.nil | apply CvL.cons (by first | exact Cv.fz | exact Cv.same))) | exact Cv.same))) (by repeat (first | exact .nil | apply HeapA.box (by repeat (first | exact CvL.nil | apply CvL.cons Cv.same)) | apply HeapA.arr)) ?_; refine aops_lit (e := 56) (sz := 4) (by_ := 64) rfl rfl zRc rfl rfl rfl rfl ?_
      first | refine aops_append (e := 56) (sz := 4) (by_ := 64) rfl zUpd rfl rfl rfl rfl rfl (by simp only [List.length_cons, List.length_nil, List.length_append, List.length_map]; omega) (fun v38 hv38 => ?_) | refine aops_append_nil (e := 56) (sz := 4) (by_ := 64) rfl rfl rfl rfl rfl rfl (by simp only [List.length_cons, List.length_nil, List.length_append, List.length_map]; omega) (fun v38 hv38 => ?_)
      first | refine aops_p (ap_fieldAddr (off := 0) (sz := 1) (g := false) rfl rfl) rfl rfl rfl ?_ | refine aops_p (ap_fieldAddr_el (off := 0) (sz := 1) (g := false) rfl rfl zRc) rfl rfl rfl ?_
      first | refine aops_store rfl rfl zFlat zUpd rfl zRc ?_ | refine aops_store_own1 rfl rfl zScal zUpd rfl (by simp only [List.length_set, List.length_map]; omega) ?_
      refine aops_nil ?_
      refine blockQ_n ?_
      refine seqQ_n ?_
      refine awp_region ?_
      refine aops_p (ap_arith rfl rfl rfl (by omega)) rfl rfl rfl ?_
      refine aops_p (ap_move rfl) rfl rfl rfl ?_
      refine aops_nil ?_
      refine seqQ_n ?_
      first
      | (refine ⟨k + 1, v38, q ++ [delM s k x], ⟨by omega, by simp only [List.length_append, List.length_cons, List.length_nil]; omega, del_next hd hI⟩, by omega, ?_⟩; rw [← mv_snoc, delM_1 (hc23.trans (by with_reducible assumption))]; exact (wk zSub (by repeat (first | exact .nil | refine .cons (by first | exact .here | exact .there .here | exact .there (.there .here) | exact .there (.there (.there .here)) | exact .there (.there (.there (.there .here)))) ?_))))
      | (refine ⟨k + 1, v38, q ++ [delM s k x], ⟨by omega, by simp only [List.length_append, List.length_cons, List.length_nil]; omega, del_next hd hI⟩, by omega, ?_⟩; rw [← mv_snoc, delM_2 (hc23.trans (by with_reducible assumption)) (by with_reducible assumption)]; exact (wk zSub (by repeat (first | exact .nil | refine .cons (by first | exact .here | exact .there .here | exact .there (.there .here) | exact .there (.there (.there .here)) | exact .there (.there (.there (.there .here)))) ?_))))
  · have hge := of_decide_eq_false hc
    have hF : q = delC c s := by rw [drop_nil (by omega)] at hI; simpa [delGo] using hI
    refine awp_exit ?_
    refine seqQ_x ?_
    refine seqQ_x ?_
    refine blockQ_x rfl ?_
    refine seqQ_n ?_
    refine awp_seq ?_
    refine awp_region ?_
    first | refine aops_q (aq_load rfl zUpd List.not_mem_nil rfl rfl zRc) rfl rfl rfl ?_ | refine aops_q (aq_load_el rfl rfl rfl rfl (fun _ h => absurd h List.not_mem_nil)) rfl rfl rfl ?_
    first | refine aops_store rfl rfl zFlat zUpd rfl zRc ?_ | refine aops_store_own1 rfl rfl zScal zUpd rfl (by simp only [List.length_set, List.length_map]; omega) ?_
    refine aops_nil ?_
    refine seqQ_n ?_
    refine awp_freeze v [4] (by repeat (first | exact .here | apply Rem.there)) (by repeat (first | exact .nil | apply SelC.cons rfl (by first | exact Cv.fz | (apply Cv.agg; repeat (first | exact CvL.nil | apply CvL.cons (by first | exact Cv.fz | exact Cv.same))) | exact Cv.same))) (by repeat (first | exact .nil | apply HeapA.box (by repeat (first | exact CvL.nil | apply CvL.cons (by first | exact Cv.fz | exact Cv.same))) | apply HeapA.arr)) ?_
    refine awp_ret ?_
    refine post_is (.cell rfl zUpd rfl rfl .nil) (by repeat (first | exact .nil | refine .cons (by first | exact .here | exact .there .here | exact .there (.there .here) | exact .there (.there (.there .here)) | exact .there (.there (.there (.there .here)))) ?_)) ?_
    rw [← hF]; rfl
/-- A configuration of at most four members that all are declared, with small trusts. -/
structure OKA (c : List Mem) : Prop where
  len : 1 ≤ c.length ∧ c.length ≤ 4
  decl : ∀ m ∈ c, m.decl = true
  size : ∀ m ∈ c, sizeT m.t ≤ 200
  nn : ∀ m ∈ c, NN m.t
  ok : validC c = 0
theorem OKA.s9 {c : List Mem} (h : OKA c) : ∀ m ∈ c, sizeT m.t ≤ 1000000000 := fun m hm => by have := h.size m hm; omega
theorem OKA.s2 {c : List Mem} (h : OKA c) : ∀ m ∈ c, sizeT m.t ≤ 200000 := fun m hm => by have := h.size m hm; omega
theorem OKA.l10 {c : List Mem} (h : OKA c) : c.length ≤ 10 := by have := h.len; omega
theorem OKA.any {c : List Mem} (h : OKA c) : (c.any fun m => !m.decl) = false := by
  rw [List.any_eq_false]
  intro m hm
  rw [h.decl m hm]; decide
theorem pow4 {n : Nat} (h : 1 ≤ n ∧ n ≤ 4) : 1 < 2 ^ n ∧ 2 ^ n ≤ 16 := by
  have h1 := Nat.pow_le_pow_right (show 0 < 2 by omega) h.1
  have h2 := Nat.pow_le_pow_right (show 0 < 2 by omega) h.2
  omega
theorem nez_f {n : Nat} (h : (!decide ((n : Int) = 0)) = false) : n = 0 := by have := of_neq_false h; omega
theorem nez_t {n : Nat} (h : (!decide ((n : Int) = 0)) = true) : ¬ n = 0 := by have := of_neq_true h; omega
theorem any_cons_fm {α : Type} {p : α → Bool} {x : α} {r : List α} (h : p x = false) : (x :: r).any p = r.any p := by simp [h]
theorem any_cons_tm {α : Type} {p : α → Bool} {x : α} {r : List α} (h : p x = true) : (x :: r).any p = true := by simp [h]
theorem all_con (c : List Mem) (hc : c.length ≤ 4) : Con none Try.prog 23 [cv c] [] (Is (.i ((2 ^ c.length - 1 : Nat) : Int)) []) := by
  have hcap : capB = 140737488355328 := rfl
  have hml : (c.map mv).length = c.length := by simp
  have hpos : 0 < 2 ^ c.length := Nat.pow_pos (by omega)
  have hle := Nat.pow_le_pow_right (show 0 < 2 by omega) hc
  refine con_intro Try.func23 rfl Try.call23 rfl ?_
  refine awp_seq ?_
  refine awp_region ?_
  refine aops_box rfl zFlat rfl rfl (fun b1 => ?_)
  refine aops_p (ap_assign rfl) rfl rfl rfl ?_
  refine aops_nil ?_
  refine seqQ_n ?_
  refine awp_seq ?_
  refine awp_region ?_
  first | refine aops_p (ap_fieldAddr (off := 0) (sz := 1) (g := false) rfl rfl) rfl rfl rfl ?_ | refine aops_p (ap_fieldAddr_el (off := 0) (sz := 1) (g := false) rfl rfl zRc) rfl rfl rfl ?_
  first | refine aops_q (aq_load1 rfl zUpd List.not_mem_nil rfl zRc) rfl rfl rfl ?_ | refine aops_q (aq_load_el1 rfl rfl zScal (fun _ h => absurd h List.not_mem_nil)) rfl rfl rfl ?_ | refine aops_q (aq_load_el1' rfl rfl zScal (fun _ h => absurd h List.not_mem_nil)) rfl rfl rfl ?_ | refine aops_q (aq_load_own1 rfl zUpd List.not_mem_nil rfl zAss zScal) rfl rfl rfl ?_
  first | refine aops_len rfl rfl rfl rfl (fun _ => ?_) | refine aops_p (ap_len_arr rfl zUpd rfl) rfl rfl rfl ?_ | refine aops_p (ap_len_nil rfl rfl) rfl rfl rfl ?_
  (rw [hml]; refine aops_p (ap_shl (p := 1) rfl rfl rfl (by omega) (by omega)) rfl rfl rfl ?_)
  refine aops_p (ap_arith (m := ((2 ^ c.length - 1 : Nat) : Int)) rfl rfl (by show some _ = _; simp only [Option.some.injEq]; omega) (by omega)) rfl rfl rfl ?_
  refine aops_p (ap_assign rfl) rfl rfl rfl ?_
  refine aops_nil ?_
  refine seqQ_n ?_
  refine awp_ret ?_
  refine post_is (.tmp rfl .nil) (by repeat (first | exact .nil | refine .cons (by first | exact .here | exact .there .here | exact .there (.there .here) | exact .there (.there (.there .here)) | exact .there (.there (.there (.there .here)))) ?_)) rfl
theorem check1_con (m : Mem) : Con none Try.prog 39 [mv m] [] (Is (.b (!m.decl)) []) := by
  have hcap : capB = 140737488355328 := rfl
  refine con_intro Try.func39 rfl Try.call39 rfl ?_
  refine awp_seq ?_
  refine awp_region ?_
  refine aops_box rfl zFlat rfl rfl (fun b1 => ?_)
  refine aops_p (ap_assign rfl) rfl rfl rfl ?_
  refine aops_nil ?_
  refine seqQ_n ?_
  refine awp_seq ?_
  refine awp_region ?_
  first | refine aops_p (ap_fieldAddr (off := 0) (sz := 1) (g := false) rfl rfl) rfl rfl rfl ?_ | refine aops_p (ap_fieldAddr_el (off := 0) (sz := 1) (g := false) rfl rfl zRc) rfl rfl rfl ?_
  first | refine aops_q (aq_load1 rfl zUpd List.not_mem_nil rfl zRc) rfl rfl rfl ?_ | refine aops_q (aq_load_el1 rfl rfl zScal (fun _ h => absurd h List.not_mem_nil)) rfl rfl rfl ?_ | refine aops_q (aq_load_el1' rfl rfl zScal (fun _ h => absurd h List.not_mem_nil)) rfl rfl rfl ?_ | refine aops_q (aq_load_own1 rfl zUpd List.not_mem_nil rfl zAss zScal) rfl rfl rfl ?_
  refine aops_p (ap_not rfl) rfl rfl rfl ?_
  refine aops_p (ap_assign rfl) rfl rfl rfl ?_
  refine aops_nil ?_
  refine seqQ_n ?_
  refine awp_ret ?_
  exact post_is (.tmp rfl .nil) (by repeat (first | exact .nil | refine .cons (by first | exact .here | exact .there .here | exact .there (.there .here) | exact .there (.there (.there .here)) | exact .there (.there (.there (.there .here)))) ?_)) rfl
theorem indexFM_con (f : FuncId) (p : Mem → Bool) (l : List Mem) (hf : ∀ k, k ∈ l → Con none Try.prog f [mv k] [] (Is (.b (p k)) [])) : Con none Try.prog 53 [.sl 4 (l.map mv), .v (.func (.func f) #[] #[])] [] (fun d H => ∃ r : Int, d = .i r ∧ decide (0 ≤ r) = l.any p ∧ H = []) := by
  have hcap : capB = 140737488355328 := rfl
  have hl1 : (l.map mv).length = l.length := by simp
  refine con_intro Try.func53 rfl Try.call53 rfl ?_
  refine awp_seq ?_
  refine awp_region ?_
  refine aops_p (ap_assign rfl) rfl rfl rfl ?_
  refine aops_nil ?_
  refine seqQ_n ?_
  refine awp_seq ?_
  refine awp_seq ?_
  refine awp_region ?_
  refine aops_p (ap_move rfl) rfl rfl rfl ?_
  first | refine aops_len rfl rfl rfl rfl (fun _ => ?_) | refine aops_p (ap_len_arr rfl zUpd rfl) rfl rfl rfl ?_ | refine aops_p (ap_len_nil rfl rfl) rfl rfl rfl ?_
  refine aops_p (ap_move rfl) rfl rfl rfl ?_
  refine aops_nil ?_
  refine seqQ_n ?_
  refine awp_block ?_
  refine awp_loop1 [0, 1, 7] [] (fun (k : Nat) r => (8, .i (k : Int)) :: r) (fun (k : Nat) r => r) (fun (k : Nat) => k ≤ l.length ∧ (l.drop k).any p = l.any p) (fun (k : Nat) => l.length - k) (0) zRc ⟨by omega, by simp⟩ (wk zSub (by repeat (first | exact .nil | refine .cons (by first | exact .here | exact .there .here | exact .there (.there .here) | exact .there (.there (.there .here)) | exact .there (.there (.there (.there .here)))) ?_))) ?_
  intro k ⟨hk, hI⟩
  refine awp_seq ?_
  refine awp_region ?_
  refine aops_p (ap_cmp rfl rfl rfl) rfl rfl rfl ?_
  refine aops_nil ?_
  refine seqQ_n ?_
  refine awp_seq ?_
  refine awp_cond rfl (fun hc => ?_) (fun hc => ?_)
  · have hlt : k < l.length := by have := of_decide_eq_true hc; omega
    obtain ⟨x, hx, hd⟩ := drop_cons hlt
    have hx' := getMap mv hx
    rw [hd] at hI
    refine awp_skip ?_
    refine seqQ_n ?_
    refine awp_seq ?_
    refine awp_block ?_
    refine awp_seq ?_
    refine awp_region ?_
    refine aops_p (ap_move rfl) rfl rfl rfl ?_
    refine aops_p (ap_assign rfl) rfl rfl rfl ?_
    refine aops_nil ?_
    refine seqQ_n ?_
    refine awp_seq ?_
    refine awp_region ?_
    refine aops_p (ap_move rfl) rfl rfl rfl ?_
    refine aops_p (ap_move rfl) rfl rfl rfl ?_
    refine aops_p (ap_move rfl) rfl rfl rfl ?_
    first | refine aops_p (ap_index rfl rfl rfl rfl (by decide) rfl zAss) rfl rfl rfl ?_ | refine aops_p (ap_index rfl rfl rfl rfl (by decide) (by omega) zAss) rfl rfl rfl ?_ | refine aops_p (ap_index_own rfl rfl rfl rfl rfl (by first | omega | (simp only [List.length_map, List.length_set, avs_len]; omega))) rfl rfl rfl ?_
    first | refine aops_q (aq_load rfl zUpd List.not_mem_nil rfl rfl zRc) rfl rfl rfl ?_ | refine aops_q (aq_load_el rfl rfl rfl rfl (fun _ h => absurd h List.not_mem_nil)) rfl rfl rfl ?_
    (refine aops_callv (caps := []) rfl zRc (hf x (List.mem_of_getElem? hx)) zSplit rfl rfl ?_; rintro _ _ ⟨rfl, rfl⟩; obtain ⟨c16, hc16⟩ : ∃ b, b = p x := ⟨_, rfl⟩; rw [← hc16])
    refine aops_nil ?_
    refine seqQ_n ?_
    refine awp_cond rfl (fun hc => ?_) (fun hc => ?_)
    · refine awp_seq ?_
      refine awp_region ?_
      refine aops_p (ap_move rfl) rfl rfl rfl ?_
      refine aops_p (ap_assign rfl) rfl rfl rfl ?_
      refine aops_nil ?_
      refine seqQ_n ?_
      refine awp_ret ?_
      refine blockQ_r ?_
      refine seqQ_r ?_
      refine seqQ_r ?_
      refine blockQ_r ?_
      refine seqQ_r ?_
      refine post_ret (.tmp rfl .nil) (by repeat (first | exact .nil | refine .cons (by first | exact .here | exact .there .here | exact .there (.there .here) | exact .there (.there (.there .here)) | exact .there (.there (.there (.there .here)))) ?_)) ⟨_, rfl, ?_, rfl⟩
      rw [any_cons_tm (hc16.symm.trans hc)] at hI
      rw [← hI]; exact decide_eq_true (by omega)
    · refine awp_skip ?_
      refine blockQ_n ?_
      refine seqQ_n ?_
      refine awp_region ?_
      refine aops_p (ap_arith rfl rfl rfl (by omega)) rfl rfl rfl ?_
      refine aops_p (ap_move rfl) rfl rfl rfl ?_
      refine aops_nil ?_
      refine seqQ_n ?_
      rw [any_cons_fm (hc16.symm.trans hc)] at hI
      refine ⟨k + 1, ⟨by omega, hI⟩, by omega, wk zSub (by repeat (first | exact .nil | refine .cons (by first | exact .here | exact .there .here | exact .there (.there .here) | exact .there (.there (.there .here)) | exact .there (.there (.there (.there .here)))) ?_))⟩
  · have hge : l.length ≤ k := by have := of_decide_eq_false hc; omega
    rw [drop_nil hge] at hI
    refine awp_exit ?_
    refine seqQ_x ?_
    refine seqQ_x ?_
    refine blockQ_x rfl ?_
    refine seqQ_n ?_
    refine awp_seq ?_
    refine awp_region ?_
    refine aops_p (ap_assign rfl) rfl rfl rfl ?_
    refine aops_nil ?_
    refine seqQ_n ?_
    refine awp_ret ?_
    refine post_ret (.tmp rfl .nil) (by repeat (first | exact .nil | refine .cons (by first | exact .here | exact .there .here | exact .there (.there .here) | exact .there (.there (.there .here)) | exact .there (.there (.there (.there .here)))) ?_)) ⟨_, rfl, ?_, rfl⟩
    rw [← hI]; rfl
theorem containsFM_con (f : FuncId) (p : Mem → Bool) (l : List Mem) (hf : ∀ k, k ∈ l → Con none Try.prog f [mv k] [] (Is (.b (p k)) [])) : Con none Try.prog 41 [.sl 4 (l.map mv), .v (.func (.func f) #[] #[])] [] (Is (.b (l.any p)) []) := by
  have hcap : capB = 140737488355328 := rfl
  refine con_intro Try.func41 rfl Try.call41 rfl ?_
  refine awp_seq ?_
  refine awp_region ?_
  refine aops_p (ap_assign rfl) rfl rfl rfl ?_
  refine aops_nil ?_
  refine seqQ_n ?_
  refine awp_seq ?_
  refine awp_region ?_
  refine aops_p (ap_move rfl) rfl rfl rfl ?_
  refine aops_p (ap_move rfl) rfl rfl rfl ?_
  (refine aops_call zRc (indexFM_con f p l hf) zSplit rfl rfl ?_; rintro _ _ ⟨r, rfl, hr, rfl⟩)
  refine aops_p (ap_cmp rfl rfl rfl) rfl rfl rfl ?_
  refine aops_p (ap_assign rfl) rfl rfl rfl ?_
  refine aops_nil ?_
  refine seqQ_n ?_
  refine awp_ret ?_
  refine post_is (.tmp rfl .nil) (by repeat (first | exact .nil | refine .cons (by first | exact .here | exact .there .here | exact .there (.there .here) | exact .there (.there (.there .here)) | exact .there (.there (.there (.there .here)))) ?_)) ?_
  rw [← hr]; rfl
theorem indexFV_con (b3 b7 : Nat) (d3 d7 : List D) (f : FuncId) (p : Vd → Bool) (l : List Vd) (hf : ∀ k, k ∈ l → Con none Try.prog f [vv k, .p b3 0, .p b7 0] [.box b7 38 d7, .box b3 58 d3] (Is (.b (p k)) [.box b7 38 d7, .box b3 58 d3])) : Con none Try.prog 51 [.sl 5 (l.map vv), .v (.func (.func f) #[] #[.pointer (some ⟨b3, 0, none⟩), .pointer (some ⟨b7, 0, none⟩)])] [.box b7 38 d7, .box b3 58 d3] (fun d H => ∃ r : Int, d = .i r ∧ decide (0 ≤ r) = l.any p ∧ H = [.box b7 38 d7, .box b3 58 d3]) := by
  have hcap : capB = 140737488355328 := rfl
  have hl1 : (l.map vv).length = l.length := by simp
  refine con_intro Try.func51 rfl Try.call51 rfl ?_
  refine awp_seq ?_
  refine awp_region ?_
  refine aops_p (ap_assign rfl) rfl rfl rfl ?_
  refine aops_nil ?_
  refine seqQ_n ?_
  refine awp_seq ?_
  refine awp_seq ?_
  refine awp_region ?_
  refine aops_p (ap_move rfl) rfl rfl rfl ?_
  first | refine aops_len rfl rfl rfl rfl (fun _ => ?_) | refine aops_p (ap_len_arr rfl zUpd rfl) rfl rfl rfl ?_ | refine aops_p (ap_len_nil rfl rfl) rfl rfl rfl ?_
  refine aops_p (ap_move rfl) rfl rfl rfl ?_
  refine aops_nil ?_
  refine seqQ_n ?_
  refine awp_block ?_
  refine awp_loop1 [0, 1, 7] [] (fun (k : Nat) r => (8, .i (k : Int)) :: r) (fun (k : Nat) r => .box b7 38 d7 :: .box b3 58 d3 :: r) (fun (k : Nat) => k ≤ l.length ∧ (l.drop k).any p = l.any p) (fun (k : Nat) => l.length - k) (0) zRc ⟨by omega, by simp⟩ (wk zSub (by repeat (first | exact .nil | refine .cons (by first | exact .here | exact .there .here | exact .there (.there .here) | exact .there (.there (.there .here)) | exact .there (.there (.there (.there .here)))) ?_))) ?_
  intro k ⟨hk, hI⟩
  refine awp_seq ?_
  refine awp_region ?_
  refine aops_p (ap_cmp rfl rfl rfl) rfl rfl rfl ?_
  refine aops_nil ?_
  refine seqQ_n ?_
  refine awp_seq ?_
  refine awp_cond rfl (fun hc => ?_) (fun hc => ?_)
  · have hlt : k < l.length := by have := of_decide_eq_true hc; omega
    obtain ⟨x, hx, hd⟩ := drop_cons hlt
    have hx' := getMap vv hx
    rw [hd] at hI
    refine awp_skip ?_
    refine seqQ_n ?_
    refine awp_seq ?_
    refine awp_block ?_
    refine awp_seq ?_
    refine awp_region ?_
    refine aops_p (ap_move rfl) rfl rfl rfl ?_
    refine aops_p (ap_assign rfl) rfl rfl rfl ?_
    refine aops_nil ?_
    refine seqQ_n ?_
    refine awp_seq ?_
    refine awp_region ?_
    refine aops_p (ap_move rfl) rfl rfl rfl ?_
    refine aops_p (ap_move rfl) rfl rfl rfl ?_
    refine aops_p (ap_move rfl) rfl rfl rfl ?_
    first | refine aops_p (ap_index rfl rfl rfl rfl (by decide) rfl zAss) rfl rfl rfl ?_ | refine aops_p (ap_index rfl rfl rfl rfl (by decide) (by omega) zAss) rfl rfl rfl ?_ | refine aops_p (ap_index_own rfl rfl rfl rfl rfl (by first | omega | (simp only [List.length_map, List.length_set, avs_len]; omega))) rfl rfl rfl ?_
    first | refine aops_q (aq_load rfl zUpd List.not_mem_nil rfl rfl zRc) rfl rfl rfl ?_ | refine aops_q (aq_load_el rfl rfl rfl rfl (fun _ h => absurd h List.not_mem_nil)) rfl rfl rfl ?_
    (refine aops_callv (caps := [.pointer (some ⟨b3, 0, none⟩), .pointer (some ⟨b7, 0, none⟩)]) rfl zRc (hf x (List.mem_of_getElem? hx)) zSplit rfl rfl ?_; rintro _ _ ⟨rfl, rfl⟩; obtain ⟨c16, hc16⟩ : ∃ b, b = p x := ⟨_, rfl⟩; rw [← hc16])
    refine aops_nil ?_
    refine seqQ_n ?_
    refine awp_cond rfl (fun hc => ?_) (fun hc => ?_)
    · refine awp_seq ?_
      refine awp_region ?_
      refine aops_p (ap_move rfl) rfl rfl rfl ?_
      refine aops_p (ap_assign rfl) rfl rfl rfl ?_
      refine aops_nil ?_
      refine seqQ_n ?_
      refine awp_ret ?_
      refine blockQ_r ?_
      refine seqQ_r ?_
      refine seqQ_r ?_
      refine blockQ_r ?_
      refine seqQ_r ?_
      refine post_ret (.tmp rfl .nil) (by repeat (first | exact .nil | refine .cons (by first | exact .here | exact .there .here | exact .there (.there .here) | exact .there (.there (.there .here)) | exact .there (.there (.there (.there .here)))) ?_)) ⟨_, rfl, ?_, rfl⟩
      rw [any_cons_tm (hc16.symm.trans hc)] at hI
      rw [← hI]; exact decide_eq_true (by omega)
    · refine awp_skip ?_
      refine blockQ_n ?_
      refine seqQ_n ?_
      refine awp_region ?_
      refine aops_p (ap_arith rfl rfl rfl (by omega)) rfl rfl rfl ?_
      refine aops_p (ap_move rfl) rfl rfl rfl ?_
      refine aops_nil ?_
      refine seqQ_n ?_
      rw [any_cons_fm (hc16.symm.trans hc)] at hI
      refine ⟨k + 1, ⟨by omega, hI⟩, by omega, wk zSub (by repeat (first | exact .nil | refine .cons (by first | exact .here | exact .there .here | exact .there (.there .here) | exact .there (.there (.there .here)) | exact .there (.there (.there (.there .here)))) ?_))⟩
  · have hge : l.length ≤ k := by have := of_decide_eq_false hc; omega
    rw [drop_nil hge] at hI
    refine awp_exit ?_
    refine seqQ_x ?_
    refine seqQ_x ?_
    refine blockQ_x rfl ?_
    refine seqQ_n ?_
    refine awp_seq ?_
    refine awp_region ?_
    refine aops_p (ap_assign rfl) rfl rfl rfl ?_
    refine aops_nil ?_
    refine seqQ_n ?_
    refine awp_ret ?_
    refine post_ret (.tmp rfl .nil) (by repeat (first | exact .nil | refine .cons (by first | exact .here | exact .there .here | exact .there (.there .here) | exact .there (.there (.there .here)) | exact .there (.there (.there (.there .here)))) ?_)) ⟨_, rfl, ?_, rfl⟩
    rw [← hI]; rfl
theorem containsFV_con (b3 b7 : Nat) (d3 d7 : List D) (f : FuncId) (p : Vd → Bool) (l : List Vd) (hf : ∀ k, k ∈ l → Con none Try.prog f [vv k, .p b3 0, .p b7 0] [.box b7 38 d7, .box b3 58 d3] (Is (.b (p k)) [.box b7 38 d7, .box b3 58 d3])) : Con none Try.prog 38 [.sl 5 (l.map vv), .v (.func (.func f) #[] #[.pointer (some ⟨b3, 0, none⟩), .pointer (some ⟨b7, 0, none⟩)])] [.box b7 38 d7, .box b3 58 d3] (Is (.b (l.any p)) [.box b7 38 d7, .box b3 58 d3]) := by
  have hcap : capB = 140737488355328 := rfl
  refine con_intro Try.func38 rfl Try.call38 rfl ?_
  refine awp_seq ?_
  refine awp_region ?_
  refine aops_p (ap_assign rfl) rfl rfl rfl ?_
  refine aops_nil ?_
  refine seqQ_n ?_
  refine awp_seq ?_
  refine awp_region ?_
  refine aops_p (ap_move rfl) rfl rfl rfl ?_
  refine aops_p (ap_move rfl) rfl rfl rfl ?_
  (refine aops_call zRc (indexFV_con b3 b7 d3 d7 f p l hf) zSplit rfl rfl ?_; rintro _ _ ⟨r, rfl, hr, rfl⟩)
  refine aops_p (ap_cmp rfl rfl rfl) rfl rfl rfl ?_
  refine aops_p (ap_assign rfl) rfl rfl rfl ?_
  refine aops_nil ?_
  refine seqQ_n ?_
  refine awp_ret ?_
  refine post_is (.tmp rfl .nil) (by repeat (first | exact .nil | refine .cons (by first | exact .here | exact .there .here | exact .there (.there .here) | exact .there (.there (.there .here)) | exact .there (.there (.there (.there .here)))) ?_)) ?_
  rw [← hr]; rfl
theorem check_con (c : List Mem) (hok : OKA c) (s : Nat) (hs : s < 2 ^ c.length) : Con none Try.prog 22 [cv c, .i s] [] (Is (.i 0) []) := by
  have hcap : capB = 140737488355328 := rfl
  have hp := pow4 hok.len
  refine con_intro Try.func22 rfl Try.call22 rfl ?_
  refine awp_seq ?_
  refine awp_region ?_
  refine aops_box rfl zFlat rfl rfl (fun b2 => ?_)
  refine aops_p (ap_assign rfl) rfl rfl rfl ?_
  refine aops_nil ?_
  refine seqQ_n ?_
  refine awp_seq ?_
  refine awp_region ?_
  refine aops_p (ap_assign rfl) rfl rfl rfl ?_
  refine aops_nil ?_
  refine seqQ_n ?_
  refine awp_seq ?_
  refine awp_seq ?_
  refine awp_region ?_
  first | refine aops_q (aq_load rfl zUpd List.not_mem_nil rfl rfl zRc) rfl rfl rfl ?_ | refine aops_q (aq_load_el rfl rfl rfl rfl (fun _ h => absurd h List.not_mem_nil)) rfl rfl rfl ?_
  refine aops_call_v zRc (validC_con c hok.s9) rfl rfl ?_
  refine aops_p (ap_assign rfl) rfl rfl rfl ?_
  refine aops_nil ?_
  refine seqQ_n ?_
  refine awp_block ?_
  refine awp_seq ?_
  refine awp_region ?_
  refine aops_p (ap_move rfl) rfl rfl rfl ?_
  refine aops_p (ap_cmp rfl rfl rfl) rfl rfl rfl ?_
  refine aops_p (ap_assign rfl) rfl rfl rfl ?_
  refine aops_nil ?_
  refine seqQ_n ?_
  refine awp_cond_f rfl (by rw [hok.ok]; rfl) ?_
  refine awp_seq ?_
  refine awp_region ?_
  first | refine aops_p (ap_fieldAddr (off := 0) (sz := 1) (g := false) rfl rfl) rfl rfl rfl ?_ | refine aops_p (ap_fieldAddr_el (off := 0) (sz := 1) (g := false) rfl rfl zRc) rfl rfl rfl ?_
  first | refine aops_q (aq_load1 rfl zUpd List.not_mem_nil rfl zRc) rfl rfl rfl ?_ | refine aops_q (aq_load_el1 rfl rfl zScal (fun _ h => absurd h List.not_mem_nil)) rfl rfl rfl ?_ | refine aops_q (aq_load_el1' rfl rfl zScal (fun _ h => absurd h List.not_mem_nil)) rfl rfl rfl ?_ | refine aops_q (aq_load_own1 rfl zUpd List.not_mem_nil rfl zAss zScal) rfl rfl rfl ?_
  refine aops_p (ap_move rfl) rfl rfl rfl ?_
  refine aops_call_v zRc (containsFM_con _ (fun m => !m.decl) c (fun k _ => check1_con k)) rfl rfl ?_
  refine aops_p (ap_assign rfl) rfl rfl rfl ?_
  refine aops_nil ?_
  refine seqQ_n ?_
  refine awp_cond_f rfl hok.any ?_
  refine awp_seq ?_
  refine awp_region ?_
  refine aops_p (ap_move rfl) rfl rfl rfl ?_
  refine aops_p (ap_cmp rfl rfl rfl) rfl rfl rfl ?_
  refine aops_p (ap_move rfl) rfl rfl rfl ?_
  all_goals (first | (refine aops_yes rfl rfl rfl rfl zDec ?_; (refine aops_p (ap_move rfl) rfl rfl rfl ?_)) | refine aops_no_u rfl rfl rfl ?_ | refine aops_no_f rfl rfl rfl rfl zDec ?_ | (refine aops_guard_f rfl rfl rfl rfl (fun hg => ?_) (fun hg => ?_); case' _ => (refine aops_p (ap_move rfl) rfl rfl rfl ?_)))
  all_goals (first | (refine aops_yes rfl rfl rfl rfl zDec ?_; (first | refine aops_q (aq_load rfl zUpd List.not_mem_nil rfl rfl zRc) rfl rfl rfl ?_ | refine aops_q (aq_load_el rfl rfl rfl rfl (fun _ h => absurd h List.not_mem_nil)) rfl rfl rfl ?_)) | refine aops_no_u rfl rfl rfl ?_ | refine aops_no_f rfl rfl rfl rfl zDec ?_ | (refine aops_guard_f rfl rfl rfl rfl (fun hg => ?_) (fun hg => ?_); case' _ => (first | refine aops_q (aq_load rfl zUpd List.not_mem_nil rfl rfl zRc) rfl rfl rfl ?_ | refine aops_q (aq_load_el rfl rfl rfl rfl (fun _ h => absurd h List.not_mem_nil)) rfl rfl rfl ?_)))
  all_goals (first | (refine aops_yes rfl rfl rfl rfl zDec ?_; (refine aops_call_v zRc (all_con c hok.len.2) rfl rfl ?_)) | refine aops_no_u rfl rfl rfl ?_ | refine aops_no_f rfl rfl rfl rfl zDec ?_ | (refine aops_guard_f rfl rfl rfl rfl (fun hg => ?_) (fun hg => ?_); case' _ => (refine aops_call_v zRc (all_con c hok.len.2) rfl rfl ?_)))
  all_goals (first | (refine aops_yes rfl rfl rfl rfl zDec ?_; (refine aops_p (ap_cmp rfl rfl rfl) rfl rfl rfl ?_)) | refine aops_no_u rfl rfl rfl ?_ | refine aops_no_f rfl rfl rfl rfl zDec ?_ | (refine aops_guard_f rfl rfl rfl rfl (fun hg => ?_) (fun hg => ?_); case' _ => (refine aops_p (ap_cmp rfl rfl rfl) rfl rfl rfl ?_)))
  all_goals (first | refine aops_p (ap_pick_true rfl zDec rfl) rfl rfl rfl ?_ | refine aops_p (ap_pick_false rfl zDec rfl) rfl rfl rfl ?_)
  all_goals (refine aops_p (ap_assign rfl) rfl rfl rfl ?_)
  all_goals (
    refine aops_nil ?_
    refine seqQ_n ?_
    refine awp_cond_f rfl (by first | with_reducible assumption | (refine decide_eq_false ?_; omega)) ?_
    refine awp_skip ?_
    refine blockQ_n ?_
    refine seqQ_n ?_
    refine awp_seq ?_
    refine awp_region ?_
    refine aops_p (ap_assign rfl) rfl rfl rfl ?_
    refine aops_nil ?_
    refine seqQ_n ?_
    refine awp_ret ?_
    exact post_is (.tmp rfl .nil) (by repeat (first | exact .nil | refine .cons (by first | exact .here | exact .there .here | exact .there (.there .here) | exact .there (.there (.there .here)) | exact .there (.there (.there (.there .here)))) ?_)) rfl
    )
theorem silent_con (c : List Mem) (hok : OKA c) (s : Nat) (hs : s < 2 ^ c.length) : Con none Try.prog 43 [cv c, .i s] [] (Is (.b (silentC c s)) []) := by
  have hcap : capB = 140737488355328 := rfl
  have hp := pow4 hok.len
  refine con_intro Try.func43 rfl Try.call43 rfl ?_
  refine awp_seq ?_
  refine awp_region ?_
  refine aops_box rfl zFlat rfl rfl (fun b2 => ?_)
  refine aops_p (ap_assign rfl) rfl rfl rfl ?_
  refine aops_nil ?_
  refine seqQ_n ?_
  refine awp_seq ?_
  refine awp_draw (Hm := []) zKr zSplit ?_
  first | refine aany_take 0 rfl (.none rfl) zKr zKr zKr (ar_load rfl zUpd rfl rfl zRc) rfl rfl ?_ | refine aany_take 0 rfl (.none rfl) zKr zKr zKr (AQ.ar (aq_load_el rfl rfl rfl rfl (fun _ h => h))) rfl rfl ?_
  first | refine aany_take 1 rfl (.none rfl) zKr zKr zKr (ar_load rfl zUpd rfl rfl zRc) rfl rfl ?_ | refine aany_take 1 rfl (.none rfl) zKr zKr zKr (AQ.ar (aq_load_el rfl rfl rfl rfl (fun _ h => h))) rfl rfl ?_
  refine aany_take 3 rfl (.none rfl) zKr zKr zKr (AP.ar (ap_move rfl)) rfl rfl ?_
  refine aany_one 2 zKr rfl (.none rfl) ?_
  refine aops_call_v zRc (all_con c hok.len.2) rfl rfl ?_
  refine aops_nil ?_
  refine aany_take 4 rfl (.none rfl) zKr zKr zKr (AP.ar (ap_bits rfl rfl rfl (by omega) (by omega))) rfl rfl ?_
  refine aany_one 5 zKr rfl (.none rfl) ?_
  refine aops_call_v zRc (great_con c (co c s)) rfl rfl ?_
  refine aops_nil ?_
  refine aany_take 6 rfl (.none rfl) zKr zKr zKr (AP.ar (ap_cmp rfl rfl rfl)) rfl rfl ?_
  refine aany_take 7 rfl (.none rfl) zKr zKr zKr (AP.ar (ap_assign rfl)) rfl rfl ?_
  refine aany_nil zKr ?_
  all_goals (
    refine seqQ_n ?_
    refine awp_ret ?_
    exact post_is (.tmp rfl .nil) (by repeat (first | exact .nil | refine .cons (by first | exact .here | exact .there .here | exact .there (.there .here) | exact .there (.there (.there .here)) | exact .there (.there (.there (.there .here)))) ?_)) rfl
    )
end Go.Proofs.Ytkgcehimmfkikaa
