/- The walks of: quorum0_con, quorumV_con, rquorum0_con, rquorumN_con, rquorum_con, blank_con, member_con, validC_con, lower_con, less_con, delT_con, del_con, lowered_con, plevel_con, pdelT_con, pdel_con, all_con, check1_con, indexFM_con, containsFM_con, indexFV_con, containsFV_con, check_con, silent_con, apair_con, judge_con, Judge_con, Silent_con, within_con, isSplit_con, isHalt_con, aleast_con, rInts_con, SNew_con, SN_con, SRange_con. Each says what one function of the program answers, for the arguments that its statement names. No condition beyond what each theorem says. -/
import Derived.Test.YtkgcehimmfkikaaAnalyserTruthW1
import Derived.Test.YtkgcehimmfkikaaProg
import Derived.KernelRfl
import Derived.Tactics
import Derived.Tactics2
import Derived.StillTactics
set_option linter.unusedVariables false
set_option linter.unusedSimpArgs false
set_option linter.unnecessarySimpa false
set_option maxRecDepth 4000
namespace Go.Proofs.Ytkgcehimmfkikaa
open Go Go.Av Go.Tq
theorem quorum0_con (c : List Mem) (s : Int) (hv : valid s = false) : Con none Try.prog 30 [cv c, .i s] [] (Is (.b false) []) := by
  have hcap : capB = 140737488355328 := rfl
  refine con_intro Try.func30 rfl Try.call30 rfl ?_
  refine zS ?_
  refine aops_box rfl zFlat rfl rfl (fun b2 => ?_)
  refine zAs ?_; refine zN ?_; refine awp_seq ?_; refine zS ?_; refine zMv ?_
  refine aops_call_v zRc (valid0 hv) rfl rfl ?_
  refine zNo ?_; refine zMv ?_
  all_goals first | (refine zY ?_; refine zMv ?_) | refine zU ?_ | refine zNf ?_ | (refine zGf (fun hg => ?_) fun hg => ?_; case' _ => refine zMv ?_)
  all_goals first | (refine zY ?_; refine zCm ?_) | refine zU ?_ | refine zNf ?_ | (refine zGf (fun hg => ?_) fun hg => ?_; case' _ => refine zCm ?_)
  all_goals refine zPk ?_
  all_goals refine zMv ?_
  all_goals first | (refine zY ?_; refine zLd ?_) | refine zU ?_ | refine zNf ?_ | (refine zGf (fun hg => ?_) fun hg => ?_; case' _ => refine zLd ?_)
  all_goals first | (refine zY ?_; refine zMv ?_) | refine zU ?_ | refine zNf ?_ | (refine zGf (fun hg => ?_) fun hg => ?_; case' _ => refine zMv ?_)
  all_goals first | (refine zY ?_; refine aops_call_v zRc (inside_con c 0 (by omega)) rfl rfl ?_) | refine zU ?_ | refine zNf ?_ | (refine zGf (fun hg => ?_) fun hg => ?_; case' _ => refine aops_call_v zRc (inside_con c 0 (by omega)) rfl rfl ?_)
  all_goals first | (refine zY ?_; refine zNo ?_) | refine zU ?_ | refine zNf ?_ | (refine zGf (fun hg => ?_) fun hg => ?_; case' _ => refine zNo ?_)
  all_goals refine zPk ?_
  all_goals (
    refine zN ?_
    refine zC (fun hc => ?_) fun hc => ?_
    · first
      | (exact absurd hc (by decide))
      | (refine awp_seq ?_
         refine awp_region ?_; refine zAs ?_; refine zN ?_; refine awp_ret ?_; refine seqQ_r ?_
         refine post_is (.tmp rfl .nil) zKeep rfl
        )
    · first
      | (exact absurd hc (by decide))
      | (refine awp_skip ?_
         refine seqQ_n ?_; refine zS ?_; refine zLd ?_; refine zMv ?_
         refine aops_call_v zRc (valid0 hv) rfl rfl ?_
         refine zMv ?_
         refine zP (ap_extract rfl rfl) ?_
         refine zP (ap_extract rfl rfl) ?_
         refine zAs ?_; refine zAs ?_; refine zN (zS ?_); refine zMv ?_; refine zNo ?_; refine zAs ?_; refine zN ?_; refine awp_ret ?_
         refine post_is (.tmp rfl .nil) zKeep rfl
        )
    )
theorem quorumV_con (c : List Mem) (s : Int) : Con none Try.prog 30 [cv c, .i s] [] (Is (.b (quorumV c s)) []) := by
  cases h : valid s with
  | false => rw [quorumV_inval h]; exact quorum0_con c s h
  | true =>
    obtain ⟨m, rfl, hm⟩ := valid_nat h
    rw [quorumV_nat hm]
    exact quorum_con c m hm
theorem rquorum0_con (c : List Mem) (s : Int) (hv : valid s = false) : Con none Try.prog 15 [cv c, .i s] [] (Is (.b false) []) := by
  have hcap : capB = 140737488355328 := rfl
  refine con_intro Try.func15 rfl Try.call15 rfl ?_
  refine zS ?_
  refine aops_box rfl zFlat rfl rfl (fun b2 => ?_)
  refine zAs ?_; refine zN ?_; refine awp_seq ?_; refine zS ?_; refine zMv ?_
  refine aops_call_v zRc (rvalid0 hv) rfl rfl ?_
  refine zNo ?_; refine zMv ?_
  all_goals first | (refine zY ?_; refine zMv ?_) | refine zU ?_ | refine zNf ?_ | (refine zGf (fun hg => ?_) fun hg => ?_; case' _ => refine zMv ?_)
  all_goals first | (refine zY ?_; refine zCm ?_) | refine zU ?_ | refine zNf ?_ | (refine zGf (fun hg => ?_) fun hg => ?_; case' _ => refine zCm ?_)
  all_goals refine zPk ?_
  all_goals refine zMv ?_
  all_goals first | (refine zY ?_; refine zMv ?_) | refine zU ?_ | refine zNf ?_ | (refine zGf (fun hg => ?_) fun hg => ?_; case' _ => refine zMv ?_)
  all_goals first | (refine zY ?_; refine zLd ?_) | refine zU ?_ | refine zNf ?_ | (refine zGf (fun hg => ?_) fun hg => ?_; case' _ => refine zLd ?_)
  all_goals first | (refine zY ?_; refine aops_call_v zRc (rdecl_con c) rfl rfl ?_) | refine zU ?_ | refine zNf ?_ | (refine zGf (fun hg => ?_) fun hg => ?_; case' _ => refine aops_call_v zRc (rdecl_con c) rfl rfl ?_)
  all_goals first | (refine zY ?_; refine zP (ap_bits rfl rfl rfl (by omega) (by omega)) ?_) | refine zU ?_ | refine zNf ?_ | (refine zGf (fun hg => ?_) fun hg => ?_; case' _ => refine zP (ap_bits rfl rfl rfl (by omega) (by omega)) ?_)
  all_goals first | (refine zY ?_; refine zMv ?_) | refine zU ?_ | refine zNf ?_ | (refine zGf (fun hg => ?_) fun hg => ?_; case' _ => refine zMv ?_)
  all_goals first | (refine zY ?_; refine zCm ?_) | refine zU ?_ | refine zNf ?_ | (refine zGf (fun hg => ?_) fun hg => ?_; case' _ => refine zCm ?_)
  all_goals refine zPk ?_
  all_goals (
    refine zN ?_
    refine awp_cond_t rfl zDec ?_
    refine zS ?_; refine zAs ?_; refine zN ?_; refine awp_ret ?_; refine seqQ_r ?_
    refine post_is (.tmp rfl .nil) zKeep rfl
    )
theorem rquorumN_con (c : List Mem) (s : Nat) (hs : s < 1024) : Con none Try.prog 15 [cv c, .i s] [] (Is (.b (quorumC c s)) []) := by
  have hcap : capB = 140737488355328 := rfl
  have hdl := declC_lt c
  refine con_intro Try.func15 rfl Try.call15 rfl ?_
  refine zS ?_
  refine aops_box rfl zFlat rfl rfl (fun b2 => ?_)
  refine zAs ?_; refine zN ?_; refine awp_seq ?_; refine zS ?_; refine zMv ?_
  refine aops_call_v zRc (rvalidn hs) rfl rfl ?_
  refine zNo ?_; refine zMv ?_
  all_goals first | (refine zY ?_; refine zMv ?_) | refine zU ?_ | refine zNf ?_ | (refine zGf (fun hg => ?_) fun hg => ?_; case' _ => refine zMv ?_)
  all_goals first | (refine zY ?_; refine zCm ?_) | refine zU ?_ | refine zNf ?_ | (refine zGf (fun hg => ?_) fun hg => ?_; case' _ => refine zCm ?_)
  all_goals refine zPk ?_
  all_goals refine zMv ?_
  all_goals first | (refine zY ?_; refine zMv ?_) | refine zU ?_ | refine zNf ?_ | (refine zGf (fun hg => ?_) fun hg => ?_; case' _ => refine zMv ?_)
  all_goals first | (refine zY ?_; refine zLd ?_) | refine zU ?_ | refine zNf ?_ | (refine zGf (fun hg => ?_) fun hg => ?_; case' _ => refine zLd ?_)
  all_goals first | (refine zY ?_; refine aops_call_v zRc (rdecl_con c) rfl rfl ?_) | refine zU ?_ | refine zNf ?_ | (refine zGf (fun hg => ?_) fun hg => ?_; case' _ => refine aops_call_v zRc (rdecl_con c) rfl rfl ?_)
  all_goals first | (refine zY ?_; refine zP (ap_bits rfl rfl rfl (by omega) (by omega)) ?_) | refine zU ?_ | refine zNf ?_ | (refine zGf (fun hg => ?_) fun hg => ?_; case' _ => refine zP (ap_bits rfl rfl rfl (by omega) (by omega)) ?_)
  all_goals first | (refine zY ?_; refine zMv ?_) | refine zU ?_ | refine zNf ?_ | (refine zGf (fun hg => ?_) fun hg => ?_; case' _ => refine zMv ?_)
  all_goals first | (refine zY ?_; refine zCm ?_) | refine zU ?_ | refine zNf ?_ | (refine zGf (fun hg => ?_) fun hg => ?_; case' _ => refine zCm ?_)
  all_goals refine zPk ?_
  all_goals (
    refine zN ?_
    refine zC (fun hc => ?_) fun hc => ?_
    · first
      | (exact absurd hc (by decide))
      | (refine awp_seq ?_
         refine awp_region ?_; refine zAs ?_; refine zN ?_; refine awp_ret ?_; refine seqQ_r ?_
         refine post_is (.tmp rfl .nil) zKeep ?_
         first
         | (rw [quorum_f2 (by with_reducible assumption)]; rfl)
         | (rw [quorum_out hs (of_neq_true (by with_reducible assumption))]; rfl)
        )
    · first
      | (exact absurd hc (by decide))
      | (have hin := in_of_and (of_neq_false hc)
         refine awp_skip ?_; refine seqQ_n ?_; refine awp_seq ?_; refine zS ?_; refine zMv ?_
         refine aops_call_v zRc (rNodes_con _) rfl rfl ?_
         first | refine aops_len rfl rfl rfl rfl (fun _ => ?_) | refine zP (ap_len_arr rfl zUpd rfl) ?_ | refine zP (ap_len_nil rfl rfl) ?_
         refine zMv ?_; refine zN ?_; refine awp_block ?_
         have hnl : ((nodesOf s).map D.i).length = (nodesOf s).length := by simp
         refine awp_loop1 [1, 2, 23, 24] [.box b2 _ _] (fun (k : Nat) r => (25, .i (k : Int)) :: r) (fun (k : Nat) r => r) (fun (k : Nat) => k ≤ (nodesOf s).length ∧ ∀ x ∈ (nodesOf s).take k, sat s (tOf c x) = true) (fun (k : Nat) => (nodesOf s).length - k) (0) zRc ⟨by omega, by simp⟩ (wk zSub zKeep) ?_
         intro k ⟨hk, hI⟩
         refine zS ?_; refine zCm ?_; refine zN ?_; refine awp_seq ?_
         refine zC (fun hc => ?_) fun hc => ?_
         · have hlt := of_decide_eq_true hc
           obtain ⟨x, hx, hd⟩ := drop_cons (l := nodesOf s) (k := k) (by omega)
           obtain ⟨j, y, rfl, hj, hy, hyd⟩ := hin.get hs (mem_nodesOf.1 (List.mem_of_getElem? hx))
           have hx' := getMap D.i hx
           have hy' := getMap mv hy
           have hxh := mem_nodesOf.1 (List.mem_of_getElem? hx)
           refine awp_skip ?_; refine seqQ_n ?_; refine awp_seq ?_; refine awp_block ?_; refine zS ?_
           first | refine zP (ap_index rfl rfl rfl rfl (by decide) rfl zAss) ?_ | refine zP (ap_index rfl rfl rfl rfl (by decide) (by omega) zAss) ?_ | refine zP (ap_index_own rfl rfl rfl rfl rfl (by first | omega | (simp only [List.length_map, List.length_set, avs_len]; omega))) ?_
           refine zL1 ?_; refine zAs ?_; refine zN (zS ?_); refine zF 0 1 false ?_; refine zL1 ?_; refine zMv ?_
           first | refine zP (ap_index rfl rfl rfl rfl (by decide) rfl zAss) ?_ | refine zP (ap_index rfl rfl rfl rfl (by decide) (by omega) zAss) ?_ | refine zP (ap_index_own rfl rfl rfl rfl rfl (by first | omega | (simp only [List.length_map, List.length_set, avs_len]; omega))) ?_
           refine zF 1 3 true ?_; refine zLd ?_; refine zMv ?_
           refine aops_call_b zRc (rsat_con _ y.t) rfl rfl (fun c36 hc36 => ?_)
           refine zNo ?_; refine zN ?_
           refine zC (fun hc => ?_) fun hc => ?_
           · refine awp_seq ?_
             refine awp_region ?_; refine zAs ?_; refine zN ?_; refine awp_ret ?_; refine blockQ_r ?_; refine seqQ_r ?_; refine seqQ_r ?_; refine blockQ_r ?_; refine seqQ_r ?_
             refine post_is (.tmp rfl .nil) zKeep ?_
             rw [quorum_bad hs hxh (by rw [tOf_get hy]; exact hc36.trans (not_t hc))]; rfl
           · refine awp_skip ?_
             refine blockQ_n ?_; refine seqQ_n ?_; refine awp_region ?_; refine zAr ?_; refine zMv ?_; refine zN ?_
             refine ⟨k + 1, ⟨by omega, fun z hz => ?_⟩, by omega, wk zSub zKeep⟩
             rw [List.take_add_one, hx] at hz
             rcases List.mem_append.1 hz with hz | hz
             · exact hI z hz
             · obtain rfl : z = (j : Int) := (by simpa using hz)
               rw [tOf_get hy]; exact hc36.trans (not_f hc)
         · have hge := of_decide_eq_false hc
           refine awp_exit ?_; refine seqQ_x ?_; refine seqQ_x ?_; refine blockQ_x rfl ?_; refine seqQ_n ?_; refine zS ?_; refine zAs ?_; refine zN ?_; refine awp_ret ?_
           refine post_is (.tmp rfl .nil) zKeep ?_
           rw [List.take_of_length_le (by omega)] at hI
           have hs0 := of_decide_eq_false (show decide ((s : Int) = 0) = false by with_reducible assumption)
           rw [(quorumC_iff hs).2 ⟨by omega, hin, fun x hx => hI x (mem_nodesOf.2 hx)⟩]; rfl
        )
    )
theorem rquorum_con (c : List Mem) (s : Int) : Con none Try.prog 15 [cv c, .i s] [] (Is (.b (quorumV c s)) []) := by
  cases h : valid s with
  | false => rw [quorumV_inval h]; exact rquorum0_con c s h
  | true =>
    obtain ⟨m, rfl, hm⟩ := valid_nat h
    rw [quorumV_nat hm]
    exact rquorumN_con c m hm
def blankT (t : Trust) : Bool := decide (t.th = 0) && (decide (t.nodes.length = 0) && decide (t.inner.length = 0))
theorem memV_0 {m : Mem} {n : Nat} {b : Bool} (h : m.decl = false) (hb : blankT m.t = b) : memV m n = if b = true then 0 else 1 := by
  unfold memV
  rw [h, ← hb]
  unfold blankT
  simp [and_assoc]
theorem blank_con (t : Trust) : Con none Try.prog 61 [av t] [] (Is (.b (blankT t)) []) := by
  have hcap : capB = 140737488355328 := rfl
  have hl1 : (t.nodes.map D.i).length = t.nodes.length := by simp
  have hl2 := avs_len t.inner
  refine con_intro Try.func61 rfl Try.call61 rfl ?_
  refine zS ?_
  refine aops_box rfl zFlat rfl rfl (fun b1 => ?_)
  refine zAs ?_; refine zN (zS ?_); refine zF 0 1 false ?_; refine zL1 ?_; refine zCm ?_; refine zMv ?_
  all_goals first | (refine zY ?_; refine zF 1 1 false ?_) | refine zU ?_ | refine zNt ?_ | (refine zGt (fun hg => ?_) fun hg => ?_; case' _ => refine zF 1 1 false ?_)
  all_goals first | (refine zY ?_; refine zL1 ?_) | refine zU ?_ | refine zNt ?_ | (refine zGt (fun hg => ?_) fun hg => ?_; case' _ => refine zL1 ?_)
  all_goals first | (refine zY ?_; (first | refine aops_len rfl rfl rfl rfl (fun _ => ?_) | refine zP (ap_len_arr rfl zUpd rfl) ?_ | refine zP (ap_len_nil rfl rfl) ?_)) | refine zU ?_ | refine zNt ?_ | (refine zGt (fun hg => ?_) fun hg => ?_; case' _ => (first | refine aops_len rfl rfl rfl rfl (fun _ => ?_) | refine zP (ap_len_arr rfl zUpd rfl) ?_ | refine zP (ap_len_nil rfl rfl) ?_))
  all_goals first | (refine zY ?_; (rw [hl1]; refine zCm ?_)) | refine zU ?_ | refine zNt ?_ | (refine zGt (fun hg => ?_) fun hg => ?_; case' _ => (rw [hl1]; refine zCm ?_))
  all_goals refine zPk ?_
  all_goals refine zMv ?_
  all_goals first | (refine zY ?_; refine zF 2 1 false ?_) | refine zU ?_ | refine zNt ?_ | (refine zGt (fun hg => ?_) fun hg => ?_; case' _ => refine zF 2 1 false ?_)
  all_goals first | (refine zY ?_; refine zL1 ?_) | refine zU ?_ | refine zNt ?_ | (refine zGt (fun hg => ?_) fun hg => ?_; case' _ => refine zL1 ?_)
  all_goals first | (refine zY ?_; (first | refine aops_len rfl rfl rfl rfl (fun _ => ?_) | refine zP (ap_len_arr rfl zUpd rfl) ?_ | refine zP (ap_len_nil rfl rfl) ?_)) | refine zU ?_ | refine zNt ?_ | (refine zGt (fun hg => ?_) fun hg => ?_; case' _ => (first | refine aops_len rfl rfl rfl rfl (fun _ => ?_) | refine zP (ap_len_arr rfl zUpd rfl) ?_ | refine zP (ap_len_nil rfl rfl) ?_))
  all_goals first | (refine zY ?_; (rw [hl2]; refine zCm ?_)) | refine zU ?_ | refine zNt ?_ | (refine zGt (fun hg => ?_) fun hg => ?_; case' _ => (rw [hl2]; refine zCm ?_))
  all_goals refine zPk ?_
  all_goals refine zAs ?_
  all_goals (
    refine zN ?_; refine awp_ret ?_
    refine post_is (.tmp rfl .nil) zKeep ?_
    unfold blankT
    first
    | (simp_all [resD]; done)
    | (have e1 : t.nodes = [] := by simpa using of_decide_eq_true (show decide (((t.nodes.length : Nat) : Int) = 0) = true by with_reducible assumption); simp_all [resD]; done)
    )
theorem member_con (m : Mem) (hm : sizeT m.t ≤ 1000000000) (n : Nat) (hn : n ≤ 10) : Con none Try.prog 52 [mv m, .i n] [] (Is (.i (memV m n)) []) := by
  have hcap : capB = 140737488355328 := rfl
  have hp10 := pow_le10 hn
  have hul := uses_lt m.t
  refine con_intro Try.func52 rfl Try.call52 rfl ?_
  refine zS ?_
  refine aops_box rfl zFlat rfl rfl (fun b2 => ?_)
  refine zAs ?_; refine zN ?_; refine awp_seq ?_; refine zS ?_; refine zF 0 1 false ?_; refine zL1 ?_; refine zNo ?_; refine zN ?_
  refine zC (fun hc => ?_) fun hc => ?_
  · have hdl : m.decl = false := not_t hc
    refine awp_seq ?_; refine zS ?_; refine zF 1 3 true ?_; refine zLd ?_
    refine aops_call_b zRc (blank_con m.t) rfl rfl (fun c11 hc11 => ?_)
    refine zNo ?_; refine zN ?_
    refine zC (fun hc => ?_) fun hc => ?_
    · refine awp_seq ?_
      refine awp_region ?_; refine zAs ?_; refine zN ?_; refine awp_ret ?_; refine seqQ_r ?_; refine seqQ_r ?_
      refine post_is (.tmp rfl .nil) .nil ?_
      rw [memV_0 hdl (hc11.trans (not_t hc))]; rfl
    · refine awp_skip ?_
      refine seqQ_n ?_; refine zS ?_; refine zAs ?_; refine zN ?_; refine awp_ret ?_; refine seqQ_r ?_
      refine post_is (.tmp rfl .nil) .nil ?_
      rw [memV_0 hdl (hc11.trans (not_f hc))]; rfl
  · have hdl : m.decl = true := not_f hc
    refine awp_skip ?_; refine seqQ_n ?_; refine awp_seq ?_; refine zS ?_; refine zF 1 3 true ?_; refine zLd ?_
    refine aops_call_v zRc (validT_con m.t hm) rfl rfl ?_
    refine zAs ?_; refine zN (zS ?_); refine zMv ?_; refine zCm ?_; refine zN ?_
    refine zC (fun hc => ?_) fun hc => ?_
    · have hv := of_neq_true hc
      refine zS ?_; refine zMv ?_; refine zAs ?_; refine zN ?_; refine awp_ret ?_; refine seqQ_r ?_
      refine post_is (.tmp rfl .nil) .nil ?_
      unfold memV; rw [if_pos hdl, if_neg hv]; rfl
    · have hv := of_neq_false hc
      refine awp_skip ?_; refine seqQ_n ?_; refine awp_seq ?_; refine awp_seq ?_
      refine awp_draw (Hm := []) zKr zSplit ?_
      refine zTF 0 1 3 true ?_; refine zTM 1 ?_
      refine zT 3 rfl (AP.ar (ap_move rfl)) ?_
      refine zT 4 rfl (AP.ar (ap_shl (p := 1) rfl rfl rfl (by omega) (by omega))) ?_
      refine aany_one 2 zKr rfl (.none rfl) ?_
      refine aops_call_v zRc (uses_con m.t) rfl rfl ?_
      refine aops_nil ?_
      refine zT 5 rfl (AP.ar (ap_cmp rfl rfl rfl)) ?_
      refine aany_nil zKr ?_
      all_goals (
        refine seqQ_n ?_
        refine zC (fun hc => ?_) fun hc => ?_
        · have hge := of_decide_eq_true hc
          refine zS ?_; refine zAs ?_; refine zN ?_; refine awp_ret ?_; refine seqQ_r ?_
          refine post_is (.tmp rfl .nil) .nil ?_
          unfold memV; rw [if_pos hdl, if_pos hv, if_pos (by omega)]; rfl
        · have hge := of_decide_eq_false hc
          refine awp_skip ?_; refine seqQ_n ?_; refine zS ?_; refine zAs ?_; refine zN ?_; refine awp_ret ?_
          refine post_is (.tmp rfl .nil) .nil ?_
          unfold memV; rw [if_pos hdl, if_pos hv, if_neg (by omega)]; rfl
        )
theorem validC_con (c : List Mem) (hs : ∀ m ∈ c, sizeT m.t ≤ 1000000000) : Con none Try.prog 40 [cv c] [] (Is (.i (validC c)) []) := by
  have hcap : capB = 140737488355328 := rfl
  have hml : (c.map mv).length = c.length := by simp
  refine con_intro Try.func40 rfl Try.call40 rfl ?_
  refine zS ?_
  refine aops_box rfl zFlat rfl rfl (fun b1 => ?_)
  refine zAs ?_; refine zN ?_; refine awp_seq ?_; refine zS ?_; refine zF 0 1 false ?_; refine zL1 ?_
  first | refine aops_len rfl rfl rfl rfl (fun _ => ?_) | refine zP (ap_len_arr rfl zUpd rfl) ?_ | refine zP (ap_len_nil rfl rfl) ?_
  refine zCm ?_; refine zN ?_
  refine zC (fun hc => ?_) fun hc => ?_
  · have hlen := of_decide_eq_true hc
    refine zS ?_; refine zAs ?_; refine zN ?_; refine awp_ret ?_; refine seqQ_r ?_
    refine post_is (.tmp rfl .nil) .nil ?_
    unfold validC; rw [if_pos (by omega)]; rfl
  · have hlen := of_decide_eq_false hc
    refine awp_skip ?_; refine seqQ_n ?_; refine awp_seq ?_; refine zS ?_; refine zF 0 1 false ?_; refine zL1 ?_
    first | refine aops_len rfl rfl rfl rfl (fun _ => ?_) | refine zP (ap_len_arr rfl zUpd rfl) ?_ | refine zP (ap_len_nil rfl rfl) ?_
    refine zMv ?_; refine zN ?_; refine awp_block ?_
    refine awp_loop1 [1, 11, 12] [.box b1 _ _] (fun (k : Nat) r => (13, .i (k : Int)) :: r) (fun (k : Nat) r => r) (fun (k : Nat) => k ≤ c.length ∧ memsV c.length (c.drop k) = memsV c.length c) (fun (k : Nat) => c.length - k) (0) zRc ⟨by omega, by simp⟩ (wk zSub zKeep) ?_
    intro k ⟨hk, hI⟩
    refine zS ?_; refine zCm ?_; refine zN ?_; refine awp_seq ?_
    refine zC (fun hc => ?_) fun hc => ?_
    · have hlt := of_decide_eq_true hc
      obtain ⟨x, hx, hd⟩ := drop_cons (l := c) (k := k) (by omega)
      have hx' := getMap mv hx
      refine awp_skip ?_; refine seqQ_n ?_; refine awp_seq ?_; refine awp_block ?_; refine zS ?_
      first | refine zP (ap_index rfl rfl rfl rfl (by decide) rfl zAss) ?_ | refine zP (ap_index rfl rfl rfl rfl (by decide) (by omega) zAss) ?_ | refine zP (ap_index_own rfl rfl rfl rfl rfl (by first | omega | (simp only [List.length_map, List.length_set, avs_len]; omega))) ?_
      refine zLd ?_
      refine aops_alloc rfl zRc rfl rfl (fun b4 => ?_)
      refine zSt ?_; refine zN (zS ?_); refine zLd ?_; refine zF 0 1 false ?_; refine zL1 ?_
      first | refine aops_len rfl rfl rfl rfl (fun _ => ?_) | refine zP (ap_len_arr rfl zUpd rfl) ?_ | refine zP (ap_len_nil rfl rfl) ?_
      (rw [hml]; refine aops_call_v zRc (member_con x (hs x (List.mem_of_getElem? hx)) c.length (by omega)) rfl rfl ?_)
      refine zAs ?_; refine zN (zS ?_); refine zMv ?_; refine zCm ?_; refine zN ?_
      refine zC (fun hc => ?_) fun hc => ?_
      · refine awp_seq ?_
        refine awp_region ?_; refine zMv ?_; refine zAs ?_; refine zN ?_; refine awp_ret ?_; refine blockQ_r ?_; refine seqQ_r ?_; refine seqQ_r ?_; refine blockQ_r ?_; refine seqQ_r ?_
        refine post_is (.tmp rfl .nil) .nil ?_
        rw [hd] at hI; simp only [memsV] at hI
        rw [if_neg (of_neq_true hc)] at hI
        unfold validC; rw [if_neg (by omega), ← hI]; rfl
      · refine awp_skip ?_
        refine blockQ_n ?_; refine seqQ_n ?_; refine awp_region ?_; refine zAr ?_; refine zMv ?_; refine zN ?_
        rw [hd] at hI; simp only [memsV] at hI
        rw [if_pos (of_neq_false hc)] at hI
        refine ⟨k + 1, ⟨by omega, hI⟩, by omega, wk zSub zKeep⟩
    · have hge := of_decide_eq_false hc
      rw [drop_nil (by omega)] at hI; simp only [memsV] at hI
      refine awp_exit ?_; refine seqQ_x ?_; refine seqQ_x ?_; refine blockQ_x rfl ?_; refine seqQ_n ?_; refine zS ?_; refine zAs ?_; refine zN ?_; refine awp_ret ?_
      refine post_is (.tmp rfl .nil) .nil ?_
      unfold validC; rw [if_neg (by omega), ← hI]; rfl
theorem v32 : validC (sameC 3 2) = 0 := same_valid (by omega) (by omega)
theorem a32 : aloneC (sameC 3 2) 0 = false := by kernel_rfl
theorem lower_con (k : Int) : Con none Try.prog 60 [.i k] [] (Is (.i (lw k)) []) := by
  have hcap : capB = 140737488355328 := rfl
  refine con_intro Try.func60 rfl Try.call60 rfl ?_
  refine zS ?_; refine zAs ?_; refine zN ?_; refine awp_seq ?_; refine zS ?_; refine zMv ?_; refine zCm ?_; refine zN ?_
  refine zC (fun hc => ?_) fun hc => ?_
  · refine awp_seq ?_
    refine awp_region ?_; refine zMv ?_; refine zAs ?_; refine zN ?_; refine awp_ret ?_; refine seqQ_r ?_
    refine post_is (.tmp rfl .nil) .nil ?_
    unfold lw; rw [if_pos (of_decide_eq_true hc)]; rfl
  · refine awp_skip ?_
    refine seqQ_n ?_; refine zS ?_; refine zMv ?_
    refine zP (ap_arithw rfl rfl rfl) ?_
    refine zAs ?_; refine zN ?_; refine awp_ret ?_
    refine post_is (.tmp rfl .nil) .nil ?_
    unfold lw; rw [if_neg (of_decide_eq_false hc)]; rfl
theorem less_mk {s : Int} {t : Trust} {th th2 : Int} {q : List Int} {q2 : List Trust} (h1 : lessN s t.nodes t.th [] = (th, q)) (h2 : lessI s t.inner th [] = (th2, q2)) : less s t = .mk th2 q q2 := by unfold less; rw [h1, h2]
theorem less_con (s : Int) : ∀ (t : Trust), sizeT t ≤ 200000 → Con none Try.prog 50 [av t, .i s] [] (Is (av (less s t)) []) := by
  have hcap : capB = 140737488355328 := rfl
  intro t
  induction t using Trust.ind with
  | _ t ih =>
    have hl1 : (t.nodes.map D.i).length = t.nodes.length := by simp
    have hl2 := avs_len t.inner
    intro hsz
    have hs0 : sizeT t = t.nodes.length + t.inner.length + sizeL t.inner := rfl
    refine con_intro Try.func50 rfl Try.call50 rfl ?_
    refine zS ?_
    refine aops_box rfl zFlat rfl rfl (fun b2 => ?_)
    refine aops_alloc rfl zRc rfl rfl (fun b4 => ?_)
    refine zN (zS ?_); refine zF 0 1 false ?_; refine zL1 ?_
    refine zP (ap_build zKr rfl zRc zFill) ?_
    refine aops_alloc rfl zRc rfl rfl (fun b5 => ?_)
    refine zSt ?_; refine zN ?_; refine awp_seq ?_; refine zS ?_; refine zF 1 1 false ?_; refine zL1 ?_
    first | refine aops_len rfl rfl rfl rfl (fun _ => ?_) | refine zP (ap_len_arr rfl zUpd rfl) ?_ | refine zP (ap_len_nil rfl rfl) ?_
    refine zMv ?_; refine zN ?_; refine awp_block ?_
    refine awp_loop4 [1, 2, 4, 5, 15, 16] [.box b4 _ _, .box b2 _ _] (fun (k : Nat) (v : Value) (th : Int) (q : List Int) r => (17, .i (k : Int)) :: r) (fun (k : Nat) (v : Value) (th : Int) (q : List Int) r => .box b5 52 [.i th, .v v, .nil] :: .arr v 3 1 (q.map .i) :: r) (fun (k : Nat) (v : Value) (th : Int) (q : List Int) => k ≤ t.nodes.length ∧ q.length ≤ k ∧ lessN s (t.nodes.drop k) th q = lessN s t.nodes t.th []) (fun (k : Nat) (v : Value) (th : Int) (q : List Int) => t.nodes.length - k) (0) (.slice none 0 0) (t.th) ([]) zRc ⟨by omega, by simp, by simp⟩ ((wk_own 3 1 rfl).trans (wk zSub zKeep)) ?_
    intro k v th q ⟨hk, hql, hI⟩
    have hml : (q.map D.i).length = q.length := by simp
    refine zS ?_; refine zCm ?_; refine zN ?_; refine awp_seq ?_
    refine zC (fun hc => ?_) fun hc => ?_
    · have hlt := of_decide_eq_true hc
      obtain ⟨x, hx, hd⟩ := drop_cons (l := t.nodes) (k := k) (by omega)
      have hx' := getMap D.i hx
      refine awp_skip ?_; refine seqQ_n ?_; refine awp_seq ?_; refine awp_block ?_; refine zS ?_
      first | refine zP (ap_index rfl rfl rfl rfl (by decide) rfl zAss) ?_ | refine zP (ap_index rfl rfl rfl rfl (by decide) (by omega) zAss) ?_ | refine zP (ap_index_own rfl rfl rfl rfl rfl (by first | omega | (simp only [List.length_map, List.length_set, avs_len]; omega))) ?_
      refine zL1 ?_; refine zAs ?_; refine zN (zS ?_); refine zMv ?_; refine zMv ?_
      refine aops_call_b zRc (rhas_con s x) rfl rfl (fun c23 hc23 => ?_)
      refine zN ?_
      refine zC (fun hc => ?_) fun hc => ?_
      · refine awp_region ?_
        refine zF 0 1 false ?_; refine zL1 ?_
        refine aops_call_v zRc (lower_con _) rfl rfl ?_
        refine zF 0 1 false ?_; refine zSt ?_; refine aops_nil ?_; refine blockQ_n ?_; refine seqQ_n ?_; refine awp_region ?_; refine zAr ?_; refine zMv ?_; refine zN ?_
        rw [hd] at hI; simp only [lessN] at hI
        first
        | (rw [if_pos (hc23.trans hc)] at hI; refine ⟨k + 1, v, lw th, q, ⟨by omega, by omega, hI⟩, by omega, wk zSub zKeep⟩)
        | (rw [if_neg (fun e => by rw [hc23.trans hc] at e; cases e)] at hI; rw [mapi_snoc]; refine ⟨k + 1, _, th, q ++ [x], ⟨by omega, by simp only [List.length_append, List.length_cons, List.length_nil]; omega, hI⟩, by omega, wk zSub zKeep⟩)
      · refine awp_region ?_
        refine zF 1 1 false ?_; refine zL1 ?_; refine zMv ?_
        refine aops_lit (e := 3) (sz := 1) (by_ := 8) rfl rfl zRc rfl rfl rfl rfl ?_
        first | refine aops_append (e := 3) (sz := 1) (by_ := 8) rfl zUpd rfl rfl rfl rfl rfl zLen (fun v32 hv32 => ?_) | refine aops_append_nil (e := 3) (sz := 1) (by_ := 8) rfl rfl rfl rfl rfl rfl zLen (fun v32 hv32 => ?_)
        refine zF 1 1 false ?_; refine zSt ?_; refine aops_nil ?_; refine blockQ_n ?_; refine seqQ_n ?_; refine awp_region ?_; refine zAr ?_; refine zMv ?_; refine zN ?_
        rw [hd] at hI; simp only [lessN] at hI
        first
        | (rw [if_pos (hc23.trans hc)] at hI; refine ⟨k + 1, v, lw th, q, ⟨by omega, by omega, hI⟩, by omega, wk zSub zKeep⟩)
        | (rw [if_neg (fun e => by rw [hc23.trans hc] at e; cases e)] at hI; rw [mapi_snoc]; refine ⟨k + 1, _, th, q ++ [x], ⟨by omega, by simp only [List.length_append, List.length_cons, List.length_nil]; omega, hI⟩, by omega, wk zSub zKeep⟩)
    · have hge := of_decide_eq_false hc
      have hN : lessN s t.nodes t.th [] = (th, q) := by rw [drop_nil (by omega)] at hI; exact hI.symm
      refine awp_exit ?_; refine seqQ_x ?_; refine seqQ_x ?_; refine blockQ_x rfl ?_; refine seqQ_n ?_; refine awp_seq ?_; refine zS ?_; refine zF 2 1 false ?_; refine zL1 ?_
      first | refine aops_len rfl rfl rfl rfl (fun _ => ?_) | refine zP (ap_len_arr rfl zUpd rfl) ?_ | refine zP (ap_len_nil rfl rfl) ?_
      refine zMv ?_; refine zN ?_; refine awp_block ?_
      refine awp_loop4 [1, 4, 5, 36, 37] [.box b4 _ _, .box b2 _ _, .arr v 3 1 (q.map .i)] (fun (k : Nat) (v2 : Value) (th2 : Int) (q2 : List Trust) r => (38, .i (k : Int)) :: r) (fun (k : Nat) (v2 : Value) (th2 : Int) (q2 : List Trust) r => .box b5 52 [.i th2, .v v, .v v2] :: .arr v2 52 3 (avs q2) :: r) (fun (k : Nat) (v2 : Value) (th2 : Int) (q2 : List Trust) => k ≤ t.inner.length ∧ q2.length ≤ k ∧ lessI s (t.inner.drop k) th2 q2 = lessI s t.inner th []) (fun (k : Nat) (v2 : Value) (th2 : Int) (q2 : List Trust) => t.inner.length - k) (0) (.slice none 0 0) (th) ([]) zRc ⟨by omega, by simp, by simp⟩ ((wk_own 52 3 rfl).trans (wk zSub zKeep)) ?_
      intro k v2 th2 q2 ⟨hk, hql2, hI2⟩
      have hal : (avs q2).length = q2.length := avs_len _
      refine zS ?_; refine zCm ?_; refine zN ?_; refine awp_seq ?_
      refine zC (fun hc => ?_) fun hc => ?_
      · have hlt := of_decide_eq_true hc
        obtain ⟨y, hy, hd⟩ := drop_cons (l := t.inner) (k := k) (by omega)
        have hy' := avs_get hy
        have hym := List.mem_of_getElem? hy
        refine awp_skip ?_; refine seqQ_n ?_; refine awp_seq ?_; refine awp_block ?_; refine zS ?_
        first | refine zP (ap_index rfl rfl rfl rfl (by decide) rfl zAss) ?_ | refine zP (ap_index rfl rfl rfl rfl (by decide) (by omega) zAss) ?_ | refine zP (ap_index_own rfl rfl rfl rfl rfl (by first | omega | (simp only [List.length_map, List.length_set, avs_len]; omega))) ?_
        refine zLd ?_
        refine aops_alloc rfl zRc rfl rfl (fun b9 => ?_)
        refine zSt ?_; refine zN (zS ?_); refine zLd ?_; refine zMv ?_
        refine aops_call_v zRc (ih y hym (by have := sizeL_mem hym; omega)) rfl rfl ?_
        refine aops_alloc rfl zRc rfl rfl (fun b10 => ?_)
        refine zSt ?_; refine zN (zS ?_); refine zF 0 1 false ?_; refine zL1 ?_; refine zCm ?_; refine zN ?_
        refine zC (fun hc => ?_) fun hc => ?_
        · refine awp_region ?_
          refine zF 0 1 false ?_; refine zL1 ?_
          refine aops_call_v zRc (lower_con _) rfl rfl ?_
          refine zF 0 1 false ?_; refine zSt ?_; refine aops_nil ?_; refine blockQ_n ?_; refine seqQ_n ?_; refine awp_region ?_; refine zAr ?_; refine zMv ?_; refine zN ?_
          rw [hd, lessI_cons] at hI2
          first
          | (rw [if_pos (of_decide_eq_true hc)] at hI2; refine ⟨k + 1, v2, lw th2, q2, ⟨by omega, by omega, hI2⟩, by omega, wk zSub zKeep⟩)
          | (rw [if_neg (of_decide_eq_false hc)] at hI2; rw [show D.agg [.i (less s y).th, .sl 1 ((less s y).nodes.map .i), .sl 3 (avs (less s y).inner)] = av (less s y) from rfl, avs_snoc]; refine ⟨k + 1, _, th2, q2 ++ [less s y], ⟨by omega, by simp only [List.length_append, List.length_cons, List.length_nil]; omega, hI2⟩, by omega, wk zSub zKeep⟩)
        · refine awp_region ?_
          refine zF 2 1 false ?_; refine zL1 ?_; refine zLd ?_
          refine aops_lit (e := 52) (sz := 3) (by_ := 56) rfl rfl zRc rfl rfl rfl rfl ?_
          first | refine aops_append (e := 52) (sz := 3) (by_ := 56) rfl zUpd rfl rfl rfl rfl rfl zLen (fun v56 hv56 => ?_) | refine aops_append_nil (e := 52) (sz := 3) (by_ := 56) rfl rfl rfl rfl rfl rfl zLen (fun v56 hv56 => ?_)
          refine zF 2 1 false ?_; refine zSt ?_; refine aops_nil ?_; refine blockQ_n ?_; refine seqQ_n ?_; refine awp_region ?_; refine zAr ?_; refine zMv ?_; refine zN ?_
          rw [hd, lessI_cons] at hI2
          first
          | (rw [if_pos (of_decide_eq_true hc)] at hI2; refine ⟨k + 1, v2, lw th2, q2, ⟨by omega, by omega, hI2⟩, by omega, wk zSub zKeep⟩)
          | (rw [if_neg (of_decide_eq_false hc)] at hI2; rw [show D.agg [.i (less s y).th, .sl 1 ((less s y).nodes.map .i), .sl 3 (avs (less s y).inner)] = av (less s y) from rfl, avs_snoc]; refine ⟨k + 1, _, th2, q2 ++ [less s y], ⟨by omega, by simp only [List.length_append, List.length_cons, List.length_nil]; omega, hI2⟩, by omega, wk zSub zKeep⟩)
      · have hge := of_decide_eq_false hc
        have hL : lessI s t.inner th [] = (th2, q2) := by rw [drop_nil (by omega)] at hI2; exact hI2.symm
        refine awp_exit ?_; refine seqQ_x ?_; refine seqQ_x ?_; refine blockQ_x rfl ?_; refine seqQ_n ?_; refine zS ?_; refine zLd ?_; refine zSt ?_; refine zN ?_
        refine awp_freeze v [4] zRem zSelC zHeapA ?_; refine awp_freeze v2 [4] zRem zSelC zHeapA ?_
        refine awp_ret ?_
        refine post_is (.cell rfl zUpd rfl rfl .nil) zKeep ?_
        rw [less_mk hN hL]; rfl
theorem delT_con (t : Trust) (k : Int) (s : Nat) (hs : s < 1024) (hsz : sizeT t ≤ 200000) : Con none Try.prog 33 [av t, .i k, .i s] [] (Is (av (delT s k t)) []) := by
  have hcap : capB = 140737488355328 := rfl
  refine con_intro Try.func33 rfl Try.call33 rfl ?_
  refine zS ?_
  refine aops_box rfl zFlat rfl rfl (fun b3 => ?_)
  refine aops_alloc rfl zRc rfl rfl (fun b6 => ?_)
  refine zN ?_; refine awp_seq ?_; refine zS ?_; refine zMv ?_
  refine aops_call_v zRc (rvalidn hs) rfl rfl ?_
  refine zNo ?_; refine zN ?_
  refine awp_cond_f rfl zDec ?_
  refine awp_skip ?_; refine seqQ_n ?_; refine zS ?_; refine zLd ?_; refine zMv ?_
  refine aops_call_v zRc (less_con s t hsz) rfl rfl ?_
  refine aops_alloc rfl zRc rfl rfl (fun b7 => ?_)
  refine zSt ?_; refine zN ?_; refine awp_seq ?_; refine zS ?_; refine zF 0 1 false ?_; refine zL1 ?_; refine zCm ?_; refine zN ?_
  refine zC (fun hc => ?_) fun hc => ?_
  · have hle := of_decide_eq_true hc
    refine zS ?_; refine zMv ?_
    refine aops_lit (e := 3) (sz := 1) (by_ := 8) rfl rfl zRc rfl rfl rfl rfl ?_
    refine zP (ap_build zKr rfl zRc zFill) ?_
    refine zSt ?_; refine zN ?_
    refine awp_unnil [6] 3 rfl zSelC zHeapA ?_
    refine awp_ret ?_; refine seqQ_r ?_
    refine post_is (.cell rfl zUpd rfl rfl .nil) zKeep ?_
    unfold delT; rw [if_pos hle]; rfl
  · have hle := of_decide_eq_false hc
    refine awp_skip ?_; refine seqQ_n ?_; refine zS ?_; refine zLd ?_; refine zSt ?_; refine zN ?_; refine awp_ret ?_
    refine post_is (.cell rfl zUpd rfl rfl .nil) zKeep ?_
    unfold delT; rw [if_neg hle]; rfl
theorem delM_1 {s : Int} {k : Nat} {m : Mem} (h : has s k = true) : delM s k m = ⟨false, Trust.none⟩ := by unfold delM; rw [if_pos h]
theorem delM_2 {s : Int} {k : Nat} {m : Mem} (h : has s k = false) (hd : m.decl = true) : delM s k m = ⟨m.decl, delT s k m.t⟩ := by unfold delM; rw [if_neg (by rw [h]; decide), if_pos hd, hd]
theorem delM_3 {s : Int} {k : Nat} {m : Mem} (h : has s k = false) (hd : m.decl = false) : delM s k m = m := by unfold delM; rw [if_neg (by rw [h]; decide), if_neg (by rw [hd]; decide)]
theorem del_next {s : Int} {k : Nat} {x : Mem} {c l l' q : List Mem} (hd : l = x :: l') (hI : q ++ delGo s k l = delC c s) : (q ++ [delM s k x]) ++ delGo s (k + 1) l' = delC c s := by rw [← hI, hd]; simp [delGo]
theorem del_con (c : List Mem) (hcl : c.length ≤ 10) (s : Nat) (hs : s < 1024) (hsz : ∀ m ∈ c, sizeT m.t ≤ 200000) : Con none Try.prog 14 [cv c, .i s] [] (Is (cv (delC c s)) []) := by
  have hcap : capB = 140737488355328 := rfl
  have hml : (c.map mv).length = c.length := by simp
  refine con_intro Try.func14 rfl Try.call14 rfl ?_
  refine zS ?_
  refine aops_box rfl zFlat rfl rfl (fun b2 => ?_)
  refine aops_alloc rfl zRc rfl rfl (fun b4 => ?_)
  refine zN ?_; refine awp_seq ?_; refine zS ?_; refine zMv ?_
  refine aops_call_v zRc (rvalidn hs) rfl rfl ?_
  refine zNo ?_; refine zN ?_
  refine awp_cond_f rfl zDec ?_
  refine awp_skip ?_; refine seqQ_n ?_; refine zS ?_
  refine aops_alloc rfl zRc rfl rfl (fun b5 => ?_)
  refine zN ?_; refine awp_seq ?_; refine zS ?_; refine zF 0 1 false ?_; refine zL1 ?_
  first | refine aops_len rfl rfl rfl rfl (fun _ => ?_) | refine zP (ap_len_arr rfl zUpd rfl) ?_ | refine zP (ap_len_nil rfl rfl) ?_
  refine zMv ?_; refine zN ?_; refine awp_block ?_
  refine awp_loop3 [1, 4, 5, 13, 14] [.box b4 _ _, .box b2 _ _] (fun (k : Nat) (v : Value) (q : List Mem) r => (15, .i (k : Int)) :: r) (fun (k : Nat) (v : Value) (q : List Mem) r => .box b5 28 [.v v] :: .arr v 56 4 (q.map mv) :: r) (fun (k : Nat) (v : Value) (q : List Mem) => k ≤ c.length ∧ q.length = k ∧ q ++ delGo s k (c.drop k) = delC c s) (fun (k : Nat) (v : Value) (q : List Mem) => c.length - k) (0) (.slice none 0 0) ([]) zRc ⟨by omega, rfl, by simp [delC]⟩ ((wk_own 56 4 rfl).trans (wk zSub zKeep)) ?_
  intro k v q ⟨hk, hql, hI⟩
  have hqm : (q.map mv).length = q.length := by simp
  refine zS ?_; refine zCm ?_; refine zN ?_; refine awp_seq ?_
  refine zC (fun hc => ?_) fun hc => ?_
  · have hlt := of_decide_eq_true hc
    obtain ⟨x, hx, hd⟩ := drop_cons (l := c) (k := k) (by omega)
    have hx' := getMap mv hx
    refine awp_skip ?_; refine seqQ_n ?_; refine awp_seq ?_; refine awp_block ?_; refine zS ?_; refine zMv ?_
    first | refine zP (ap_index rfl rfl rfl rfl (by decide) rfl zAss) ?_ | refine zP (ap_index rfl rfl rfl rfl (by decide) (by omega) zAss) ?_ | refine zP (ap_index_own rfl rfl rfl rfl rfl (by first | omega | (simp only [List.length_map, List.length_set, avs_len]; omega))) ?_
    refine zLd ?_
    refine aops_alloc rfl zRc rfl rfl (fun b7 => ?_)
    refine zAs ?_; refine zSt ?_; refine zN ?_; refine awp_seq ?_; refine awp_block ?_; refine zS ?_; refine zMv ?_; refine zMv ?_
    refine aops_call_b zRc (rhas_con s k) rfl rfl (fun c23 hc23 => ?_)
    refine zAs ?_; refine zN ?_
    refine zC (fun hc => ?_) fun hc => ?_
    · refine awp_region ?_
      refine zP (ap_build zKr rfl zRc zFill) ?_
      refine zSt ?_; refine aops_nil ?_; refine blockQ_n ?_; refine seqQ_n ?_; refine awp_region ?_; refine zF 0 1 false ?_; refine zL1 ?_; refine zLd ?_
      refine aops_unnil [1,4,5,13,14,15,35,36] 1 rfl rfl (by repeat (first | exact SelC.nil | apply SelC.cons rfl (Cv.agg (CvL.cons Cv.same (CvL.cons Cv.same (CvL.cons Cv.fz (CvL.cons Cv.same CvL.nil))))) | apply SelC.cons rfl Cv.same)) zHeapS ?_; refine aops_unnil [1,4,5,13,14,15,35,36] 3 rfl rfl zSelC zHeapS ?_; refine aops_lit (e := 56) (sz := 4) (by_ := 64) rfl rfl zRc rfl rfl rfl rfl ?_
      first | refine aops_append (e := 56) (sz := 4) (by_ := 64) rfl zUpd rfl rfl rfl rfl rfl (by simp only [List.length_cons, List.length_nil, List.length_append, List.length_map]; omega) (fun v38 hv38 => ?_) | refine aops_append_nil (e := 56) (sz := 4) (by_ := 64) rfl rfl rfl rfl rfl rfl (by simp only [List.length_cons, List.length_nil, List.length_append, List.length_map]; omega) (fun v38 hv38 => ?_)
      refine zF 0 1 false ?_; refine zSt ?_; refine aops_nil ?_; refine blockQ_n ?_; refine seqQ_n ?_; refine awp_region ?_; refine zAr ?_; refine zMv ?_; refine zN ?_
      first
      | (refine ⟨k + 1, v38, q ++ [delM s k x], ⟨by omega, by simp only [List.length_append, List.length_cons, List.length_nil]; omega, del_next hd hI⟩, by omega, ?_⟩; rw [← mv_snoc, delM_1 (hc23.trans (by with_reducible assumption))]; exact (wk zSub zKeep))
      | (refine ⟨k + 1, v38, q ++ [delM s k x], ⟨by omega, by simp only [List.length_append, List.length_cons, List.length_nil]; omega, del_next hd hI⟩, by omega, ?_⟩; rw [← mv_snoc, delM_2 (hc23.trans (by with_reducible assumption)) (by with_reducible assumption)]; exact (wk zSub zKeep))
      | (refine ⟨k + 1, v38, q ++ [delM s k x], ⟨by omega, by simp only [List.length_append, List.length_cons, List.length_nil]; omega, del_next hd hI⟩, by omega, ?_⟩; rw [← mv_snoc, delM_3 (hc23.trans (by with_reducible assumption)) (by with_reducible assumption)]; exact (wk zSub zKeep))
    · refine awp_seq ?_
      refine awp_region ?_; refine zF 0 1 false ?_; refine zL1 ?_; refine zAs ?_; refine zN ?_
      refine zC (fun hc => ?_) fun hc => ?_
      · refine awp_region ?_
        refine zF 1 3 true ?_; refine zLd ?_; refine zMv ?_; refine zMv ?_
        refine aops_call_v zRc (delT_con x.t k s hs (hsz x (List.mem_of_getElem? hx))) rfl rfl ?_
        refine zF 1 3 true ?_; refine zSt ?_; refine aops_nil ?_; refine blockQ_n ?_; refine seqQ_n ?_; refine awp_region ?_; refine zF 0 1 false ?_; refine zL1 ?_; refine zLd ?_
        refine aops_unnil [1,4,5,13,14,15,35,36] 1 rfl rfl (by repeat (first | exact SelC.nil | apply SelC.cons rfl (Cv.agg (CvL.cons Cv.same (CvL.cons Cv.same (CvL.cons Cv.fz (CvL.cons Cv.same CvL.nil))))) | apply SelC.cons rfl Cv.same)) zHeapS ?_; refine aops_unnil [1,4,5,13,14,15,35,36] 3 rfl rfl zSelC zHeapS ?_; refine aops_lit (e := 56) (sz := 4) (by_ := 64) rfl rfl zRc rfl rfl rfl rfl ?_
        first | refine aops_append (e := 56) (sz := 4) (by_ := 64) rfl zUpd rfl rfl rfl rfl rfl (by simp only [List.length_cons, List.length_nil, List.length_append, List.length_map]; omega) (fun v38 hv38 => ?_) | refine aops_append_nil (e := 56) (sz := 4) (by_ := 64) rfl rfl rfl rfl rfl rfl (by simp only [List.length_cons, List.length_nil, List.length_append, List.length_map]; omega) (fun v38 hv38 => ?_)
        refine zF 0 1 false ?_; refine zSt ?_; refine aops_nil ?_; refine blockQ_n ?_; refine seqQ_n ?_; refine awp_region ?_; refine zAr ?_; refine zMv ?_; refine zN ?_
        first
        | (refine ⟨k + 1, v38, q ++ [delM s k x], ⟨by omega, by simp only [List.length_append, List.length_cons, List.length_nil]; omega, del_next hd hI⟩, by omega, ?_⟩; rw [← mv_snoc, delM_1 (hc23.trans (by with_reducible assumption))]; exact (wk zSub zKeep))
        | (refine ⟨k + 1, v38, q ++ [delM s k x], ⟨by omega, by simp only [List.length_append, List.length_cons, List.length_nil]; omega, del_next hd hI⟩, by omega, ?_⟩; rw [← mv_snoc, delM_2 (hc23.trans (by with_reducible assumption)) (by with_reducible assumption)]; exact (wk zSub zKeep))
        | (refine ⟨k + 1, v38, q ++ [delM s k x], ⟨by omega, by simp only [List.length_append, List.length_cons, List.length_nil]; omega, del_next hd hI⟩, by omega, ?_⟩; rw [← mv_snoc, delM_3 (hc23.trans (by with_reducible assumption)) (by with_reducible assumption)]; exact (wk zSub zKeep))
      · refine awp_skip ?_
        refine blockQ_n ?_; refine seqQ_n ?_; refine awp_region ?_; refine zF 0 1 false ?_; refine zL1 ?_; refine zLd ?_
        refine aops_unnil [1,4,5,13,14,15,35,36] 1 rfl rfl (by repeat (first | exact SelC.nil | apply SelC.cons rfl (Cv.agg (CvL.cons Cv.same (CvL.cons Cv.same (CvL.cons Cv.fz (CvL.cons Cv.same CvL.nil))))) | apply SelC.cons rfl Cv.same)) zHeapS ?_; refine aops_unnil [1,4,5,13,14,15,35,36] 3 rfl rfl zSelC zHeapS ?_; refine aops_lit (e := 56) (sz := 4) (by_ := 64) rfl rfl zRc rfl rfl rfl rfl ?_
        first | refine aops_append (e := 56) (sz := 4) (by_ := 64) rfl zUpd rfl rfl rfl rfl rfl (by simp only [List.length_cons, List.length_nil, List.length_append, List.length_map]; omega) (fun v38 hv38 => ?_) | refine aops_append_nil (e := 56) (sz := 4) (by_ := 64) rfl rfl rfl rfl rfl rfl (by simp only [List.length_cons, List.length_nil, List.length_append, List.length_map]; omega) (fun v38 hv38 => ?_)
        refine zF 0 1 false ?_; refine zSt ?_; refine aops_nil ?_; refine blockQ_n ?_; refine seqQ_n ?_; refine awp_region ?_; refine zAr ?_; refine zMv ?_; refine zN ?_
        first
        | (refine ⟨k + 1, v38, q ++ [delM s k x], ⟨by omega, by simp only [List.length_append, List.length_cons, List.length_nil]; omega, del_next hd hI⟩, by omega, ?_⟩; rw [← mv_snoc, delM_1 (hc23.trans (by with_reducible assumption))]; exact (wk zSub zKeep))
        | (refine ⟨k + 1, v38, q ++ [delM s k x], ⟨by omega, by simp only [List.length_append, List.length_cons, List.length_nil]; omega, del_next hd hI⟩, by omega, ?_⟩; rw [← mv_snoc, delM_2 (hc23.trans (by with_reducible assumption)) (by with_reducible assumption)]; exact (wk zSub zKeep))
        | (refine ⟨k + 1, v38, q ++ [delM s k x], ⟨by omega, by simp only [List.length_append, List.length_cons, List.length_nil]; omega, del_next hd hI⟩, by omega, ?_⟩; rw [← mv_snoc, delM_3 (hc23.trans (by with_reducible assumption)) (by with_reducible assumption)]; exact (wk zSub zKeep))
  · have hge := of_decide_eq_false hc
    have hF : q = delC c s := by rw [drop_nil (by omega)] at hI; simpa [delGo] using hI
    refine awp_exit ?_; refine seqQ_x ?_; refine seqQ_x ?_; refine blockQ_x rfl ?_; refine seqQ_n ?_; refine zS ?_; refine zLd ?_; refine zSt ?_; refine zN ?_
    refine awp_freeze v [4] zRem zSelC zHeapA ?_
    refine awp_ret ?_
    refine post_is (.cell rfl zUpd rfl rfl .nil) zKeep ?_
    rw [← hF]; rfl
/-- The thresholds are not negative, and no giants. -/
abbrev TB (k : Int) : Prop := 0 ≤ k ∧ k ≤ 1000000000000
inductive NN : Trust → Prop
  | mk {th : Int} {q : List Int} {i : List Trust} (h : TB th) (hi : ∀ y ∈ i, NN y) : NN (.mk th q i)
theorem lw_nn {k : Int} (h : TB k) : TB (lw k) ∧ max k 1 - 1 = lw k := by
  obtain ⟨h1, h2⟩ := h
  unfold lw TB
  split
  · omega
  · rw [wrap_id (by omega) (by omega)]; omega
theorem lessN_nn {s : Int} : ∀ (l : List Int) (th : Int) (q : List Int), TB th → TB (lessN s l th q).1
  | [], th, q, h => by simpa [lessN] using h
  | x :: l, th, q, h => by
    simp only [lessN]
    split
    · exact lessN_nn l _ _ (lw_nn h).1
    · exact lessN_nn l _ _ h
theorem lessI_nn {s : Int} : ∀ (l : List Trust) (th : Int) (q : List Trust), TB th → TB (lessI s l th q).1
  | [], th, q, h => by simpa [lessI] using h
  | x :: l, th, q, h => by
    rw [lessI_cons]
    split
    · exact lessI_nn l _ _ (lw_nn h).1
    · exact lessI_nn l _ _ h
theorem less_nn {s : Int} {t : Trust} (h : NN t) : TB (less s t).th :=
  lessI_nn t.inner _ [] (lessN_nn t.nodes t.th [] h.th)
theorem lowered_con (k : Int) (h : TB k) : Con none Try.prog 65 [.i k, .i 1] [] (Is (.i (lw k)) []) := by
  have hcap : capB = 140737488355328 := rfl
  have h2 := (lw_nn h).2
  obtain ⟨h0, h1⟩ := h
  refine con_intro Try.func65 rfl Try.call65 rfl ?_
  refine zS ?_; refine zAs ?_; refine zN (zS ?_); refine zMv ?_; refine zMv ?_
  refine zP (ap_max rfl rfl) ?_
  refine zMv ?_
  refine zP (ap_arith (m := lw k) rfl rfl (by simp only [addI, Option.some.injEq]; exact h2) (by omega)) ?_
  refine zAs ?_; refine zN ?_; refine awp_ret ?_
  exact post_is (.tmp rfl .nil) zKeep rfl
theorem plevel_con (s : Int) : ∀ (t : Trust), sizeT t ≤ 200000 → NN t → Con none Try.prog 55 [av t, .i s] [] (Is (av (less s t)) []) := by
  have hcap : capB = 140737488355328 := rfl
  intro t
  induction t using Trust.ind with
  | _ t ih =>
    have hl1 : (t.nodes.map D.i).length = t.nodes.length := by simp
    have hl2 := avs_len t.inner
    intro hsz hnn
    have hs0 : sizeT t = t.nodes.length + t.inner.length + sizeL t.inner := rfl
    have hm0 : max t.th 0 = t.th := by have := hnn.th.1; omega
    refine con_intro Try.func55 rfl Try.call55 rfl ?_
    refine zS ?_
    refine aops_box rfl zFlat rfl rfl (fun b2 => ?_)
    refine aops_alloc rfl zRc rfl rfl (fun b4 => ?_)
    refine zN (zS ?_); refine zF 0 1 false ?_; refine zL1 ?_
    refine zP (ap_max rfl rfl) ?_
    refine zP (ap_build zKr rfl zRc zFill) ?_
    refine aops_alloc rfl zRc rfl rfl (fun b5 => ?_)
    refine zSt ?_; refine zN ?_; refine awp_seq ?_; refine awp_seq ?_
    rw [hm0]
    refine awp_region ?_; refine zF 1 1 false ?_; refine zL1 ?_
    first | refine aops_len rfl rfl rfl rfl (fun _ => ?_) | refine zP (ap_len_arr rfl zUpd rfl) ?_ | refine zP (ap_len_nil rfl rfl) ?_
    refine zMv ?_; refine zN ?_; refine awp_block ?_
    refine awp_loop4 [1, 2, 4, 5, 15, 16] [.box b4 _ _, .box b2 _ _] (fun (k : Nat) (v : Value) (th : Int) (q : List Int) r => (17, .i (k : Int)) :: r) (fun (k : Nat) (v : Value) (th : Int) (q : List Int) r => .box b5 52 [.i th, .v v, .nil] :: .arr v 3 1 (q.map .i) :: r) (fun (k : Nat) (v : Value) (th : Int) (q : List Int) => k ≤ t.nodes.length ∧ q.length ≤ k ∧ TB th ∧ lessN s (t.nodes.drop k) th q = lessN s t.nodes t.th []) (fun (k : Nat) (v : Value) (th : Int) (q : List Int) => t.nodes.length - k) (0) (.slice none 0 0) (t.th) ([]) zRc ⟨by omega, by simp, hnn.th, by simp⟩ ((wk_own 3 1 rfl).trans (wk zSub zKeep)) ?_
    intro k v th q ⟨hk, hql, hth, hI⟩
    have hml : (q.map D.i).length = q.length := by simp
    refine zS ?_; refine zCm ?_; refine zN ?_; refine awp_seq ?_
    refine zC (fun hc => ?_) fun hc => ?_
    · have hlt := of_decide_eq_true hc
      obtain ⟨x, hx, hd⟩ := drop_cons (l := t.nodes) (k := k) (by omega)
      have hx' := getMap D.i hx
      refine awp_skip ?_; refine seqQ_n ?_; refine awp_seq ?_; refine awp_block ?_; refine zS ?_
      first | refine zP (ap_index rfl rfl rfl rfl (by decide) rfl zAss) ?_ | refine zP (ap_index rfl rfl rfl rfl (by decide) (by omega) zAss) ?_ | refine zP (ap_index_own rfl rfl rfl rfl rfl (by first | omega | (simp only [List.length_map, List.length_set, avs_len]; omega))) ?_
      refine zL1 ?_; refine zAs ?_; refine zN (zS ?_); refine zMv ?_; refine zMv ?_
      refine aops_call_b zRc (has_con s x) rfl rfl (fun c23 hc23 => ?_)
      refine zN ?_
      refine zC (fun hc => ?_) fun hc => ?_
      · refine awp_region ?_
        refine zF 0 1 false ?_; refine zL1 ?_
        refine aops_call_v zRc (lowered_con _ (by assumption)) rfl rfl ?_
        refine zF 0 1 false ?_; refine zSt ?_; refine aops_nil ?_; refine blockQ_n ?_; refine seqQ_n ?_; refine awp_region ?_; refine zAr ?_; refine zMv ?_; refine zN ?_
        rw [hd] at hI; simp only [lessN] at hI
        first
        | (rw [if_pos (hc23.trans hc)] at hI; refine ⟨k + 1, v, lw th, q, ⟨by omega, by omega, (lw_nn hth).1, hI⟩, by omega, wk zSub zKeep⟩)
        | (rw [if_neg (fun e => by rw [hc23.trans hc] at e; cases e)] at hI; rw [mapi_snoc]; refine ⟨k + 1, _, th, q ++ [x], ⟨by omega, by simp only [List.length_append, List.length_cons, List.length_nil]; omega, hth, hI⟩, by omega, wk zSub zKeep⟩)
      · refine awp_region ?_
        refine zF 1 1 false ?_; refine zL1 ?_; refine zMv ?_
        refine aops_lit (e := 3) (sz := 1) (by_ := 8) rfl rfl zRc rfl rfl rfl rfl ?_
        first | refine aops_append (e := 3) (sz := 1) (by_ := 8) rfl zUpd rfl rfl rfl rfl rfl zLen (fun v32 hv32 => ?_) | refine aops_append_nil (e := 3) (sz := 1) (by_ := 8) rfl rfl rfl rfl rfl rfl zLen (fun v32 hv32 => ?_)
        refine zF 1 1 false ?_; refine zSt ?_; refine aops_nil ?_; refine blockQ_n ?_; refine seqQ_n ?_; refine awp_region ?_; refine zAr ?_; refine zMv ?_; refine zN ?_
        rw [hd] at hI; simp only [lessN] at hI
        first
        | (rw [if_pos (hc23.trans hc)] at hI; refine ⟨k + 1, v, lw th, q, ⟨by omega, by omega, (lw_nn hth).1, hI⟩, by omega, wk zSub zKeep⟩)
        | (rw [if_neg (fun e => by rw [hc23.trans hc] at e; cases e)] at hI; rw [mapi_snoc]; refine ⟨k + 1, _, th, q ++ [x], ⟨by omega, by simp only [List.length_append, List.length_cons, List.length_nil]; omega, hth, hI⟩, by omega, wk zSub zKeep⟩)
    · have hge := of_decide_eq_false hc
      have hN : lessN s t.nodes t.th [] = (th, q) := by rw [drop_nil (by omega)] at hI; exact hI.symm
      refine awp_exit ?_; refine seqQ_x ?_; refine seqQ_x ?_; refine blockQ_x rfl ?_; refine seqQ_n ?_; refine awp_seq ?_; refine zS ?_; refine zF 2 1 false ?_; refine zL1 ?_
      first | refine aops_len rfl rfl rfl rfl (fun _ => ?_) | refine zP (ap_len_arr rfl zUpd rfl) ?_ | refine zP (ap_len_nil rfl rfl) ?_
      refine zMv ?_; refine zN ?_; refine awp_block ?_
      refine awp_loop4 [1, 4, 5, 36, 37] [.box b4 _ _, .box b2 _ _, .arr v 3 1 (q.map .i)] (fun (k : Nat) (v2 : Value) (th2 : Int) (q2 : List Trust) r => (38, .i (k : Int)) :: r) (fun (k : Nat) (v2 : Value) (th2 : Int) (q2 : List Trust) r => .box b5 52 [.i th2, .v v, .v v2] :: .arr v2 52 3 (avs q2) :: r) (fun (k : Nat) (v2 : Value) (th2 : Int) (q2 : List Trust) => k ≤ t.inner.length ∧ q2.length ≤ k ∧ TB th2 ∧ lessI s (t.inner.drop k) th2 q2 = lessI s t.inner th []) (fun (k : Nat) (v2 : Value) (th2 : Int) (q2 : List Trust) => t.inner.length - k) (0) (.slice none 0 0) (th) ([]) zRc ⟨by omega, by simp, hth, by simp⟩ ((wk_own 52 3 rfl).trans (wk zSub zKeep)) ?_
      intro k v2 th2 q2 ⟨hk, hql2, hth2, hI2⟩
      have hal : (avs q2).length = q2.length := avs_len _
      refine zS ?_; refine zCm ?_; refine zN ?_; refine awp_seq ?_
      refine zC (fun hc => ?_) fun hc => ?_
      · have hlt := of_decide_eq_true hc
        obtain ⟨y, hy, hd⟩ := drop_cons (l := t.inner) (k := k) (by omega)
        have hy' := avs_get hy
        have hym := List.mem_of_getElem? hy
        refine awp_skip ?_; refine seqQ_n ?_; refine awp_seq ?_; refine awp_block ?_; refine zS ?_
        first | refine zP (ap_index rfl rfl rfl rfl (by decide) rfl zAss) ?_ | refine zP (ap_index rfl rfl rfl rfl (by decide) (by omega) zAss) ?_ | refine zP (ap_index_own rfl rfl rfl rfl rfl (by first | omega | (simp only [List.length_map, List.length_set, avs_len]; omega))) ?_
        refine zLd ?_
        refine aops_alloc rfl zRc rfl rfl (fun b9 => ?_)
        refine zSt ?_; refine zN (zS ?_); refine zLd ?_; refine zMv ?_
        refine aops_call_v zRc (ih y hym (by have := sizeL_mem hym; omega) (hnn.inner y hym)) rfl rfl ?_
        refine zSt ?_; refine zN (zS ?_); refine zF 0 1 false ?_; refine zL1 ?_; refine zCm ?_; refine zN ?_
        refine zC (fun hc => ?_) fun hc => ?_
        · refine awp_region ?_
          refine zF 0 1 false ?_; refine zL1 ?_
          refine aops_call_v zRc (lowered_con _ (by assumption)) rfl rfl ?_
          refine zF 0 1 false ?_; refine zSt ?_; refine aops_nil ?_; refine blockQ_n ?_; refine seqQ_n ?_; refine awp_region ?_; refine zAr ?_; refine zMv ?_; refine zN ?_
          rw [hd, lessI_cons] at hI2
          first
          | (rw [if_pos (by have := of_decide_eq_true hc; omega)] at hI2; refine ⟨k + 1, v2, lw th2, q2, ⟨by omega, by omega, (lw_nn hth2).1, hI2⟩, by omega, wk zSub zKeep⟩)
          | (rw [if_neg (by have := of_decide_eq_false hc; have := (less_nn (s := s) (hnn.inner y hym)).1; omega)] at hI2; rw [show D.agg [.i (less s y).th, .sl 1 ((less s y).nodes.map .i), .sl 3 (avs (less s y).inner)] = av (less s y) from rfl, avs_snoc]; refine ⟨k + 1, _, th2, q2 ++ [less s y], ⟨by omega, by simp only [List.length_append, List.length_cons, List.length_nil]; omega, hth2, hI2⟩, by omega, wk zSub zKeep⟩)
        · refine awp_region ?_
          refine zF 2 1 false ?_; refine zL1 ?_; refine zLd ?_
          refine aops_lit (e := 52) (sz := 3) (by_ := 56) rfl rfl zRc rfl rfl rfl rfl ?_
          first | refine aops_append (e := 52) (sz := 3) (by_ := 56) rfl zUpd rfl rfl rfl rfl rfl zLen (fun v56 hv56 => ?_) | refine aops_append_nil (e := 52) (sz := 3) (by_ := 56) rfl rfl rfl rfl rfl rfl zLen (fun v56 hv56 => ?_)
          refine zF 2 1 false ?_; refine zSt ?_; refine aops_nil ?_; refine blockQ_n ?_; refine seqQ_n ?_; refine awp_region ?_; refine zAr ?_; refine zMv ?_; refine zN ?_
          rw [hd, lessI_cons] at hI2
          first
          | (rw [if_pos (by have := of_decide_eq_true hc; omega)] at hI2; refine ⟨k + 1, v2, lw th2, q2, ⟨by omega, by omega, (lw_nn hth2).1, hI2⟩, by omega, wk zSub zKeep⟩)
          | (rw [if_neg (by have := of_decide_eq_false hc; have := (less_nn (s := s) (hnn.inner y hym)).1; omega)] at hI2; rw [show D.agg [.i (less s y).th, .sl 1 ((less s y).nodes.map .i), .sl 3 (avs (less s y).inner)] = av (less s y) from rfl, avs_snoc]; refine ⟨k + 1, _, th2, q2 ++ [less s y], ⟨by omega, by simp only [List.length_append, List.length_cons, List.length_nil]; omega, hth2, hI2⟩, by omega, wk zSub zKeep⟩)
      · have hge := of_decide_eq_false hc
        have hL : lessI s t.inner th [] = (th2, q2) := by rw [drop_nil (by omega)] at hI2; exact hI2.symm
        refine awp_exit ?_; refine seqQ_x ?_; refine seqQ_x ?_; refine blockQ_x rfl ?_; refine seqQ_n ?_; refine zS ?_; refine zLd ?_; refine zSt ?_; refine zN ?_
        refine awp_freeze v [4] zRem zSelC zHeapA ?_; refine awp_freeze v2 [4] zRem zSelC zHeapA ?_
        refine awp_ret ?_
        refine post_is (.cell rfl zUpd rfl rfl .nil) zKeep ?_
        rw [less_mk hN hL]; rfl
theorem pdelT_con (t : Trust) (k : Int) (s : Nat) (hs : s < 1024) (hsz : sizeT t ≤ 200000) (hnn : NN t) : Con none Try.prog 45 [av t, .i k, .i s] [] (Is (av (delT s k t)) []) := by
  have hcap : capB = 140737488355328 := rfl
  have hb := (less_nn (s := (s : Int)) hnn).1
  refine con_intro Try.func45 rfl Try.call45 rfl ?_
  refine zS ?_
  refine aops_box rfl zFlat rfl rfl (fun b3 => ?_)
  refine aops_alloc rfl zRc rfl rfl (fun b6 => ?_)
  refine zN ?_; refine awp_seq ?_; refine zS ?_; refine zMv ?_
  refine aops_call_v zRc (validn hs) rfl rfl ?_
  refine zNo ?_; refine zN ?_
  refine awp_cond_f rfl zDec ?_
  refine awp_skip ?_; refine seqQ_n ?_; refine zS ?_; refine zLd ?_; refine zMv ?_
  refine aops_call_v zRc (plevel_con s t hsz hnn) rfl rfl ?_
  refine aops_alloc rfl zRc rfl rfl (fun b7 => ?_)
  refine zSt ?_; refine zN ?_; refine awp_seq ?_; refine zS ?_; refine zF 0 1 false ?_; refine zL1 ?_; refine zCm ?_; refine zN ?_
  refine zC (fun hc => ?_) fun hc => ?_
  · have hle := of_decide_eq_true hc
    refine zS ?_; refine zMv ?_
    refine aops_lit (e := 3) (sz := 1) (by_ := 8) rfl rfl zRc rfl rfl rfl rfl ?_
    refine zP (ap_build zKr rfl zRc zFill) ?_
    refine zSt ?_; refine zN ?_
    refine awp_unnil [6] 3 rfl zSelC zHeapA ?_
    refine awp_ret ?_; refine seqQ_r ?_
    refine post_is (.cell rfl zUpd rfl rfl .nil) zKeep ?_
    unfold delT; rw [if_pos (by omega)]; rfl
  · have hle := of_decide_eq_false hc
    refine awp_skip ?_; refine seqQ_n ?_; refine zS ?_; refine zLd ?_; refine zSt ?_; refine zN ?_; refine awp_ret ?_
    refine post_is (.cell rfl zUpd rfl rfl .nil) zKeep ?_
    unfold delT; rw [if_neg (by omega)]; rfl
theorem pdel_con (c : List Mem) (hcl : c.length ≤ 10) (s : Nat) (hs : s < 1024) (hsz : ∀ m ∈ c, sizeT m.t ≤ 200000) (hdc : ∀ m ∈ c, m.decl = true) (hnn : ∀ m ∈ c, NN m.t) : Con none Try.prog 29 [cv c, .i s] [] (Is (cv (delC c s)) []) := by
  have hcap : capB = 140737488355328 := rfl
  have hml : (c.map mv).length = c.length := by simp
  refine con_intro Try.func29 rfl Try.call29 rfl ?_
  refine zS ?_
  refine aops_box rfl zFlat rfl rfl (fun b2 => ?_)
  refine aops_alloc rfl zRc rfl rfl (fun b4 => ?_)
  refine zN (zS ?_)
  refine aops_alloc rfl zRc rfl rfl (fun b5 => ?_)
  refine zN ?_; refine awp_seq ?_; refine zS ?_; refine zF 0 1 false ?_; refine zL1 ?_
  first | refine aops_len rfl rfl rfl rfl (fun _ => ?_) | refine zP (ap_len_arr rfl zUpd rfl) ?_ | refine zP (ap_len_nil rfl rfl) ?_
  refine zMv ?_; refine zN ?_; refine awp_block ?_
  refine awp_loop3 [1, 4, 5, 9, 10] [.box b4 _ _, .box b2 _ _] (fun (k : Nat) (v : Value) (q : List Mem) r => (11, .i (k : Int)) :: r) (fun (k : Nat) (v : Value) (q : List Mem) r => .box b5 28 [.v v] :: .arr v 56 4 (q.map mv) :: r) (fun (k : Nat) (v : Value) (q : List Mem) => k ≤ c.length ∧ q.length = k ∧ q ++ delGo s k (c.drop k) = delC c s) (fun (k : Nat) (v : Value) (q : List Mem) => c.length - k) (0) (.slice none 0 0) ([]) zRc ⟨by omega, rfl, by simp [delC]⟩ ((wk_own 56 4 rfl).trans (wk zSub zKeep)) ?_
  intro k v q ⟨hk, hql, hI⟩
  have hqm : (q.map mv).length = q.length := by simp
  refine zS ?_; refine zCm ?_; refine zN ?_; refine awp_seq ?_
  refine zC (fun hc => ?_) fun hc => ?_
  · have hlt := of_decide_eq_true hc
    obtain ⟨x, hx, hd⟩ := drop_cons (l := c) (k := k) (by omega)
    have hx' := getMap mv hx
    have hxd := hdc x (List.mem_of_getElem? hx)
    refine awp_skip ?_; refine seqQ_n ?_; refine awp_seq ?_; refine awp_block ?_; refine zS ?_; refine zMv ?_
    first | refine zP (ap_index rfl rfl rfl rfl (by decide) rfl zAss) ?_ | refine zP (ap_index rfl rfl rfl rfl (by decide) (by omega) zAss) ?_ | refine zP (ap_index_own rfl rfl rfl rfl rfl (by first | omega | (simp only [List.length_map, List.length_set, avs_len]; omega))) ?_
    refine zLd ?_
    refine aops_alloc rfl zRc rfl rfl (fun b7 => ?_)
    refine zAs ?_; refine zSt ?_; refine zN ?_; refine awp_seq ?_; refine awp_block ?_; refine zS ?_; refine zMv ?_; refine zMv ?_
    refine aops_call_b zRc (has_con s k) rfl rfl (fun c23 hc23 => ?_)
    refine zAs ?_; refine zN ?_
    refine zC (fun hc => ?_) fun hc => ?_
    · refine awp_region ?_
      refine zP (ap_build zKr rfl zRc zFill) ?_
      refine zSt ?_; refine aops_nil ?_; refine blockQ_n ?_; refine seqQ_n ?_; refine awp_region ?_; refine zF 0 1 false ?_; refine zL1 ?_; refine zLd ?_
      refine aops_unnil [1,4,5,9,10,11,35,36] 1 rfl rfl (by repeat (first | exact SelC.nil | apply SelC.cons rfl (Cv.agg (CvL.cons Cv.same (CvL.cons Cv.same (CvL.cons Cv.fz (CvL.cons Cv.same CvL.nil))))) | apply SelC.cons rfl Cv.same)) zHeapS ?_; refine aops_unnil [1,4,5,9,10,11,35,36] 3 rfl rfl zSelC zHeapS ?_; refine aops_lit (e := 56) (sz := 4) (by_ := 64) rfl rfl zRc rfl rfl rfl rfl ?_
      first | refine aops_append (e := 56) (sz := 4) (by_ := 64) rfl zUpd rfl rfl rfl rfl rfl (by simp only [List.length_cons, List.length_nil, List.length_append, List.length_map]; omega) (fun v38 hv38 => ?_) | refine aops_append_nil (e := 56) (sz := 4) (by_ := 64) rfl rfl rfl rfl rfl rfl (by simp only [List.length_cons, List.length_nil, List.length_append, List.length_map]; omega) (fun v38 hv38 => ?_)
      refine zF 0 1 false ?_; refine zSt ?_; refine aops_nil ?_; refine blockQ_n ?_; refine seqQ_n ?_; refine awp_region ?_; refine zAr ?_; refine zMv ?_; refine zN ?_
      first
      | (refine ⟨k + 1, v38, q ++ [delM s k x], ⟨by omega, by simp only [List.length_append, List.length_cons, List.length_nil]; omega, del_next hd hI⟩, by omega, ?_⟩; rw [← mv_snoc, delM_1 (hc23.trans (by with_reducible assumption))]; exact (wk zSub zKeep))
      | (refine ⟨k + 1, v38, q ++ [delM s k x], ⟨by omega, by simp only [List.length_append, List.length_cons, List.length_nil]; omega, del_next hd hI⟩, by omega, ?_⟩; rw [← mv_snoc, delM_2 (hc23.trans (by with_reducible assumption)) (by with_reducible assumption)]; exact (wk zSub zKeep))
    · refine awp_seq ?_
      refine awp_region ?_; refine zF 0 1 false ?_; refine zL1 ?_; refine zAs ?_; refine zN ?_
      refine awp_cond_t rfl zDec ?_
      refine awp_region ?_; refine zF 1 3 true ?_; refine zLd ?_; refine zMv ?_; refine zMv ?_
      refine aops_call_v zRc (pdelT_con x.t k s hs (hsz x (List.mem_of_getElem? hx)) (hnn x (List.mem_of_getElem? hx))) rfl rfl ?_
      refine zF 1 3 true ?_; refine zSt ?_; refine aops_nil ?_; refine blockQ_n ?_; refine seqQ_n ?_; refine awp_region ?_; refine zF 0 1 false ?_; refine zL1 ?_; refine zLd ?_
      refine aops_unnil [1,4,5,9,10,11,35,36] 1 rfl rfl (by repeat (first | exact SelC.nil | apply SelC.cons rfl (Cv.agg (CvL.cons Cv.same (CvL.cons Cv.same (CvL.cons Cv.fz (CvL.cons Cv.same CvL.nil))))) | apply SelC.cons rfl Cv.same)) zHeapS ?_; refine aops_unnil [1,4,5,9,10,11,35,36] 3 rfl rfl zSelC zHeapS ?_; refine aops_lit (e := 56) (sz := 4) (by_ := 64) rfl rfl zRc rfl rfl rfl rfl ?_
      first | refine aops_append (e := 56) (sz := 4) (by_ := 64) rfl zUpd rfl rfl rfl rfl rfl (by simp only [List.length_cons, List.length_nil, List.length_append, List.length_map]; omega) (fun v38 hv38 => ?_) | refine aops_append_nil (e := 56) (sz := 4) (by_ := 64) rfl rfl rfl rfl rfl rfl (by simp only [List.length_cons, List.length_nil, List.length_append, List.length_map]; omega) (fun v38 hv38 => ?_)
      refine zF 0 1 false ?_; refine zSt ?_; refine aops_nil ?_; refine blockQ_n ?_; refine seqQ_n ?_; refine awp_region ?_; refine zAr ?_; refine zMv ?_; refine zN ?_
      first
      | (refine ⟨k + 1, v38, q ++ [delM s k x], ⟨by omega, by simp only [List.length_append, List.length_cons, List.length_nil]; omega, del_next hd hI⟩, by omega, ?_⟩; rw [← mv_snoc, delM_1 (hc23.trans (by with_reducible assumption))]; exact (wk zSub zKeep))
      | (refine ⟨k + 1, v38, q ++ [delM s k x], ⟨by omega, by simp only [List.length_append, List.length_cons, List.length_nil]; omega, del_next hd hI⟩, by omega, ?_⟩; rw [← mv_snoc, delM_2 (hc23.trans (by with_reducible assumption)) (by with_reducible assumption)]; exact (wk zSub zKeep))
  · have hge := of_decide_eq_false hc
    have hF : q = delC c s := by rw [drop_nil (by omega)] at hI; simpa [delGo] using hI
    refine awp_exit ?_; refine seqQ_x ?_; refine seqQ_x ?_; refine blockQ_x rfl ?_; refine seqQ_n ?_; refine zS ?_; refine zLd ?_; refine zSt ?_; refine zN ?_
    refine awp_freeze v [4] zRem zSelC zHeapA ?_
    refine awp_ret ?_
    refine post_is (.cell rfl zUpd rfl rfl .nil) zKeep ?_
    rw [← hF]; rfl
/-- A configuration of at most four members that all are declared, with small trusts. -/
structure OKA (c : List Mem) : Prop where
  len : 1 ≤ c.length ∧ c.length ≤ 4
  decl : ∀ m ∈ c, m.decl = true
  size : ∀ m ∈ c, sizeT m.t ≤ 200
  nn : ∀ m ∈ c, NN m.t
  ok : validC c = 0
theorem pow4 {n : Nat} (h : 1 ≤ n ∧ n ≤ 4) : 1 < 2 ^ n ∧ 2 ^ n ≤ 16 := by
  have h1 := Nat.pow_le_pow_right (show 0 < 2 by omega) h.1
  have h2 := Nat.pow_le_pow_right (show 0 < 2 by omega) h.2
  omega
theorem nez_f {n : Nat} (h : (!decide ((n : Int) = 0)) = false) : n = 0 := by have := of_neq_false h; omega
theorem nez_t {n : Nat} (h : (!decide ((n : Int) = 0)) = true) : ¬ n = 0 := by have := of_neq_true h; omega
theorem any_cons_fm {α : Type} {p : α → Bool} {x : α} {r : List α} (h : p x = false) : (x :: r).any p = r.any p := by simp [h]
theorem any_cons_tm {α : Type} {p : α → Bool} {x : α} {r : List α} (h : p x = true) : (x :: r).any p = true := by simp [h]
theorem all_con (c : List Mem) (hc : c.length ≤ 4) : Con none Try.prog 23 [cv c] [] (Is (.i ((2 ^ c.length - 1 : Nat) : Int)) []) := by
  have hcap : capB = 140737488355328 := rfl
  have hml : (c.map mv).length = c.length := by simp
  have hpos : 0 < 2 ^ c.length := Nat.pow_pos (by omega)
  have hle := Nat.pow_le_pow_right (show 0 < 2 by omega) hc
  refine con_intro Try.func23 rfl Try.call23 rfl ?_
  refine zS ?_
  refine aops_box rfl zFlat rfl rfl (fun b1 => ?_)
  refine zAs ?_; refine zN (zS ?_); refine zF 0 1 false ?_; refine zL1 ?_
  first | refine aops_len rfl rfl rfl rfl (fun _ => ?_) | refine zP (ap_len_arr rfl zUpd rfl) ?_ | refine zP (ap_len_nil rfl rfl) ?_
  (rw [hml]; refine zP (ap_shl (p := 1) rfl rfl rfl (by omega) (by omega)) ?_)
  refine zP (ap_arith (m := ((2 ^ c.length - 1 : Nat) : Int)) rfl rfl (by show some _ = _; simp only [Option.some.injEq]; omega) (by omega)) ?_
  refine zAs ?_; refine zN ?_; refine awp_ret ?_
  refine post_is (.tmp rfl .nil) zKeep rfl
theorem check1_con (m : Mem) : Con none Try.prog 39 [mv m] [] (Is (.b (!m.decl)) []) := by
  have hcap : capB = 140737488355328 := rfl
  refine con_intro Try.func39 rfl Try.call39 rfl ?_
  refine zS ?_
  refine aops_box rfl zFlat rfl rfl (fun b1 => ?_)
  refine zAs ?_; refine zN (zS ?_); refine zF 0 1 false ?_; refine zL1 ?_; refine zNo ?_; refine zAs ?_; refine zN ?_; refine awp_ret ?_
  exact post_is (.tmp rfl .nil) zKeep rfl
theorem indexFM_con (f : FuncId) (p : Mem → Bool) (l : List Mem) (hf : ∀ k, k ∈ l → Con none Try.prog f [mv k] [] (Is (.b (p k)) [])) : Con none Try.prog 53 [.sl 4 (l.map mv), .v (.func (.func f) #[] #[])] [] (fun d H => ∃ r : Int, d = .i r ∧ decide (0 ≤ r) = l.any p ∧ H = []) := by
  have hcap : capB = 140737488355328 := rfl
  have hl1 : (l.map mv).length = l.length := by simp
  refine con_intro Try.func53 rfl Try.call53 rfl ?_
  refine zS ?_; refine zAs ?_; refine zN ?_; refine awp_seq ?_; refine zS ?_; refine zMv ?_
  first | refine aops_len rfl rfl rfl rfl (fun _ => ?_) | refine zP (ap_len_arr rfl zUpd rfl) ?_ | refine zP (ap_len_nil rfl rfl) ?_
  refine zMv ?_; refine zN ?_; refine awp_block ?_
  refine awp_loop1 [0, 1, 7] [] (fun (k : Nat) r => (8, .i (k : Int)) :: r) (fun (k : Nat) r => r) (fun (k : Nat) => k ≤ l.length ∧ (l.drop k).any p = l.any p) (fun (k : Nat) => l.length - k) (0) zRc ⟨by omega, by simp⟩ (wk zSub zKeep) ?_
  intro k ⟨hk, hI⟩
  refine zS ?_; refine zCm ?_; refine zN ?_; refine awp_seq ?_
  refine zC (fun hc => ?_) fun hc => ?_
  · have hlt : k < l.length := by have := of_decide_eq_true hc; omega
    obtain ⟨x, hx, hd⟩ := drop_cons hlt
    have hx' := getMap mv hx
    rw [hd] at hI
    refine awp_skip ?_; refine seqQ_n ?_; refine awp_seq ?_; refine awp_block ?_; refine zS ?_; refine zMv ?_; refine zAs ?_; refine zN (zS ?_); refine zMv ?_; refine zMv ?_; refine zMv ?_
    first | refine zP (ap_index rfl rfl rfl rfl (by decide) rfl zAss) ?_ | refine zP (ap_index rfl rfl rfl rfl (by decide) (by omega) zAss) ?_ | refine zP (ap_index_own rfl rfl rfl rfl rfl (by first | omega | (simp only [List.length_map, List.length_set, avs_len]; omega))) ?_
    refine zLd ?_
    (refine aops_callv (caps := []) rfl zRc (hf x (List.mem_of_getElem? hx)) zSplit rfl rfl ?_; rintro _ _ ⟨rfl, rfl⟩; obtain ⟨c16, hc16⟩ : ∃ b, b = p x := ⟨_, rfl⟩; rw [← hc16])
    refine zN ?_
    refine zC (fun hc => ?_) fun hc => ?_
    · refine awp_seq ?_
      refine awp_region ?_; refine zMv ?_; refine zAs ?_; refine zN ?_; refine awp_ret ?_; refine blockQ_r ?_; refine seqQ_r ?_; refine seqQ_r ?_; refine blockQ_r ?_; refine seqQ_r ?_
      refine post_ret (.tmp rfl .nil) zKeep ⟨_, rfl, ?_, rfl⟩
      rw [any_cons_tm (hc16.symm.trans hc)] at hI
      rw [← hI]; exact decide_eq_true (by omega)
    · refine awp_skip ?_
      refine blockQ_n ?_; refine seqQ_n ?_; refine awp_region ?_; refine zAr ?_; refine zMv ?_; refine zN ?_
      rw [any_cons_fm (hc16.symm.trans hc)] at hI
      refine ⟨k + 1, ⟨by omega, hI⟩, by omega, wk zSub zKeep⟩
  · have hge : l.length ≤ k := by have := of_decide_eq_false hc; omega
    rw [drop_nil hge] at hI
    refine awp_exit ?_; refine seqQ_x ?_; refine seqQ_x ?_; refine blockQ_x rfl ?_; refine seqQ_n ?_; refine zS ?_; refine zAs ?_; refine zN ?_; refine awp_ret ?_
    refine post_ret (.tmp rfl .nil) zKeep ⟨_, rfl, ?_, rfl⟩
    rw [← hI]; rfl
theorem containsFM_con (f : FuncId) (p : Mem → Bool) (l : List Mem) (hf : ∀ k, k ∈ l → Con none Try.prog f [mv k] [] (Is (.b (p k)) [])) : Con none Try.prog 41 [.sl 4 (l.map mv), .v (.func (.func f) #[] #[])] [] (Is (.b (l.any p)) []) := by
  have hcap : capB = 140737488355328 := rfl
  refine con_intro Try.func41 rfl Try.call41 rfl ?_
  refine zS ?_; refine zAs ?_; refine zN (zS ?_); refine zMv ?_; refine zMv ?_
  (refine aops_call zRc (indexFM_con f p l hf) zSplit rfl rfl ?_; rintro _ _ ⟨r, rfl, hr, rfl⟩)
  refine zCm ?_; refine zAs ?_; refine zN ?_; refine awp_ret ?_
  refine post_is (.tmp rfl .nil) zKeep ?_
  rw [← hr]; rfl
theorem indexFV_con (b3 b7 : Nat) (d3 d7 : List D) (f : FuncId) (p : Vd → Bool) (l : List Vd) (hf : ∀ k, k ∈ l → Con none Try.prog f [vv k, .p b3 0, .p b7 0] [.box b7 38 d7, .box b3 58 d3] (Is (.b (p k)) [.box b7 38 d7, .box b3 58 d3])) : Con none Try.prog 51 [.sl 5 (l.map vv), .v (.func (.func f) #[] #[.pointer (some ⟨b3, 0, none⟩), .pointer (some ⟨b7, 0, none⟩)])] [.box b7 38 d7, .box b3 58 d3] (fun d H => ∃ r : Int, d = .i r ∧ decide (0 ≤ r) = l.any p ∧ H = [.box b7 38 d7, .box b3 58 d3]) := by
  have hcap : capB = 140737488355328 := rfl
  have hl1 : (l.map vv).length = l.length := by simp
  refine con_intro Try.func51 rfl Try.call51 rfl ?_
  refine zS ?_; refine zAs ?_; refine zN ?_; refine awp_seq ?_; refine zS ?_; refine zMv ?_
  first | refine aops_len rfl rfl rfl rfl (fun _ => ?_) | refine zP (ap_len_arr rfl zUpd rfl) ?_ | refine zP (ap_len_nil rfl rfl) ?_
  refine zMv ?_; refine zN ?_; refine awp_block ?_
  refine awp_loop1 [0, 1, 7] [] (fun (k : Nat) r => (8, .i (k : Int)) :: r) (fun (k : Nat) r => .box b7 38 d7 :: .box b3 58 d3 :: r) (fun (k : Nat) => k ≤ l.length ∧ (l.drop k).any p = l.any p) (fun (k : Nat) => l.length - k) (0) zRc ⟨by omega, by simp⟩ (wk zSub zKeep) ?_
  intro k ⟨hk, hI⟩
  refine zS ?_; refine zCm ?_; refine zN ?_; refine awp_seq ?_
  refine zC (fun hc => ?_) fun hc => ?_
  · have hlt : k < l.length := by have := of_decide_eq_true hc; omega
    obtain ⟨x, hx, hd⟩ := drop_cons hlt
    have hx' := getMap vv hx
    rw [hd] at hI
    refine awp_skip ?_; refine seqQ_n ?_; refine awp_seq ?_; refine awp_block ?_; refine zS ?_; refine zMv ?_; refine zAs ?_; refine zN (zS ?_); refine zMv ?_; refine zMv ?_; refine zMv ?_
    first | refine zP (ap_index rfl rfl rfl rfl (by decide) rfl zAss) ?_ | refine zP (ap_index rfl rfl rfl rfl (by decide) (by omega) zAss) ?_ | refine zP (ap_index_own rfl rfl rfl rfl rfl (by first | omega | (simp only [List.length_map, List.length_set, avs_len]; omega))) ?_
    refine zLd ?_
    (refine aops_callv (caps := [.pointer (some ⟨b3, 0, none⟩), .pointer (some ⟨b7, 0, none⟩)]) rfl zRc (hf x (List.mem_of_getElem? hx)) zSplit rfl rfl ?_; rintro _ _ ⟨rfl, rfl⟩; obtain ⟨c16, hc16⟩ : ∃ b, b = p x := ⟨_, rfl⟩; rw [← hc16])
    refine zN ?_
    refine zC (fun hc => ?_) fun hc => ?_
    · refine awp_seq ?_
      refine awp_region ?_; refine zMv ?_; refine zAs ?_; refine zN ?_; refine awp_ret ?_; refine blockQ_r ?_; refine seqQ_r ?_; refine seqQ_r ?_; refine blockQ_r ?_; refine seqQ_r ?_
      refine post_ret (.tmp rfl .nil) zKeep ⟨_, rfl, ?_, rfl⟩
      rw [any_cons_tm (hc16.symm.trans hc)] at hI
      rw [← hI]; exact decide_eq_true (by omega)
    · refine awp_skip ?_
      refine blockQ_n ?_; refine seqQ_n ?_; refine awp_region ?_; refine zAr ?_; refine zMv ?_; refine zN ?_
      rw [any_cons_fm (hc16.symm.trans hc)] at hI
      refine ⟨k + 1, ⟨by omega, hI⟩, by omega, wk zSub zKeep⟩
  · have hge : l.length ≤ k := by have := of_decide_eq_false hc; omega
    rw [drop_nil hge] at hI
    refine awp_exit ?_; refine seqQ_x ?_; refine seqQ_x ?_; refine blockQ_x rfl ?_; refine seqQ_n ?_; refine zS ?_; refine zAs ?_; refine zN ?_; refine awp_ret ?_
    refine post_ret (.tmp rfl .nil) zKeep ⟨_, rfl, ?_, rfl⟩
    rw [← hI]; rfl
theorem containsFV_con (b3 b7 : Nat) (d3 d7 : List D) (f : FuncId) (p : Vd → Bool) (l : List Vd) (hf : ∀ k, k ∈ l → Con none Try.prog f [vv k, .p b3 0, .p b7 0] [.box b7 38 d7, .box b3 58 d3] (Is (.b (p k)) [.box b7 38 d7, .box b3 58 d3])) : Con none Try.prog 38 [.sl 5 (l.map vv), .v (.func (.func f) #[] #[.pointer (some ⟨b3, 0, none⟩), .pointer (some ⟨b7, 0, none⟩)])] [.box b7 38 d7, .box b3 58 d3] (Is (.b (l.any p)) [.box b7 38 d7, .box b3 58 d3]) := by
  have hcap : capB = 140737488355328 := rfl
  refine con_intro Try.func38 rfl Try.call38 rfl ?_
  refine zS ?_; refine zAs ?_; refine zN (zS ?_); refine zMv ?_; refine zMv ?_
  (refine aops_call zRc (indexFV_con b3 b7 d3 d7 f p l hf) zSplit rfl rfl ?_; rintro _ _ ⟨r, rfl, hr, rfl⟩)
  refine zCm ?_; refine zAs ?_; refine zN ?_; refine awp_ret ?_
  refine post_is (.tmp rfl .nil) zKeep ?_
  rw [← hr]; rfl
theorem check_con (c : List Mem) (hok : OKA c) (s : Nat) (hs : s < 2 ^ c.length) : Con none Try.prog 22 [cv c, .i s] [] (Is (.i 0) []) := by
  have hcap : capB = 140737488355328 := rfl
  have hp := pow4 hok.len
  refine con_intro Try.func22 rfl Try.call22 rfl ?_
  refine zS ?_
  refine aops_box rfl zFlat rfl rfl (fun b2 => ?_)
  refine zAs ?_; refine zN (zS ?_); refine zAs ?_; refine zN ?_; refine awp_seq ?_; refine zS ?_; refine zLd ?_
  refine aops_call_v zRc (validC_con c hok.s9) rfl rfl ?_
  refine zAs ?_; refine zN ?_; refine awp_block ?_; refine zS ?_; refine zMv ?_; refine zCm ?_; refine zAs ?_; refine zN ?_
  refine awp_cond_f rfl (by rw [hok.ok]; rfl) ?_
  refine zS ?_; refine zF 0 1 false ?_; refine zL1 ?_; refine zMv ?_
  refine aops_call_v zRc (containsFM_con _ (fun m => !m.decl) c (fun k _ => check1_con k)) rfl rfl ?_
  refine zAs ?_; refine zN ?_
  refine awp_cond_f rfl hok.any ?_
  refine zS ?_; refine zMv ?_; refine zCm ?_; refine zMv ?_
  all_goals first | (refine zY ?_; refine zMv ?_) | refine zU ?_ | refine zNf ?_ | (refine zGf (fun hg => ?_) fun hg => ?_; case' _ => refine zMv ?_)
  all_goals first | (refine zY ?_; refine zLd ?_) | refine zU ?_ | refine zNf ?_ | (refine zGf (fun hg => ?_) fun hg => ?_; case' _ => refine zLd ?_)
  all_goals first | (refine zY ?_; refine aops_call_v zRc (all_con c hok.len.2) rfl rfl ?_) | refine zU ?_ | refine zNf ?_ | (refine zGf (fun hg => ?_) fun hg => ?_; case' _ => refine aops_call_v zRc (all_con c hok.len.2) rfl rfl ?_)
  all_goals first | (refine zY ?_; refine zCm ?_) | refine zU ?_ | refine zNf ?_ | (refine zGf (fun hg => ?_) fun hg => ?_; case' _ => refine zCm ?_)
  all_goals refine zPk ?_
  all_goals refine zAs ?_
  all_goals (
    refine zN ?_
    refine awp_cond_f rfl (by first | with_reducible assumption | (refine decide_eq_false ?_; omega)) ?_
    refine awp_skip ?_; refine blockQ_n ?_; refine seqQ_n ?_; refine zS ?_; refine zAs ?_; refine zN ?_; refine awp_ret ?_
    exact post_is (.tmp rfl .nil) zKeep rfl
    )
theorem silent_con (c : List Mem) (hok : OKA c) (s : Nat) (hs : s < 2 ^ c.length) : Con none Try.prog 43 [cv c, .i s] [] (Is (.b (silentC c s)) []) := by
  have hcap : capB = 140737488355328 := rfl
  have hp := pow4 hok.len
  refine con_intro Try.func43 rfl Try.call43 rfl ?_
  refine zS ?_
  refine aops_box rfl zFlat rfl rfl (fun b2 => ?_)
  refine zAs ?_; refine zN ?_; refine awp_seq ?_
  refine awp_draw (Hm := []) zKr zSplit ?_
  refine zTM 0 ?_; refine zTM 1 ?_
  refine zT 3 rfl (AP.ar (ap_move rfl)) ?_
  refine aany_one 2 zKr rfl (.none rfl) ?_
  refine aops_call_v zRc (all_con c hok.len.2) rfl rfl ?_
  refine aops_nil ?_
  refine zT 4 rfl (AP.ar (ap_bits rfl rfl rfl (by omega) (by omega))) ?_
  refine aany_one 5 zKr rfl (.none rfl) ?_
  refine aops_call_v zRc (great_con c (co c s)) rfl rfl ?_
  refine aops_nil ?_
  refine zT 6 rfl (AP.ar (ap_cmp rfl rfl rfl)) ?_
  refine zT 7 rfl (AP.ar (ap_assign rfl)) ?_
  refine aany_nil zKr ?_
  all_goals (
    refine seqQ_n ?_; refine awp_ret ?_
    exact post_is (.tmp rfl .nil) zKeep rfl
    )
theorem apair_con (c : List Mem) (hok : OKA c) (s : Nat) (hs : s < 2 ^ c.length) : Con none Try.prog 42 [cv c, .i s] [] (Is (.tup [.i ((pairC c s).1 : Nat), .i ((pairC c s).2.1 : Nat), .b (pairC c s).2.2]) []) := by
  have hcap : capB = 140737488355328 := rfl
  have hp := pow4 hok.len
  refine con_intro Try.func42 rfl Try.call42 rfl ?_
  refine zS ?_
  refine aops_box rfl zFlat rfl rfl (fun b2 => ?_)
  refine zAs ?_; refine zAs ?_; refine zAs ?_; refine zN (zS ?_); refine zLd ?_; refine zMv ?_
  refine aops_call_v zRc (pdel_con c hok.l10 s (by omega) hok.s2 hok.decl hok.nn) rfl rfl ?_
  refine aops_alloc rfl zRc rfl rfl (fun b7 => ?_)
  refine zSt ?_; refine zN ?_; refine awp_seq ?_; refine zS ?_; refine zLd ?_
  refine aops_call_v zRc (all_con c hok.len.2) rfl rfl ?_
  refine zAr ?_; refine zMv ?_; refine zN ?_; refine awp_block ?_
  refine awp_loop1 [2, 7, 14] [.box b7 _ _, .box b2 _ _] (fun (k : Nat) r => (15, .i (k : Int)) :: r) (fun (k : Nat) r => r) (fun (k : Nat) => k ≤ 2 ^ c.length ∧ pairGo (pairL c s) (pairR c s) (2 ^ c.length - k) k = pairC c s) (fun (k : Nat) => 2 ^ c.length - k) (0) zRc ⟨by omega, rfl⟩ (wk zSub zKeep) ?_
  intro k ⟨hk, hI⟩
  refine zS ?_; refine zCm ?_; refine zN ?_; refine awp_seq ?_
  refine zC (fun hc => ?_) fun hc => ?_
  · have hlt := of_decide_eq_true hc
    refine awp_skip ?_; refine seqQ_n ?_; refine awp_seq ?_; refine awp_block ?_; refine zS ?_; refine zMv ?_; refine zAs ?_; refine zN ?_; refine awp_seq ?_
    refine awp_draw (Hm := []) zKr zSplit ?_
    refine zTM 0 ?_
    refine zT 1 rfl (AP.ar (ap_move rfl)) ?_
    refine zTM 3 ?_; refine zTM 4 ?_
    refine zT 6 rfl (AP.ar (ap_move rfl)) ?_
    refine aany_one 2 zKr rfl (.none rfl) ?_
    refine aops_call_v zRc (great_con (delC c s) k) rfl rfl ?_
    refine aops_nil ?_
    refine aany_one 5 zKr rfl (.none rfl) ?_
    refine aops_call_v zRc (all_con c hok.len.2) rfl rfl ?_
    refine aops_nil ?_
    refine zT 7 rfl (AP.ar (ap_bits rfl rfl rfl (by omega) (by omega))) ?_
    refine aany_one 8 zKr rfl (.none rfl) ?_
    refine aops_call_v zRc (great_con (delC c s) (co c k : Nat)) rfl rfl ?_
    refine aops_nil ?_
    refine zT 9 rfl (AP.ar (ap_assign rfl)) ?_
    refine zT 10 rfl (AP.ar (ap_assign rfl)) ?_
    refine aany_nil zKr ?_
    all_goals (
      refine seqQ_n ?_; refine zS ?_; refine zMv ?_; refine zCm ?_; refine zMv ?_
      all_goals first | (refine zY ?_; refine zMv ?_) | refine zU ?_ | refine zNt ?_ | (refine zGt (fun hg => ?_) fun hg => ?_; case' _ => refine zMv ?_)
      all_goals first | (refine zY ?_; refine zCm ?_) | refine zU ?_ | refine zNt ?_ | (refine zGt (fun hg => ?_) fun hg => ?_; case' _ => refine zCm ?_)
      all_goals refine zPk ?_
      all_goals (
        refine zN ?_
        refine zC (fun hc => ?_) fun hc => ?_
        · first
          | (exact absurd hc (by decide))
          | (refine awp_seq ?_
             refine awp_region ?_; refine zMv ?_; refine zMv ?_; refine zAs ?_; refine zAs ?_; refine zAs ?_; refine zN ?_; refine awp_ret ?_; refine blockQ_r ?_; refine seqQ_r ?_; refine seqQ_r ?_; refine blockQ_r ?_; refine seqQ_r ?_
             rw [pairGo_hit (by omega) (nez_t (by unfold pairL; with_reducible assumption)) (nez_t (by unfold pairR; with_reducible assumption))] at hI
             rw [← hI]
             exact post_is (.tmp rfl (.tmp rfl (.tmp rfl .nil))) zKeep rfl
            )
        · first
          | (exact absurd hc (by decide))
          | (refine awp_skip ?_
             refine blockQ_n ?_; refine seqQ_n ?_; refine awp_region ?_; refine zAr ?_; refine zMv ?_; refine zN ?_
             have hz : pairL c s k = 0 ∨ pairR c s k = 0 := by
               first
               | (refine .inl (nez_f ?_); unfold pairL; with_reducible assumption)
               | (refine .inr (nez_f ?_); unfold pairR; with_reducible assumption)
             rw [pairGo_step (by omega) hz] at hI
             refine ⟨k + 1, ⟨by omega, hI⟩, by omega, wk zSub zKeep⟩
            )
        )
      )
  · have hge := of_decide_eq_false hc
    rw [pairGo_nil (by omega)] at hI
    refine awp_exit ?_; refine seqQ_x ?_; refine seqQ_x ?_; refine blockQ_x rfl ?_; refine seqQ_n ?_; refine zS ?_; refine zAs ?_; refine zAs ?_; refine zAs ?_; refine zN ?_; refine awp_ret ?_
    rw [← hI]
    exact post_is (.tmp rfl (.tmp rfl (.tmp rfl .nil))) zKeep rfl
theorem judge_con (c : List Mem) (hok : OKA c) (s : Nat) (hs : s < 2 ^ c.length) : Con none Try.prog 25 [cv c, .i s] [] (Is (vv (judgeC c s)) []) := by
  have hcap : capB = 140737488355328 := rfl
  refine con_intro Try.func25 rfl Try.call25 rfl ?_
  refine zS ?_
  refine aops_box rfl zFlat rfl rfl (fun b2 => ?_)
  refine aops_alloc rfl zRc rfl rfl (fun b4 => ?_)
  refine zN (zS ?_); refine zLd ?_; refine zMv ?_
  refine aops_call_v zRc (apair_con c hok s hs) rfl rfl ?_
  refine zMv ?_
  refine zP (ap_extract rfl rfl) ?_
  refine zP (ap_extract rfl rfl) ?_
  refine zP (ap_extract rfl rfl) ?_
  refine zAs ?_; refine zAs ?_; refine zAs ?_; refine zN (zS ?_); refine zMv ?_; refine zMv ?_; refine zLd ?_; refine zMv ?_
  refine aops_call_v zRc (silent_con c hok s hs) rfl rfl ?_
  refine zMv ?_; refine zMv ?_
  refine zP (ap_build zKr rfl zRc zFill) ?_
  refine zSt ?_; refine zN ?_; refine awp_ret ?_
  exact post_is (.cell rfl zUpd rfl rfl .nil) zKeep rfl
theorem Judge_con (c : List Mem) (hok : OKA c) (s : Nat) (hs : s < 2 ^ c.length) : Con none Try.prog 12 [cv c, .i s] [] (Is (.tup [vv (judgeC c s), .i 0]) []) := by
  have hcap : capB = 140737488355328 := rfl
  refine con_intro Try.func12 rfl Try.call12 rfl ?_
  refine zS ?_
  refine aops_box rfl zFlat rfl rfl (fun b2 => ?_)
  refine aops_alloc rfl zRc rfl rfl (fun b4 => ?_)
  refine zAs ?_; refine zN ?_; refine awp_seq ?_; refine zS ?_; refine zLd ?_; refine zMv ?_
  refine aops_call_v zRc (check_con c hok s hs) rfl rfl ?_
  refine zAs ?_; refine zN (zS ?_); refine zMv ?_; refine zCm ?_; refine zN ?_
  refine awp_cond_f rfl zDec ?_
  refine awp_skip ?_; refine seqQ_n ?_; refine zS ?_; refine zLd ?_; refine zMv ?_
  refine aops_call_v zRc (judge_con c hok s hs) rfl rfl ?_
  refine zSt ?_; refine zAs ?_; refine zN ?_; refine awp_ret ?_
  exact post_is (.cell rfl zUpd rfl rfl (.tmp rfl .nil)) zKeep rfl
theorem Silent_con (c : List Mem) (hok : OKA c) (s : Nat) (hs : s < 2 ^ c.length) : Con none Try.prog 28 [cv c, .i s] [] (Is (.b (silentC c s)) []) := by
  have hcap : capB = 140737488355328 := rfl
  refine con_intro Try.func28 rfl Try.call28 rfl ?_
  refine zS ?_
  refine aops_box rfl zFlat rfl rfl (fun b2 => ?_)
  refine zAs ?_; refine zN (zS ?_); refine zLd ?_; refine zMv ?_
  refine aops_call_v zRc (check_con c hok s hs) rfl rfl ?_
  refine zCm ?_; refine zMv ?_
  all_goals first | (refine zY ?_; refine zLd ?_) | refine zU ?_ | refine zNt ?_ | (refine zGt (fun hg => ?_) fun hg => ?_; case' _ => refine zLd ?_)
  all_goals first | (refine zY ?_; refine zMv ?_) | refine zU ?_ | refine zNt ?_ | (refine zGt (fun hg => ?_) fun hg => ?_; case' _ => refine zMv ?_)
  all_goals first | (refine zY ?_; refine aops_call_v zRc (silent_con c hok s hs) rfl rfl ?_) | refine zU ?_ | refine zNt ?_ | (refine zGt (fun hg => ?_) fun hg => ?_; case' _ => refine aops_call_v zRc (silent_con c hok s hs) rfl rfl ?_)
  all_goals refine zPk ?_
  all_goals refine zAs ?_
  all_goals (
    refine zN ?_; refine awp_ret ?_
    exact post_is (.tmp rfl .nil) zKeep rfl
    )
def subV (p : Vd → Bool) (v o : Vd) : Bool := p o && (!decide ((o.nodes : Int) = v.nodes) && decide (((o.nodes &&& (2 ^ 63 - 1 - v.nodes) : Nat) : Int) = 0))
def leastGo (p : Vd → Bool) (l : List Vd) : List Vd → List Int → List Int
  | [], out => out
  | v :: r, out => if (p v && !(l.any (subV p v))) = true then leastGo p l r (out ++ [(v.nodes : Int)]) else leastGo p l r out
def leastV (p : Vd → Bool) (l : List Vd) : List Int := leastGo p l l []
theorem leastGo_t {p : Vd → Bool} {l r : List Vd} {v : Vd} {out : List Int} (h : (p v && !(l.any (subV p v))) = true) : leastGo p l (v :: r) out = leastGo p l r (out ++ [(v.nodes : Int)]) := by rw [leastGo, if_pos h]
theorem leastGo_f {p : Vd → Bool} {l r : List Vd} {v : Vd} {out : List Int} (h : (p v && !(l.any (subV p v))) = false) : leastGo p l (v :: r) out = leastGo p l r out := by rw [leastGo, if_neg (by rw [h]; decide)]
theorem within_con (g : FuncId) (p : Vd → Bool) (hp0 : ∀ v, Con none Try.prog g [vv v] [] (Is (.b (p v)) [])) (b3 b7 : Nat) (v o : Vd) (hv : v.nodes < 1024) (ho : o.nodes < 1024) : Con none Try.prog 37 [vv o, .p b3 0, .p b7 0] [.box b7 38 [.i v.nodes, .b v.splits, .b v.halts, .i v.l, .i v.r], .box b3 58 [.v (.func (.func g) #[] #[])]] (Is (.b (subV p v o)) [.box b7 38 [.i v.nodes, .b v.splits, .b v.halts, .i v.l, .i v.r], .box b3 58 [.v (.func (.func g) #[] #[])]]) := by
  have hcap : capB = 140737488355328 := rfl
  refine con_intro Try.func37 rfl Try.call37 rfl ?_
  refine zS ?_
  refine aops_box rfl zFlat rfl rfl (fun b3 => ?_)
  refine zAs ?_; refine zN (zS ?_); refine zL1 ?_; refine zLd ?_
  refine aops_callv_b (caps := []) rfl zRc (hp0 o) rfl rfl (fun c7 hc7 => ?_)
  refine zMv ?_
  all_goals first | (refine zY ?_; refine zF 0 1 false ?_) | refine zU ?_ | refine zNt ?_ | (refine zGt (fun hg => ?_) fun hg => ?_; case' _ => refine zF 0 1 false ?_)
  all_goals first | (refine zY ?_; refine zL1 ?_) | refine zU ?_ | refine zNt ?_ | (refine zGt (fun hg => ?_) fun hg => ?_; case' _ => refine zL1 ?_)
  all_goals first | (refine zY ?_; refine zF 0 1 false ?_) | refine zU ?_ | refine zNt ?_ | (refine zGt (fun hg => ?_) fun hg => ?_; case' _ => refine zF 0 1 false ?_)
  all_goals first | (refine zY ?_; refine zL1 ?_) | refine zU ?_ | refine zNt ?_ | (refine zGt (fun hg => ?_) fun hg => ?_; case' _ => refine zL1 ?_)
  all_goals first | (refine zY ?_; refine zCm ?_) | refine zU ?_ | refine zNt ?_ | (refine zGt (fun hg => ?_) fun hg => ?_; case' _ => refine zCm ?_)
  all_goals refine zPk ?_
  all_goals refine zMv ?_
  all_goals first | (refine zY ?_; refine zF 0 1 false ?_) | refine zU ?_ | refine zNt ?_ | (refine zGt (fun hg => ?_) fun hg => ?_; case' _ => refine zF 0 1 false ?_)
  all_goals first | (refine zY ?_; refine zL1 ?_) | refine zU ?_ | refine zNt ?_ | (refine zGt (fun hg => ?_) fun hg => ?_; case' _ => refine zL1 ?_)
  all_goals first | (refine zY ?_; refine zF 0 1 false ?_) | refine zU ?_ | refine zNt ?_ | (refine zGt (fun hg => ?_) fun hg => ?_; case' _ => refine zF 0 1 false ?_)
  all_goals first | (refine zY ?_; refine zL1 ?_) | refine zU ?_ | refine zNt ?_ | (refine zGt (fun hg => ?_) fun hg => ?_; case' _ => refine zL1 ?_)
  all_goals first | (refine zY ?_; refine zP (ap_bits rfl rfl rfl (by omega) (by omega)) ?_) | refine zU ?_ | refine zNt ?_ | (refine zGt (fun hg => ?_) fun hg => ?_; case' _ => refine zP (ap_bits rfl rfl rfl (by omega) (by omega)) ?_)
  all_goals first | (refine zY ?_; refine zCm ?_) | refine zU ?_ | refine zNt ?_ | (refine zGt (fun hg => ?_) fun hg => ?_; case' _ => refine zCm ?_)
  all_goals refine zPk ?_
  all_goals refine zAs ?_
  all_goals (
    refine zN ?_; refine awp_ret ?_
    refine post_is (.tmp rfl .nil) zKeep ?_
    unfold subV
    first
    | (simp_all [resD]; done)
    )
theorem isSplit_con (v : Vd) : Con none Try.prog 20 [vv v] [] (Is (.b v.splits) []) := by
  have hcap : capB = 140737488355328 := rfl
  refine con_intro Try.func20 rfl Try.call20 rfl ?_
  refine zS ?_
  refine aops_box rfl zFlat rfl rfl (fun b1 => ?_)
  refine zAs ?_; refine zN (zS ?_); refine zF 1 1 false ?_; refine zL1 ?_; refine zAs ?_; refine zN ?_; refine awp_ret ?_
  exact post_is (.tmp rfl .nil) zKeep rfl
theorem isHalt_con (v : Vd) : Con none Try.prog 21 [vv v] [] (Is (.b v.halts) []) := by
  have hcap : capB = 140737488355328 := rfl
  refine con_intro Try.func21 rfl Try.call21 rfl ?_
  refine zS ?_
  refine aops_box rfl zFlat rfl rfl (fun b1 => ?_)
  refine zAs ?_; refine zN (zS ?_); refine zF 2 1 false ?_; refine zL1 ?_; refine zAs ?_; refine zN ?_; refine awp_ret ?_
  exact post_is (.tmp rfl .nil) zKeep rfl
theorem aleast_con (g : FuncId) (p : Vd → Bool) (hp0 : ∀ v, Con none Try.prog g [vv v] [] (Is (.b (p v)) [])) (l : List Vd) (hl : ∀ v ∈ l, v.nodes < 1024) (hlen : l.length ≤ 1000000) : Con none Try.prog 19 [.sl 5 (l.map vv), .v (.func (.func g) #[] #[])] [] (Is (.sl 1 ((leastV p l).map .i)) []) := by
  have hcap : capB = 140737488355328 := rfl
  have hl1 : (l.map vv).length = l.length := by simp
  refine con_intro Try.func19 rfl Try.call19 rfl ?_
  refine zS ?_
  refine aops_box rfl zFlat rfl rfl (fun b3 => ?_)
  refine zAs ?_; refine zN (zS ?_); refine zAs ?_; refine zN ?_; refine awp_seq ?_; refine zS ?_; refine zMv ?_
  first | refine aops_len rfl rfl rfl rfl (fun _ => ?_) | refine zP (ap_len_arr rfl zUpd rfl) ?_ | refine zP (ap_len_nil rfl rfl) ?_
  refine zMv ?_; refine zN ?_; refine awp_block ?_
  refine awp_loop3 [0, 3, 9, 10] [.box b3 _ _] (fun (k : Nat) (v : Value) (q : List Int) r => (5, .v v) :: (11, .i (k : Int)) :: r) (fun (k : Nat) (v : Value) (q : List Int) r => .arr v 3 1 (q.map .i) :: r) (fun (k : Nat) (v : Value) (q : List Int) => k ≤ l.length ∧ q.length ≤ k ∧ leastGo p l (l.drop k) q = leastV p l) (fun (k : Nat) (v : Value) (q : List Int) => l.length - k) (0) (.slice none 0 0) ([]) zRc ⟨by omega, by simp, by simp [leastV]⟩ ((wk_own 3 1 rfl).trans (wk zSub zKeep)) ?_
  intro k v q ⟨hk, hql, hI⟩
  have hml : (q.map D.i).length = q.length := by simp
  refine zS ?_; refine zCm ?_; refine zN ?_; refine awp_seq ?_
  refine zC (fun hc => ?_) fun hc => ?_
  · have hlt := of_decide_eq_true hc
    obtain ⟨x, hx, hd⟩ := drop_cons (l := l) (k := k) (by omega)
    have hx' := getMap vv hx
    refine awp_skip ?_; refine seqQ_n ?_; refine awp_seq ?_; refine awp_block ?_; refine zS ?_
    first | refine zP (ap_index rfl rfl rfl rfl (by decide) rfl zAss) ?_ | refine zP (ap_index rfl rfl rfl rfl (by decide) (by omega) zAss) ?_ | refine zP (ap_index_own rfl rfl rfl rfl rfl (by first | omega | (simp only [List.length_map, List.length_set, avs_len]; omega))) ?_
    refine zLd ?_
    refine aops_alloc rfl zRc rfl rfl (fun b7 => ?_)
    refine zSt ?_; refine zN (zS ?_)
    refine zP (ap_makeFunc zRc) ?_
    refine zAs ?_; refine zN (zS ?_); refine zL1 ?_; refine zLd ?_
    refine aops_callv_b (caps := []) rfl zRc (hp0 x) rfl rfl (fun c18 hc18 => ?_)
    refine zMv ?_
    all_goals first | (refine zY ?_; refine zMv ?_) | refine zU ?_ | refine zNt ?_ | (refine zGt (fun hg => ?_) fun hg => ?_; case' _ => refine zMv ?_)
    all_goals first | (refine zY ?_; refine zMv ?_) | refine zU ?_ | refine zNt ?_ | (refine zGt (fun hg => ?_) fun hg => ?_; case' _ => refine zMv ?_)
    all_goals first | (refine zY ?_; (refine aops_call_is zRc (containsFV_con b3 b7 _ _ 37 (subV p x) l (fun o ho => within_con g p hp0 b3 b7 x o (hl x (List.mem_of_getElem? hx)) (hl o ho))) zSplit rfl rfl ?_; obtain ⟨c22, hc22⟩ : ∃ b, b = l.any (subV p x) := ⟨_, rfl⟩; rw [← hc22])) | refine zU ?_ | refine zNt ?_ | (refine zGt (fun hg => ?_) fun hg => ?_; case' _ => (refine aops_call_is zRc (containsFV_con b3 b7 _ _ 37 (subV p x) l (fun o ho => within_con g p hp0 b3 b7 x o (hl x (List.mem_of_getElem? hx)) (hl o ho))) zSplit rfl rfl ?_; obtain ⟨c22, hc22⟩ : ∃ b, b = l.any (subV p x) := ⟨_, rfl⟩; rw [← hc22]))
    all_goals first | (refine zY ?_; refine zNo ?_) | refine zU ?_ | refine zNt ?_ | (refine zGt (fun hg => ?_) fun hg => ?_; case' _ => refine zNo ?_)
    all_goals refine zPk ?_
    all_goals (
      refine zN ?_
      refine zC (fun hc => ?_) fun hc => ?_
      · first
        | (exact absurd hc (by decide))
        | (refine awp_region ?_
           refine zMv ?_; refine zF 0 1 false ?_; refine zL1 ?_
           refine aops_lit (e := 3) (sz := 1) (by_ := 8) rfl rfl zRc rfl rfl rfl rfl ?_
           first | refine aops_append (e := 3) (sz := 1) (by_ := 8) rfl zUpd rfl rfl rfl rfl rfl zLen (fun v29 hv29 => ?_) | refine aops_append_nil (e := 3) (sz := 1) (by_ := 8) rfl rfl rfl rfl rfl rfl zLen (fun v29 hv29 => ?_)
           refine zAs ?_; refine aops_nil ?_; refine blockQ_n ?_; refine seqQ_n ?_; refine awp_region ?_; refine zAr ?_; refine zMv ?_; refine zN ?_
           rw [hd] at hI
           first
           | (have h0 : c18 = false := (by with_reducible assumption); rw [leastGo_f (by rw [hc18, h0]; rfl)] at hI; refine ⟨k + 1, v, q, ⟨by omega, by omega, hI⟩, by omega, wk zSub zKeep⟩)
           | (have h0 : (!c22) = false := (by with_reducible assumption); rw [leastGo_f (by rw [← hc22, h0, Bool.and_false])] at hI; refine ⟨k + 1, v, q, ⟨by omega, by omega, hI⟩, by omega, wk zSub zKeep⟩)
           | (have h0 : (!c22) = true := (by with_reducible assumption); have h1 : c18 = true := (by with_reducible assumption); rw [leastGo_t (by rw [hc18, ← hc22, h0, h1]; rfl)] at hI; rw [mapi_snoc]; refine ⟨k + 1, _, q ++ [(x.nodes : Int)], ⟨by omega, by simp only [List.length_append, List.length_cons, List.length_nil]; omega, hI⟩, by omega, wk zSub zKeep⟩)
          )
      · first
        | (exact absurd hc (by decide))
        | (refine awp_skip ?_
           refine blockQ_n ?_; refine seqQ_n ?_; refine awp_region ?_; refine zAr ?_; refine zMv ?_; refine zN ?_
           rw [hd] at hI
           first
           | (have h0 : c18 = false := (by with_reducible assumption); rw [leastGo_f (by rw [hc18, h0]; rfl)] at hI; refine ⟨k + 1, v, q, ⟨by omega, by omega, hI⟩, by omega, wk zSub zKeep⟩)
           | (have h0 : (!c22) = false := (by with_reducible assumption); rw [leastGo_f (by rw [← hc22, h0, Bool.and_false])] at hI; refine ⟨k + 1, v, q, ⟨by omega, by omega, hI⟩, by omega, wk zSub zKeep⟩)
           | (have h0 : (!c22) = true := (by with_reducible assumption); have h1 : c18 = true := (by with_reducible assumption); rw [leastGo_t (by rw [hc18, ← hc22, h0, h1]; rfl)] at hI; rw [mapi_snoc]; refine ⟨k + 1, _, q ++ [(x.nodes : Int)], ⟨by omega, by simp only [List.length_append, List.length_cons, List.length_nil]; omega, hI⟩, by omega, wk zSub zKeep⟩)
          )
      )
  · have hge := of_decide_eq_false hc
    rw [drop_nil (by omega)] at hI
    simp only [leastGo] at hI
    refine awp_freeze v [5] zRem zSelC zHeapA ?_
    refine awp_exit ?_; refine seqQ_x ?_; refine seqQ_x ?_; refine blockQ_x rfl ?_; refine seqQ_n ?_; refine zS ?_; refine zMv ?_; refine zAs ?_; refine zN ?_; refine awp_ret ?_
    rw [← hI]
    exact post_is (.tmp rfl .nil) zKeep rfl
theorem rInts_con (x y : List Int) : Con none Try.prog 27 [.sl 1 (x.map .i), .sl 1 (y.map .i)] [] (Is (.b (decide (x = y))) []) := by
  have hcap : capB = 140737488355328 := rfl
  have hx1 : (x.map D.i).length = x.length := by simp
  have hy1 : (y.map D.i).length = y.length := by simp
  refine con_intro Try.func27 rfl Try.call27 rfl ?_
  refine zS ?_; refine zAs ?_; refine zN ?_; refine awp_seq ?_; refine zS ?_; refine zMv ?_
  first | refine aops_len rfl rfl rfl rfl (fun _ => ?_) | refine zP (ap_len_arr rfl zUpd rfl) ?_ | refine zP (ap_len_nil rfl rfl) ?_
  refine zMv ?_
  first | refine aops_len rfl rfl rfl rfl (fun _ => ?_) | refine zP (ap_len_arr rfl zUpd rfl) ?_ | refine zP (ap_len_nil rfl rfl) ?_
  refine zCm ?_; refine zN ?_
  refine zC (fun hc => ?_) fun hc => ?_
  · have hne := of_neq_true hc
    refine zS ?_; refine zAs ?_; refine zN ?_; refine awp_ret ?_; refine seqQ_r ?_
    refine post_is (.tmp rfl .nil) zKeep ?_
    rw [decide_eq_false (fun e => hne (by rw [e]))]; rfl
  · have hlen := of_neq_false hc
    have hll : x.length = y.length := by omega
    refine awp_skip ?_; refine seqQ_n ?_; refine awp_seq ?_; refine zS ?_; refine zMv ?_
    first | refine aops_len rfl rfl rfl rfl (fun _ => ?_) | refine zP (ap_len_arr rfl zUpd rfl) ?_ | refine zP (ap_len_nil rfl rfl) ?_
    refine zMv ?_; refine zN ?_; refine awp_block ?_
    refine awp_loop1 [0, 1, 12] [] (fun (k : Nat) r => (13, .i (k : Int)) :: r) (fun (k : Nat) r => r) (fun (k : Nat) => k ≤ x.length ∧ x.take k = y.take k) (fun (k : Nat) => x.length - k) (0) zRc ⟨by omega, by simp⟩ (wk zSub zKeep) ?_
    intro k ⟨hk, hI⟩
    refine zS ?_; refine zCm ?_; refine zN ?_; refine awp_seq ?_
    refine zC (fun hc => ?_) fun hc => ?_
    · have hlt := of_decide_eq_true hc
      obtain ⟨u, hu, _⟩ := drop_cons (l := x) (k := k) (by omega)
      obtain ⟨v, hv, _⟩ := drop_cons (l := y) (k := k) (by omega)
      have hu' := getMap D.i hu
      have hv' := getMap D.i hv
      refine awp_skip ?_; refine seqQ_n ?_; refine awp_seq ?_; refine awp_block ?_; refine zS ?_; refine zMv ?_; refine zAs ?_; refine zN ?_; refine awp_seq ?_
      refine awp_draw (Hm := []) zKr zSplit ?_
      refine zT 0 rfl (AP.ar (ap_move rfl)) ?_
      refine zT 1 rfl (AP.ar (ap_move rfl)) ?_
      first | refine zT 2 rfl (AP.ar (ap_index rfl rfl rfl rfl (by decide) rfl zAss)) ?_ | refine zT 2 rfl (AP.ar (ap_index rfl rfl rfl rfl (by decide) (by omega) zAss)) ?_ | refine zT 2 rfl (AP.ar (ap_index_own rfl rfl rfl rfl rfl (by first | omega | (simp only [List.length_map, List.length_set, avs_len]; omega)))) ?_
      refine zTL 3 ?_
      refine zT 4 rfl (AP.ar (ap_move rfl)) ?_
      refine zT 5 rfl (AP.ar (ap_move rfl)) ?_
      first | refine zT 6 rfl (AP.ar (ap_index rfl rfl rfl rfl (by decide) rfl zAss)) ?_ | refine zT 6 rfl (AP.ar (ap_index rfl rfl rfl rfl (by decide) (by omega) zAss)) ?_ | refine zT 6 rfl (AP.ar (ap_index_own rfl rfl rfl rfl rfl (by first | omega | (simp only [List.length_map, List.length_set, avs_len]; omega)))) ?_
      refine zTL 7 ?_
      refine zT 8 rfl (AP.ar (ap_cmp rfl rfl rfl)) ?_
      refine aany_nil zKr ?_
      all_goals (
        refine seqQ_n ?_
        refine zC (fun hc => ?_) fun hc => ?_
        · have hne := of_neq_true hc
          refine zS ?_; refine zAs ?_; refine zN ?_; refine awp_ret ?_; refine blockQ_r ?_; refine seqQ_r ?_; refine seqQ_r ?_; refine blockQ_r ?_; refine seqQ_r ?_
          refine post_is (.tmp rfl .nil) zKeep ?_
          rw [decide_eq_false (fun e => hne (by rw [e, hv] at hu; injection hu with hu; exact hu.symm))]; rfl
        · refine awp_skip ?_
          refine blockQ_n ?_; refine seqQ_n ?_; refine awp_region ?_; refine zAr ?_; refine zMv ?_; refine zN ?_
          have e := of_neq_false hc
          refine ⟨k + 1, ⟨by omega, by rw [List.take_add_one, List.take_add_one, hI, hu, hv, e]⟩, by omega, wk zSub zKeep⟩
        )
    · have hge := of_decide_eq_false hc
      refine awp_exit ?_; refine seqQ_x ?_; refine seqQ_x ?_; refine blockQ_x rfl ?_; refine seqQ_n ?_; refine zS ?_; refine zAs ?_; refine zN ?_; refine awp_ret ?_
      refine post_is (.tmp rfl .nil) zKeep ?_
      rw [List.take_of_length_le (by omega), List.take_of_length_le (by omega)] at hI; rw [decide_eq_true hI]; rfl
theorem tmod_bd2 (x : Int) {n : Int} (hn : 0 < n) : 0 ≤ (x.tmod n + n).tmod n ∧ (x.tmod n + n).tmod n < n := by
  have h := tmod_bd x hn
  exact ⟨Int.tmod_nonneg n (by omega), Int.tmod_lt_of_pos _ hn⟩
/-- A trust over n nodes as the source makes it. -/
structure OKS (n : Nat) (t : Trust) : Prop where
  ok : OKT n t
  nn : NN t
theorem trust5 {n : Nat} {th : Int} {q : List Int} {i2 : List Trust} (hn : n ≤ 9) (h1 : 1 ≤ th) (h2 : th ≤ q.length + i2.length) (hq : ∀ k ∈ q, 0 ≤ k ∧ k < (n : Int)) (hd : q.Nodup) (hl : q.length ≤ n) (hi : i2 = [] ∨ ∃ r : Int, (0 ≤ r ∧ r < n) ∧ i2 = [.mk 1 [r] []]) : OKS n (.mk th q i2) := by
  have hs : sizeT (.mk th q i2) ≤ 100 := by
    rcases hi with rfl | ⟨r, hr, rfl⟩ <;> simp [sizeT, Trust.nodes, Trust.inner, sizeL, size0] <;> omega
  have hil : i2.length ≤ 1 := by rcases hi with rfl | ⟨r, hr, rfl⟩ <;> simp
  have hv : validT (.mk th q i2) = 0 := by
    refine validT_of ?_ (by omega) (check_node h1 (by exact h2) (fun k hk => by have := hq k hk; omega) hd ?_)
    · rcases hi with rfl | ⟨r, hr, rfl⟩ <;> simp [depthT, Trust.inner, depthL, depth0]
    · rcases hi with rfl | ⟨r, hr, rfl⟩
      · exact fun x h => absurd h List.not_mem_nil
      · intro x hx
        obtain rfl : x = .mk 1 [r] [] := by simpa using hx
        exact check_leaf (by omega)
  refine ⟨OKT_of ⟨hq, (nbL_iff _ _).2 fun x hx => ?_⟩ hv, .mk ⟨by omega, by omega⟩ fun x hx => ?_⟩
  · rcases hi with rfl | ⟨r, hr, rfl⟩
    · exact absurd hx List.not_mem_nil
    · have hx1 : x ∈ [Trust.mk 1 [r] []] := hx
      obtain rfl : x = .mk 1 [r] [] := by simpa using hx1
      refine ⟨fun k hk => ?_, trivial⟩
      have hk1 : k ∈ [r] := hk
      obtain rfl : k = r := by simpa using hk1
      exact hr
  · rcases hi with rfl | ⟨r, hr, rfl⟩
    · exact absurd hx List.not_mem_nil
    · obtain rfl : x = .mk 1 [r] [] := by simpa using hx
      exact .mk ⟨by omega, by omega⟩ (fun y hy => absurd hy List.not_mem_nil)
def upN (n : Nat) : List Int := (List.range n).map fun (i : Nat) => (i : Int)
theorem upN_len (n : Nat) : (upN n).length = n := by simp [upN]
theorem upN_succ (n : Nat) : upN (n + 1) = upN n ++ [(n : Int)] := by simp [upN, List.range_succ]
theorem upN_mem {n : Nat} {k : Int} (h : k ∈ upN n) : 0 ≤ k ∧ k < (n : Int) := by
  obtain ⟨i, hi, rfl⟩ := List.mem_map.1 h
  have := List.mem_range.1 hi
  omega
theorem upN_nodup : ∀ n, (upN n).Nodup
  | 0 => by simp [upN]
  | n + 1 => by rw [upN_succ]; exact nodup_snoc (upN_nodup n) (fun k hk => (upN_mem hk).2) (by omega)
theorem flat_oks {n : Nat} {k : Int} (hn : 1 ≤ n ∧ n ≤ 9) (h1 : 1 ≤ k) (h2 : k ≤ n) : OKS n (.mk k (upN n) []) :=
  trust5 hn.2 h1 (by rw [upN_len]; simp; omega) (fun x hx => upN_mem hx) (upN_nodup n) (by rw [upN_len]; omega) (.inl rfl)
/-- A configuration as the source makes it. -/
theorem oka_of {c : List Mem} (hl : 1 ≤ c.length ∧ c.length ≤ 4) (h : ∀ m ∈ c, m.decl = true ∧ OKS c.length m.t) : OKA c :=
  ⟨hl, fun m hm => (h m hm).1, fun m hm => size_of_valid (h m hm).2.ok.vd, fun m hm => (h m hm).2.nn,
    validC_ok ⟨by omega, fun m hm => ⟨fun e => (by rw [(h m hm).1] at e; cases e), fun _ => (h m hm).2.ok⟩⟩⟩
theorem SNew_con (l : List Int) : Con none Try.prog 6 [.sl 1 (l.map .i)] [] (fun d H => ∃ b, d = .p b 0 ∧ H = [.box b 48 [.sl 1 ((l.take 800).map .i), .i ((0 : Nat) : Int)]]) := by
  have hcap : capB = 140737488355328 := rfl
  have hl1 : (l.map D.i).length = l.length := by simp
  refine con_intro Try.func6 rfl Try.call6 rfl ?_
  refine zS ?_; refine zAs ?_; refine zN (zS ?_); refine zMv ?_; refine zMv ?_
  first | refine aops_len rfl rfl rfl rfl (fun _ => ?_) | refine zP (ap_len_arr rfl zUpd rfl) ?_ | refine zP (ap_len_nil rfl rfl) ?_
  refine zP (ap_min rfl rfl) ?_
  refine zP (ap_slice_to (k := min l.length 800) rfl rfl rfl rfl (by simp only [List.length_map]; omega) (by simp only [List.length_map]; omega)) ?_; rw [← List.map_take]
  refine zP (ap_build zKr rfl zRc zFill) ?_
  refine aops_box rfl zFlat rfl rfl (fun b9 => ?_)
  refine zAs ?_; refine zN ?_; refine awp_ret ?_
  have e : l.take 800 = l.take (min l.length 800) := by rw [Nat.min_comm]; exact List.take_eq_take_min
  rw [e]
  refine post_ret (.tmp rfl .nil) zKeep ⟨_, rfl, rfl⟩
theorem SN_con (b : Nat) (l : List Int) (a : Nat) (n : Int) (hn : 1 ≤ n ∧ n ≤ 4611686018427387904) : Con none Try.prog 16 [.p b 0, .i n] [.box b 48 [.sl 1 (l.map .i), .i ((a : Nat) : Int)]] (fun d H => ∃ (r : Int) (a' : Nat), d = .i r ∧ (0 ≤ r ∧ r < n) ∧ H = [.box b 48 [.sl 1 (l.map .i), .i ((a' : Nat) : Int)]]) := by
  have hcap : capB = 140737488355328 := rfl
  have hl1 : (l.map D.i).length = l.length := by simp
  refine con_intro Try.func16 rfl Try.call16 rfl ?_
  refine zS ?_; refine zAs ?_; refine zN ?_; refine awp_seq ?_; refine awp_seq ?_
  refine awp_draw (Hm := []) zKr zSplit ?_
  refine zT 0 rfl (AP.ar (ap_move rfl)) ?_
  first | refine zT 1 rfl (AP.ar (ap_nilCheck rfl)) ?_ | refine zT 1 rfl (AP.ar (ap_nilCheck_el rfl)) ?_
  refine zTF 2 1 1 false ?_; refine zTL 3 ?_
  refine zT 4 rfl (AP.ar (ap_move rfl)) ?_
  first | refine zT 5 rfl (AP.ar (ap_nilCheck rfl)) ?_ | refine zT 5 rfl (AP.ar (ap_nilCheck_el rfl)) ?_
  refine zTF 6 0 1 false ?_; refine zTL 7 ?_
  first | refine zT 8 rfl (AP.ar (ap_len rfl rfl)) ?_ | refine zT 8 rfl (ar_len_arr rfl zUpd rfl) ?_ | refine zT 8 rfl (AP.ar (ap_len_nil rfl rfl)) ?_
  refine zT 9 rfl (AP.ar (ap_cmp rfl rfl rfl)) ?_
  refine zT 10 rfl (AP.ar (ap_move rfl)) ?_
  refine aany_guard 10 rfl (fun hg => ?_) (fun hg => ?_)
  rotate_left
  case' _ =>
    refine zT 11 rfl (AP.ar (ap_move rfl)) ?_
    refine zT 12 rfl (AP.ar (ap_cmp rfl rfl rfl)) ?_
    refine zTp 13 ?_; refine aany_nil zKr ?_
  rotate_right
  case' _ =>
    refine zK 11 ?_; refine zK 12 ?_; refine zTp 13 ?_; refine aany_nil zKr ?_
  all_goals (
    refine seqQ_n ?_
    refine zC (fun hc => ?_) fun hc => ?_
    · first
      | (exact absurd hc (by decide))
      | (first | (have h18 := of_decide_eq_true hc) | (have h18 := hc)
         refine zS ?_; refine zAs ?_; refine zN ?_; refine awp_ret ?_; refine seqQ_r ?_
         refine post_ret (.tmp rfl .nil) zKeep ⟨_, _, rfl, ?_, rfl⟩
         omega
        )
    · first
      | (exact absurd hc (by decide))
      | (have h17 := of_decide_eq_false hc
         have h15 := of_decide_eq_false hg
         have hlt : a < l.length := by omega
         obtain ⟨x, hx, _⟩ := drop_cons hlt
         have hx' := getMap D.i hx
         have hn0 : n ≠ 0 := by omega
         have hm := tmod_bd x (show 0 < n by omega)
         refine awp_skip ?_; refine seqQ_n ?_; refine zS ?_
         refine aops_fact (t := 12) rfl rfl (fun hlen => ?_); refine zMv ?_
         first | refine zP (ap_nilCheck rfl) ?_ | refine zP (ap_nilCheck_el rfl) ?_
         refine zF 1 1 false ?_; refine zL1 ?_; refine zAr ?_
         first | refine zP (ap_nilCheck rfl) ?_ | refine zP (ap_nilCheck_el rfl) ?_
         refine zF 1 1 false ?_; refine zSt ?_; refine zN ?_; refine awp_seq ?_
         refine awp_draw (Hm := []) zKr zSplit ?_
         refine zT 0 rfl (AP.ar (ap_move rfl)) ?_
         first | refine zT 1 rfl (AP.ar (ap_nilCheck rfl)) ?_ | refine zT 1 rfl (AP.ar (ap_nilCheck_el rfl)) ?_
         refine zTF 2 0 1 false ?_; refine zTL 3 ?_
         refine zT 4 rfl (AP.ar (ap_move rfl)) ?_
         first | refine zT 5 rfl (AP.ar (ap_nilCheck rfl)) ?_ | refine zT 5 rfl (AP.ar (ap_nilCheck_el rfl)) ?_
         refine zTF 6 1 1 false ?_; refine zTL 7 ?_
         refine zT 8 rfl (AP.ar (ap_arith rfl rfl rfl (by omega))) ?_
         refine zT 9 rfl (AP.ar (ap_index (k := a) rfl rfl rfl rfl (by decide) (by omega) hx')) ?_
         refine zTL 10 ?_
         refine zT 11 rfl (AP.ar (ap_move rfl)) ?_
         refine zT 12 rfl (AP.ar (ap_rem rfl rfl (by omega))) ?_
         refine zT 13 rfl (AP.ar (ap_move rfl)) ?_
         refine zT 14 rfl (AP.ar (ap_arith rfl rfl rfl (by omega))) ?_
         refine zT 15 rfl (AP.ar (ap_move rfl)) ?_
         refine zT 16 rfl (AP.ar (ap_rem rfl rfl (by omega))) ?_
         refine zT 17 rfl (AP.ar (ap_assign rfl)) ?_
         refine aany_nil zKr ?_
         all_goals (
           refine seqQ_n ?_; refine awp_ret ?_
           refine post_ret (.tmp rfl .nil) zKeep ⟨_, a + 1, rfl, ?_, rfl⟩
           exact tmod_bd2 _ (by omega)
           )
        )
    )
theorem SRange_con (b : Nat) (l : List Int) (a : Nat) (x y : Int) (h : x ≤ y ∧ -1000000 ≤ x ∧ y ≤ 1000000000) : Con none Try.prog 7 [.p b 0, .i x, .i y] [.box b 48 [.sl 1 (l.map .i), .i ((a : Nat) : Int)]] (fun d H => ∃ (r : Int) (a' : Nat), d = .i r ∧ (x ≤ r ∧ r ≤ y) ∧ H = [.box b 48 [.sl 1 (l.map .i), .i ((a' : Nat) : Int)]]) := by
  have hcap : capB = 140737488355328 := rfl
  refine con_intro Try.func7 rfl Try.call7 rfl ?_
  refine zS ?_; refine zAs ?_; refine zN (zS ?_); refine zMv ?_; refine zMv ?_; refine zMv ?_; refine zMv ?_; refine zAr ?_; refine zAr ?_
  (refine aops_call zRc (SN_con _ _ _ _ (by omega)) zSplit rfl rfl ?_; rintro _ _ ⟨r13, a13, rfl, hr13, rfl⟩)
  refine zAr ?_; refine zAs ?_; refine zN ?_; refine awp_ret ?_
  refine post_ret (.tmp rfl .nil) zKeep ⟨_, _, rfl, ?_, rfl⟩
  omega
end Go.Proofs.Ytkgcehimmfkikaa
