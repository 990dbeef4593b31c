/- The walks of: plevel_con, pdelT_con, pdel_con, all_con, check1_con, indexFM_con, containsFM_con, indexFV_con, containsFV_con, check_con, silent_con, apair_con, judge_con, Silent_con, within_con, isSplit_con, isHalt_con, aleast_con, rInts_con, SNew_con, SN_con, SRange_con, STrust_con, Flat_con, SConfig_con, three_con, worker_con, All_con, Least_con, sane43_con, gcheck_con. Each says what one function of the program answers, for the arguments that its statement names. No condition beyond what each theorem says. -/
import Derived.Test.YtgmpjpaekpefdaaGreatAnalyserExactW2
import Derived.Test.YtgmpjpaekpefdaaGreatProg
import Derived.KernelRfl
import Derived.Tactics
import Derived.Tactics2
import Derived.StillTactics
set_option linter.unusedVariables false
set_option linter.unusedSimpArgs false
set_option linter.unnecessarySimpa false
set_option maxRecDepth 4000
namespace Go.Proofs.YtgmpjpaekpefdaaGreat
open Go Go.Av Go.Tq
theorem plevel_con (s : Int) : ∀ (t : Trust), sizeT t ≤ 200000 → NN t → Con none Tryz.prog 160 [av t, .i s] [] (Is (av (less s t)) []) := by
  have hcap : capB = 140737488355328 := rfl
  intro t
  induction t using Trust.ind with
  | _ t ih =>
    have hl1 : (t.nodes.map D.i).length = t.nodes.length := by simp
    have hl2 := avs_len t.inner
    intro hsz hnn
    have hs0 : sizeT t = t.nodes.length + t.inner.length + sizeL t.inner := rfl
    have hm0 : max t.th 0 = t.th := by have := hnn.th.1; omega
    refine con_intro Tryz.func160 rfl Tryz.call160 rfl ?_
    refine zS ?_
    refine aops_box rfl zFlat rfl rfl (fun b2 => ?_)
    refine aops_alloc rfl zRc rfl rfl (fun b4 => ?_)
    refine zN (zS ?_); refine zF 0 1 false ?_; refine zL1 ?_
    refine zP (ap_max rfl rfl) ?_
    refine zP (ap_build zKr rfl zRc zFill) ?_
    refine aops_alloc rfl zRc rfl rfl (fun b5 => ?_)
    refine zSt ?_; refine zN ?_; refine awp_seq ?_; refine awp_seq ?_
    rw [hm0]
    refine awp_region ?_; refine zF 1 1 false ?_; refine zL1 ?_
    first | refine aops_len rfl rfl rfl rfl (fun _ => ?_) | refine zP (ap_len_arr rfl zUpd rfl) ?_ | refine zP (ap_len_nil rfl rfl) ?_
    refine zMv ?_; refine zN ?_; refine awp_block ?_
    refine awp_loop4 [1, 2, 4, 5, 15, 16] [.box b4 _ _, .box b2 _ _] (fun (k : Nat) (v : Value) (th : Int) (q : List Int) r => (17, .i (k : Int)) :: r) (fun (k : Nat) (v : Value) (th : Int) (q : List Int) r => .box b5 48 [.i th, .v v, .nil] :: .arr v 3 1 (q.map .i) :: r) (fun (k : Nat) (v : Value) (th : Int) (q : List Int) => k ≤ t.nodes.length ∧ q.length ≤ k ∧ TB th ∧ lessN s (t.nodes.drop k) th q = lessN s t.nodes t.th []) (fun (k : Nat) (v : Value) (th : Int) (q : List Int) => t.nodes.length - k) (0) (.slice none 0 0) (t.th) ([]) zRc ⟨by omega, by simp, hnn.th, by simp⟩ ((wk_own 3 1 rfl).trans (wk zSub zKeep)) ?_
    intro k v th q ⟨hk, hql, hth, hI⟩
    have hml : (q.map D.i).length = q.length := by simp
    refine zS ?_; refine zCm ?_; refine zN ?_; refine awp_seq ?_
    refine zC (fun hc => ?_) fun hc => ?_
    · have hlt := of_decide_eq_true hc
      obtain ⟨x, hx, hd⟩ := drop_cons (l := t.nodes) (k := k) (by omega)
      have hx' := getMap D.i hx
      refine awp_skip ?_; refine seqQ_n ?_; refine awp_seq ?_; refine awp_block ?_; refine zS ?_
      first | refine zP (ap_index rfl rfl rfl rfl (by decide) rfl zAss) ?_ | refine zP (ap_index rfl rfl rfl rfl (by decide) (by omega) zAss) ?_ | refine zP (ap_index_own rfl rfl rfl rfl rfl (by first | omega | (simp only [List.length_map, List.length_set, avs_len]; omega))) ?_
      refine zL1 ?_; refine zAs ?_; refine zN (zS ?_); refine zMv ?_; refine zMv ?_
      refine aops_call_b zRc (has_con s x) rfl rfl (fun c23 hc23 => ?_)
      refine zN ?_
      refine zC (fun hc => ?_) fun hc => ?_
      · refine awp_region ?_
        refine zF 0 1 false ?_; refine zL1 ?_
        refine aops_call_v zRc (lowered_con _ (by assumption)) rfl rfl ?_
        refine zF 0 1 false ?_; refine zSt ?_; refine aops_nil ?_; refine blockQ_n ?_; refine seqQ_n ?_; refine awp_region ?_; refine zAr ?_; refine zMv ?_; refine zN ?_
        rw [hd] at hI; simp only [lessN] at hI
        first
        | (rw [if_pos (hc23.trans hc)] at hI; refine ⟨k + 1, v, lw th, q, ⟨by omega, by omega, (lw_nn hth).1, hI⟩, by omega, wk zSub zKeep⟩)
        | (rw [if_neg (fun e => by rw [hc23.trans hc] at e; cases e)] at hI; rw [mapi_snoc]; refine ⟨k + 1, _, th, q ++ [x], ⟨by omega, by simp only [List.length_append, List.length_cons, List.length_nil]; omega, hth, hI⟩, by omega, wk zSub zKeep⟩)
      · refine awp_region ?_
        refine zF 1 1 false ?_; refine zL1 ?_; refine zMv ?_
        refine aops_lit (e := 3) (sz := 1) (by_ := 8) rfl rfl zRc rfl rfl rfl rfl ?_
        first | refine aops_append (e := 3) (sz := 1) (by_ := 8) rfl zUpd rfl rfl rfl rfl rfl zLen (fun v32 hv32 => ?_) | refine aops_append_nil (e := 3) (sz := 1) (by_ := 8) rfl rfl rfl rfl rfl rfl zLen (fun v32 hv32 => ?_)
        refine zF 1 1 false ?_; refine zSt ?_; refine aops_nil ?_; refine blockQ_n ?_; refine seqQ_n ?_; refine awp_region ?_; refine zAr ?_; refine zMv ?_; refine zN ?_
        rw [hd] at hI; simp only [lessN] at hI
        first
        | (rw [if_pos (hc23.trans hc)] at hI; refine ⟨k + 1, v, lw th, q, ⟨by omega, by omega, (lw_nn hth).1, hI⟩, by omega, wk zSub zKeep⟩)
        | (rw [if_neg (fun e => by rw [hc23.trans hc] at e; cases e)] at hI; rw [mapi_snoc]; refine ⟨k + 1, _, th, q ++ [x], ⟨by omega, by simp only [List.length_append, List.length_cons, List.length_nil]; omega, hth, hI⟩, by omega, wk zSub zKeep⟩)
    · have hge := of_decide_eq_false hc
      have hN : lessN s t.nodes t.th [] = (th, q) := by rw [drop_nil (by omega)] at hI; exact hI.symm
      refine awp_exit ?_; refine seqQ_x ?_; refine seqQ_x ?_; refine blockQ_x rfl ?_; refine seqQ_n ?_; refine awp_seq ?_; refine zS ?_; refine zF 2 1 false ?_; refine zL1 ?_
      first | refine aops_len rfl rfl rfl rfl (fun _ => ?_) | refine zP (ap_len_arr rfl zUpd rfl) ?_ | refine zP (ap_len_nil rfl rfl) ?_
      refine zMv ?_; refine zN ?_; refine awp_block ?_
      refine awp_loop4 [1, 4, 5, 36, 37] [.box b4 _ _, .box b2 _ _, .arr v 3 1 (q.map .i)] (fun (k : Nat) (v2 : Value) (th2 : Int) (q2 : List Trust) r => (38, .i (k : Int)) :: r) (fun (k : Nat) (v2 : Value) (th2 : Int) (q2 : List Trust) r => .box b5 48 [.i th2, .v v, .v v2] :: .arr v2 48 3 (avs q2) :: r) (fun (k : Nat) (v2 : Value) (th2 : Int) (q2 : List Trust) => k ≤ t.inner.length ∧ q2.length ≤ k ∧ TB th2 ∧ lessI s (t.inner.drop k) th2 q2 = lessI s t.inner th []) (fun (k : Nat) (v2 : Value) (th2 : Int) (q2 : List Trust) => t.inner.length - k) (0) (.slice none 0 0) (th) ([]) zRc ⟨by omega, by simp, hth, by simp⟩ ((wk_own 48 3 rfl).trans (wk zSub zKeep)) ?_
      intro k v2 th2 q2 ⟨hk, hql2, hth2, hI2⟩
      have hal : (avs q2).length = q2.length := avs_len _
      refine zS ?_; refine zCm ?_; refine zN ?_; refine awp_seq ?_
      refine zC (fun hc => ?_) fun hc => ?_
      · have hlt := of_decide_eq_true hc
        obtain ⟨y, hy, hd⟩ := drop_cons (l := t.inner) (k := k) (by omega)
        have hy' := avs_get hy
        have hym := List.mem_of_getElem? hy
        refine awp_skip ?_; refine seqQ_n ?_; refine awp_seq ?_; refine awp_block ?_; refine zS ?_
        first | refine zP (ap_index rfl rfl rfl rfl (by decide) rfl zAss) ?_ | refine zP (ap_index rfl rfl rfl rfl (by decide) (by omega) zAss) ?_ | refine zP (ap_index_own rfl rfl rfl rfl rfl (by first | omega | (simp only [List.length_map, List.length_set, avs_len]; omega))) ?_
        refine zLd ?_
        refine aops_alloc rfl zRc rfl rfl (fun b9 => ?_)
        refine zSt ?_; refine zN (zS ?_); refine zLd ?_; refine zMv ?_
        refine aops_call_v zRc (ih y hym (by have := sizeL_mem hym; omega) (hnn.inner y hym)) rfl rfl ?_
        refine zSt ?_; refine zN (zS ?_); refine zF 0 1 false ?_; refine zL1 ?_; refine zCm ?_; refine zN ?_
        refine zC (fun hc => ?_) fun hc => ?_
        · refine awp_region ?_
          refine zF 0 1 false ?_; refine zL1 ?_
          refine aops_call_v zRc (lowered_con _ (by assumption)) rfl rfl ?_
          refine zF 0 1 false ?_; refine zSt ?_; refine aops_nil ?_; refine blockQ_n ?_; refine seqQ_n ?_; refine awp_region ?_; refine zAr ?_; refine zMv ?_; refine zN ?_
          rw [hd, lessI_cons] at hI2
          first
          | (rw [if_pos (by have := of_decide_eq_true hc; omega)] at hI2; refine ⟨k + 1, v2, lw th2, q2, ⟨by omega, by omega, (lw_nn hth2).1, hI2⟩, by omega, wk zSub zKeep⟩)
          | (rw [if_neg (by have := of_decide_eq_false hc; have := (less_nn (s := s) (hnn.inner y hym)).1; omega)] at hI2; rw [show D.agg [.i (less s y).th, .sl 1 ((less s y).nodes.map .i), .sl 3 (avs (less s y).inner)] = av (less s y) from rfl, avs_snoc]; refine ⟨k + 1, _, th2, q2 ++ [less s y], ⟨by omega, by simp only [List.length_append, List.length_cons, List.length_nil]; omega, hth2, hI2⟩, by omega, wk zSub zKeep⟩)
        · refine awp_region ?_
          refine zF 2 1 false ?_; refine zL1 ?_; refine zLd ?_
          refine aops_lit (e := 48) (sz := 3) (by_ := 56) rfl rfl zRc rfl rfl rfl rfl ?_
          first | refine aops_append (e := 48) (sz := 3) (by_ := 56) rfl zUpd rfl rfl rfl rfl rfl zLen (fun v56 hv56 => ?_) | refine aops_append_nil (e := 48) (sz := 3) (by_ := 56) rfl rfl rfl rfl rfl rfl zLen (fun v56 hv56 => ?_)
          refine zF 2 1 false ?_; refine zSt ?_; refine aops_nil ?_; refine blockQ_n ?_; refine seqQ_n ?_; refine awp_region ?_; refine zAr ?_; refine zMv ?_; refine zN ?_
          rw [hd, lessI_cons] at hI2
          first
          | (rw [if_pos (by have := of_decide_eq_true hc; omega)] at hI2; refine ⟨k + 1, v2, lw th2, q2, ⟨by omega, by omega, (lw_nn hth2).1, hI2⟩, by omega, wk zSub zKeep⟩)
          | (rw [if_neg (by have := of_decide_eq_false hc; have := (less_nn (s := s) (hnn.inner y hym)).1; omega)] at hI2; rw [show D.agg [.i (less s y).th, .sl 1 ((less s y).nodes.map .i), .sl 3 (avs (less s y).inner)] = av (less s y) from rfl, avs_snoc]; refine ⟨k + 1, _, th2, q2 ++ [less s y], ⟨by omega, by simp only [List.length_append, List.length_cons, List.length_nil]; omega, hth2, hI2⟩, by omega, wk zSub zKeep⟩)
      · have hge := of_decide_eq_false hc
        have hL : lessI s t.inner th [] = (th2, q2) := by rw [drop_nil (by omega)] at hI2; exact hI2.symm
        refine awp_exit ?_; refine seqQ_x ?_; refine seqQ_x ?_; refine blockQ_x rfl ?_; refine seqQ_n ?_; refine zS ?_; refine zLd ?_; refine zSt ?_; refine zN ?_
        refine awp_freeze v [4] zRem zSelC zHeapA ?_; refine awp_freeze v2 [4] zRem zSelC zHeapA ?_
        refine awp_ret ?_
        refine post_is (.cell rfl zUpd rfl rfl .nil) zKeep ?_
        rw [less_mk hN hL]; rfl
theorem pdelT_con (t : Trust) (k : Int) (s : Nat) (hs : s < 1024) (hsz : sizeT t ≤ 200000) (hnn : NN t) : Con none Tryz.prog 126 [av t, .i k, .i s] [] (Is (av (delT s k t)) []) := by
  have hcap : capB = 140737488355328 := rfl
  have hb := (less_nn (s := (s : Int)) hnn).1
  refine con_intro Tryz.func126 rfl Tryz.call126 rfl ?_
  refine zS ?_
  refine aops_box rfl zFlat rfl rfl (fun b3 => ?_)
  refine aops_alloc rfl zRc rfl rfl (fun b6 => ?_)
  refine zN ?_; refine awp_seq ?_; refine zS ?_; refine zMv ?_
  refine aops_call_v zRc (validn hs) rfl rfl ?_
  refine zNo ?_; refine zN ?_
  refine awp_cond_f rfl zDec ?_
  refine awp_skip ?_; refine seqQ_n ?_; refine zS ?_; refine zLd ?_; refine zMv ?_
  refine aops_call_v zRc (plevel_con s t hsz hnn) rfl rfl ?_
  refine aops_alloc rfl zRc rfl rfl (fun b7 => ?_)
  refine zSt ?_; refine zN ?_; refine awp_seq ?_; refine zS ?_; refine zF 0 1 false ?_; refine zL1 ?_; refine zCm ?_; refine zN ?_
  refine zC (fun hc => ?_) fun hc => ?_
  · have hle := of_decide_eq_true hc
    refine zS ?_; refine zMv ?_
    refine aops_lit (e := 3) (sz := 1) (by_ := 8) rfl rfl zRc rfl rfl rfl rfl ?_
    refine zP (ap_build zKr rfl zRc zFill) ?_
    refine zSt ?_; refine zN ?_
    refine awp_unnil [6] 3 rfl zSelC zHeapA ?_
    refine awp_ret ?_; refine seqQ_r ?_
    refine post_is (.cell rfl zUpd rfl rfl .nil) zKeep ?_
    unfold delT; rw [if_pos (by omega)]; rfl
  · have hle := of_decide_eq_false hc
    refine awp_skip ?_; refine seqQ_n ?_; refine zS ?_; refine zLd ?_; refine zSt ?_; refine zN ?_; refine awp_ret ?_
    refine post_is (.cell rfl zUpd rfl rfl .nil) zKeep ?_
    unfold delT; rw [if_neg (by omega)]; rfl
theorem pdel_con (c : List Mem) (hcl : c.length ≤ 10) (s : Nat) (hs : s < 1024) (hsz : ∀ m ∈ c, sizeT m.t ≤ 200000) (hdc : ∀ m ∈ c, m.decl = true) (hnn : ∀ m ∈ c, NN m.t) : Con none Tryz.prog 91 [cv c, .i s] [] (Is (cv (delC c s)) []) := by
  have hcap : capB = 140737488355328 := rfl
  have hml : (c.map mv).length = c.length := by simp
  refine con_intro Tryz.func91 rfl Tryz.call91 rfl ?_
  refine zS ?_
  refine aops_box rfl zFlat rfl rfl (fun b2 => ?_)
  refine aops_alloc rfl zRc rfl rfl (fun b4 => ?_)
  refine zN (zS ?_)
  refine aops_alloc rfl zRc rfl rfl (fun b5 => ?_)
  refine zN ?_; refine awp_seq ?_; refine zS ?_; refine zF 0 1 false ?_; refine zL1 ?_
  first | refine aops_len rfl rfl rfl rfl (fun _ => ?_) | refine zP (ap_len_arr rfl zUpd rfl) ?_ | refine zP (ap_len_nil rfl rfl) ?_
  refine zMv ?_; refine zN ?_; refine awp_block ?_
  refine awp_loop3 [1, 4, 5, 9, 10] [.box b4 _ _, .box b2 _ _] (fun (k : Nat) (v : Value) (q : List Mem) r => (11, .i (k : Int)) :: r) (fun (k : Nat) (v : Value) (q : List Mem) r => .box b5 28 [.v v] :: .arr v 101 4 (q.map mv) :: r) (fun (k : Nat) (v : Value) (q : List Mem) => k ≤ c.length ∧ q.length = k ∧ q ++ delGo s k (c.drop k) = delC c s) (fun (k : Nat) (v : Value) (q : List Mem) => c.length - k) (0) (.slice none 0 0) ([]) zRc ⟨by omega, rfl, by simp [delC]⟩ ((wk_own 101 4 rfl).trans (wk zSub zKeep)) ?_
  intro k v q ⟨hk, hql, hI⟩
  have hqm : (q.map mv).length = q.length := by simp
  refine zS ?_; refine zCm ?_; refine zN ?_; refine awp_seq ?_
  refine zC (fun hc => ?_) fun hc => ?_
  · have hlt := of_decide_eq_true hc
    obtain ⟨x, hx, hd⟩ := drop_cons (l := c) (k := k) (by omega)
    have hx' := getMap mv hx
    have hxd := hdc x (List.mem_of_getElem? hx)
    refine awp_skip ?_; refine seqQ_n ?_; refine awp_seq ?_; refine awp_block ?_; refine zS ?_; refine zMv ?_
    first | refine zP (ap_index rfl rfl rfl rfl (by decide) rfl zAss) ?_ | refine zP (ap_index rfl rfl rfl rfl (by decide) (by omega) zAss) ?_ | refine zP (ap_index_own rfl rfl rfl rfl rfl (by first | omega | (simp only [List.length_map, List.length_set, avs_len]; omega))) ?_
    refine zLd ?_
    refine aops_alloc rfl zRc rfl rfl (fun b7 => ?_)
    refine zAs ?_; refine zSt ?_; refine zN ?_; refine awp_seq ?_; refine awp_block ?_; refine zS ?_; refine zMv ?_; refine zMv ?_
    refine aops_call_b zRc (has_con s k) rfl rfl (fun c23 hc23 => ?_)
    refine zAs ?_; refine zN ?_
    refine zC (fun hc => ?_) fun hc => ?_
    · refine awp_region ?_
      refine zP (ap_build zKr rfl zRc zFill) ?_
      refine zSt ?_; refine aops_nil ?_; refine blockQ_n ?_; refine seqQ_n ?_; refine awp_region ?_; refine zF 0 1 false ?_; refine zL1 ?_; refine zLd ?_
      refine aops_unnil [1,4,5,9,10,11,35,36] 1 rfl rfl (by repeat (first | exact SelC.nil | apply SelC.cons rfl (Cv.agg (CvL.cons Cv.same (CvL.cons Cv.same (CvL.cons Cv.fz (CvL.cons Cv.same CvL.nil))))) | apply SelC.cons rfl Cv.same)) zHeapS ?_; refine aops_unnil [1,4,5,9,10,11,35,36] 3 rfl rfl zSelC zHeapS ?_; refine aops_lit (e := 101) (sz := 4) (by_ := 64) rfl rfl zRc rfl rfl rfl rfl ?_
      first | refine aops_append (e := 101) (sz := 4) (by_ := 64) rfl zUpd rfl rfl rfl rfl rfl (by simp only [List.length_cons, List.length_nil, List.length_append, List.length_map]; omega) (fun v38 hv38 => ?_) | refine aops_append_nil (e := 101) (sz := 4) (by_ := 64) rfl rfl rfl rfl rfl rfl (by simp only [List.length_cons, List.length_nil, List.length_append, List.length_map]; omega) (fun v38 hv38 => ?_)
      refine zF 0 1 false ?_; refine zSt ?_; refine aops_nil ?_; refine blockQ_n ?_; refine seqQ_n ?_; refine awp_region ?_; refine zAr ?_; refine zMv ?_; refine zN ?_
      first
      | (refine ⟨k + 1, v38, q ++ [delM s k x], ⟨by omega, by simp only [List.length_append, List.length_cons, List.length_nil]; omega, del_next hd hI⟩, by omega, ?_⟩; rw [← mv_snoc, delM_1 (hc23.trans (by with_reducible assumption))]; exact (wk zSub zKeep))
      | (refine ⟨k + 1, v38, q ++ [delM s k x], ⟨by omega, by simp only [List.length_append, List.length_cons, List.length_nil]; omega, del_next hd hI⟩, by omega, ?_⟩; rw [← mv_snoc, delM_2 (hc23.trans (by with_reducible assumption)) (by with_reducible assumption)]; exact (wk zSub zKeep))
    · refine awp_seq ?_
      refine awp_region ?_; refine zF 0 1 false ?_; refine zL1 ?_; refine zAs ?_; refine zN ?_
      refine awp_cond_t rfl zDec ?_
      refine awp_region ?_; refine zF 1 3 true ?_; refine zLd ?_; refine zMv ?_; refine zMv ?_
      refine aops_call_v zRc (pdelT_con x.t k s hs (hsz x (List.mem_of_getElem? hx)) (hnn x (List.mem_of_getElem? hx))) rfl rfl ?_
      refine zF 1 3 true ?_; refine zSt ?_; refine aops_nil ?_; refine blockQ_n ?_; refine seqQ_n ?_; refine awp_region ?_; refine zF 0 1 false ?_; refine zL1 ?_; refine zLd ?_
      refine aops_unnil [1,4,5,9,10,11,35,36] 1 rfl rfl (by repeat (first | exact SelC.nil | apply SelC.cons rfl (Cv.agg (CvL.cons Cv.same (CvL.cons Cv.same (CvL.cons Cv.fz (CvL.cons Cv.same CvL.nil))))) | apply SelC.cons rfl Cv.same)) zHeapS ?_; refine aops_unnil [1,4,5,9,10,11,35,36] 3 rfl rfl zSelC zHeapS ?_; refine aops_lit (e := 101) (sz := 4) (by_ := 64) rfl rfl zRc rfl rfl rfl rfl ?_
      first | refine aops_append (e := 101) (sz := 4) (by_ := 64) rfl zUpd rfl rfl rfl rfl rfl (by simp only [List.length_cons, List.length_nil, List.length_append, List.length_map]; omega) (fun v38 hv38 => ?_) | refine aops_append_nil (e := 101) (sz := 4) (by_ := 64) rfl rfl rfl rfl rfl rfl (by simp only [List.length_cons, List.length_nil, List.length_append, List.length_map]; omega) (fun v38 hv38 => ?_)
      refine zF 0 1 false ?_; refine zSt ?_; refine aops_nil ?_; refine blockQ_n ?_; refine seqQ_n ?_; refine awp_region ?_; refine zAr ?_; refine zMv ?_; refine zN ?_
      first
      | (refine ⟨k + 1, v38, q ++ [delM s k x], ⟨by omega, by simp only [List.length_append, List.length_cons, List.length_nil]; omega, del_next hd hI⟩, by omega, ?_⟩; rw [← mv_snoc, delM_1 (hc23.trans (by with_reducible assumption))]; exact (wk zSub zKeep))
      | (refine ⟨k + 1, v38, q ++ [delM s k x], ⟨by omega, by simp only [List.length_append, List.length_cons, List.length_nil]; omega, del_next hd hI⟩, by omega, ?_⟩; rw [← mv_snoc, delM_2 (hc23.trans (by with_reducible assumption)) (by with_reducible assumption)]; exact (wk zSub zKeep))
  · have hge := of_decide_eq_false hc
    have hF : q = delC c s := by rw [drop_nil (by omega)] at hI; simpa [delGo] using hI
    refine awp_exit ?_; refine seqQ_x ?_; refine seqQ_x ?_; refine blockQ_x rfl ?_; refine seqQ_n ?_; refine zS ?_; refine zLd ?_; refine zSt ?_; refine zN ?_
    refine awp_freeze v [4] zRem zSelC zHeapA ?_
    refine awp_ret ?_
    refine post_is (.cell rfl zUpd rfl rfl .nil) zKeep ?_
    rw [← hF]; rfl
/-- A configuration of at most four members that all are declared, with small trusts. -/
structure OKA (c : List Mem) : Prop where
  len : c.length ≤ 4
  decl : ∀ m ∈ c, m.decl = true
  size : ∀ m ∈ c, sizeT m.t ≤ 200
  nn : ∀ m ∈ c, NN m.t
  ok : validC c = 0
theorem OKA.s9 {c : List Mem} (h : OKA c) : ∀ m ∈ c, sizeT m.t ≤ 1000000000 := fun m hm => by have := h.size m hm; omega
theorem OKA.s2 {c : List Mem} (h : OKA c) : ∀ m ∈ c, sizeT m.t ≤ 200000 := fun m hm => by have := h.size m hm; omega
theorem OKA.l10 {c : List Mem} (h : OKA c) : c.length ≤ 10 := by have := h.len; omega
theorem OKA.any {c : List Mem} (h : OKA c) : (c.any fun m => !m.decl) = false := by
  rw [List.any_eq_false]
  intro m hm
  rw [h.decl m hm]; decide
theorem pow4 {n : Nat} (h : n ≤ 4) : 1 ≤ 2 ^ n ∧ 2 ^ n ≤ 16 := by
  have h1 : 0 < 2 ^ n := Nat.pow_pos (by omega)
  have h2 := Nat.pow_le_pow_right (show 0 < 2 by omega) h
  omega
theorem nez_f {n : Nat} (h : (!decide ((n : Int) = 0)) = false) : n = 0 := by have := of_neq_false h; omega
theorem nez_t {n : Nat} (h : (!decide ((n : Int) = 0)) = true) : ¬ n = 0 := by have := of_neq_true h; omega
theorem any_cons_fm {α : Type} {p : α → Bool} {x : α} {r : List α} (h : p x = false) : (x :: r).any p = r.any p := by simp [h]
theorem any_cons_tm {α : Type} {p : α → Bool} {x : α} {r : List α} (h : p x = true) : (x :: r).any p = true := by simp [h]
theorem all_con (c : List Mem) (hc : c.length ≤ 4) : Con none Tryz.prog 72 [cv c] [] (Is (.i ((2 ^ c.length - 1 : Nat) : Int)) []) := by
  have hcap : capB = 140737488355328 := rfl
  have hml : (c.map mv).length = c.length := by simp
  have hpos : 0 < 2 ^ c.length := Nat.pow_pos (by omega)
  have hle := Nat.pow_le_pow_right (show 0 < 2 by omega) hc
  refine con_intro Tryz.func72 rfl Tryz.call72 rfl ?_
  refine zS ?_
  refine aops_box rfl zFlat rfl rfl (fun b1 => ?_)
  refine zAs ?_; refine zN (zS ?_); refine zF 0 1 false ?_; refine zL1 ?_
  first | refine aops_len rfl rfl rfl rfl (fun _ => ?_) | refine zP (ap_len_arr rfl zUpd rfl) ?_ | refine zP (ap_len_nil rfl rfl) ?_
  (rw [hml]; refine zP (ap_shl (p := 1) rfl rfl rfl (by omega) (by omega)) ?_)
  refine zP (ap_arith (m := ((2 ^ c.length - 1 : Nat) : Int)) rfl rfl (by show some _ = _; simp only [Option.some.injEq]; omega) (by omega)) ?_
  refine zAs ?_; refine zN ?_; refine awp_ret ?_
  refine post_is (.tmp rfl .nil) zKeep rfl
theorem check1_con (m : Mem) : Con none Tryz.prog 93 [mv m] [] (Is (.b (!m.decl)) []) := by
  have hcap : capB = 140737488355328 := rfl
  refine con_intro Tryz.func93 rfl Tryz.call93 rfl ?_
  refine zS ?_
  refine aops_box rfl zFlat rfl rfl (fun b1 => ?_)
  refine zAs ?_; refine zN (zS ?_); refine zF 0 1 false ?_; refine zL1 ?_; refine zNo ?_; refine zAs ?_; refine zN ?_; refine awp_ret ?_
  exact post_is (.tmp rfl .nil) zKeep rfl
theorem indexFM_con (f : FuncId) (p : Mem → Bool) (l : List Mem) (hf : ∀ k, k ∈ l → Con none Tryz.prog f [mv k] [] (Is (.b (p k)) [])) : Con none Tryz.prog 131 [.sl 4 (l.map mv), .v (.func (.func f) #[] #[])] [] (fun d H => ∃ r : Int, d = .i r ∧ decide (0 ≤ r) = l.any p ∧ H = []) := by
  have hcap : capB = 140737488355328 := rfl
  have hl1 : (l.map mv).length = l.length := by simp
  refine con_intro Tryz.func131 rfl Tryz.call131 rfl ?_
  refine zS ?_; refine zAs ?_; refine zN ?_; refine awp_seq ?_; refine zS ?_; refine zMv ?_
  first | refine aops_len rfl rfl rfl rfl (fun _ => ?_) | refine zP (ap_len_arr rfl zUpd rfl) ?_ | refine zP (ap_len_nil rfl rfl) ?_
  refine zMv ?_; refine zN ?_; refine awp_block ?_
  refine awp_loop1 [0, 1, 7] [] (fun (k : Nat) r => (8, .i (k : Int)) :: r) (fun (k : Nat) r => r) (fun (k : Nat) => k ≤ l.length ∧ (l.drop k).any p = l.any p) (fun (k : Nat) => l.length - k) (0) zRc ⟨by omega, by simp⟩ (wk zSub zKeep) ?_
  intro k ⟨hk, hI⟩
  refine zS ?_; refine zCm ?_; refine zN ?_; refine awp_seq ?_
  refine zC (fun hc => ?_) fun hc => ?_
  · have hlt : k < l.length := by have := of_decide_eq_true hc; omega
    obtain ⟨x, hx, hd⟩ := drop_cons hlt
    have hx' := getMap mv hx
    rw [hd] at hI
    refine awp_skip ?_; refine seqQ_n ?_; refine awp_seq ?_; refine awp_block ?_; refine zS ?_; refine zMv ?_; refine zAs ?_; refine zN (zS ?_); refine zMv ?_; refine zMv ?_; refine zMv ?_
    first | refine zP (ap_index rfl rfl rfl rfl (by decide) rfl zAss) ?_ | refine zP (ap_index rfl rfl rfl rfl (by decide) (by omega) zAss) ?_ | refine zP (ap_index_own rfl rfl rfl rfl rfl (by first | omega | (simp only [List.length_map, List.length_set, avs_len]; omega))) ?_
    refine zLd ?_
    (refine aops_callv (caps := []) rfl zRc (hf x (List.mem_of_getElem? hx)) zSplit rfl rfl ?_; rintro _ _ ⟨rfl, rfl⟩; obtain ⟨c16, hc16⟩ : ∃ b, b = p x := ⟨_, rfl⟩; rw [← hc16])
    refine zN ?_
    refine zC (fun hc => ?_) fun hc => ?_
    · refine awp_seq ?_
      refine awp_region ?_; refine zMv ?_; refine zAs ?_; refine zN ?_; refine awp_ret ?_; refine blockQ_r ?_; refine seqQ_r ?_; refine seqQ_r ?_; refine blockQ_r ?_; refine seqQ_r ?_
      refine post_ret (.tmp rfl .nil) zKeep ⟨_, rfl, ?_, rfl⟩
      rw [any_cons_tm (hc16.symm.trans hc)] at hI
      rw [← hI]; exact decide_eq_true (by omega)
    · refine awp_skip ?_
      refine blockQ_n ?_; refine seqQ_n ?_; refine awp_region ?_; refine zAr ?_; refine zMv ?_; refine zN ?_
      rw [any_cons_fm (hc16.symm.trans hc)] at hI
      refine ⟨k + 1, ⟨by omega, hI⟩, by omega, wk zSub zKeep⟩
  · have hge : l.length ≤ k := by have := of_decide_eq_false hc; omega
    rw [drop_nil hge] at hI
    refine awp_exit ?_; refine seqQ_x ?_; refine seqQ_x ?_; refine blockQ_x rfl ?_; refine seqQ_n ?_; refine zS ?_; refine zAs ?_; refine zN ?_; refine awp_ret ?_
    refine post_ret (.tmp rfl .nil) zKeep ⟨_, rfl, ?_, rfl⟩
    rw [← hI]; rfl
theorem containsFM_con (f : FuncId) (p : Mem → Bool) (l : List Mem) (hf : ∀ k, k ∈ l → Con none Tryz.prog f [mv k] [] (Is (.b (p k)) [])) : Con none Tryz.prog 94 [.sl 4 (l.map mv), .v (.func (.func f) #[] #[])] [] (Is (.b (l.any p)) []) := by
  have hcap : capB = 140737488355328 := rfl
  refine con_intro Tryz.func94 rfl Tryz.call94 rfl ?_
  refine zS ?_; refine zAs ?_; refine zN (zS ?_); refine zMv ?_; refine zMv ?_
  (refine aops_call zRc (indexFM_con f p l hf) zSplit rfl rfl ?_; rintro _ _ ⟨r, rfl, hr, rfl⟩)
  refine zCm ?_; refine zAs ?_; refine zN ?_; refine awp_ret ?_
  refine post_is (.tmp rfl .nil) zKeep ?_
  rw [← hr]; rfl
theorem indexFV_con (b3 b7 : Nat) (d3 d7 : List D) (f : FuncId) (p : Vd → Bool) (l : List Vd) (hf : ∀ k, k ∈ l → Con none Tryz.prog f [vv k, .p b3 0, .p b7 0] [.box b7 78 d7, .box b3 145 d3] (Is (.b (p k)) [.box b7 78 d7, .box b3 145 d3])) : Con none Tryz.prog 158 [.sl 5 (l.map vv), .v (.func (.func f) #[] #[.pointer (some ⟨b3, 0, none⟩), .pointer (some ⟨b7, 0, none⟩)])] [.box b7 78 d7, .box b3 145 d3] (fun d H => ∃ r : Int, d = .i r ∧ decide (0 ≤ r) = l.any p ∧ H = [.box b7 78 d7, .box b3 145 d3]) := by
  have hcap : capB = 140737488355328 := rfl
  have hl1 : (l.map vv).length = l.length := by simp
  refine con_intro Tryz.func158 rfl Tryz.call158 rfl ?_
  refine zS ?_; refine zAs ?_; refine zN ?_; refine awp_seq ?_; refine zS ?_; refine zMv ?_
  first | refine aops_len rfl rfl rfl rfl (fun _ => ?_) | refine zP (ap_len_arr rfl zUpd rfl) ?_ | refine zP (ap_len_nil rfl rfl) ?_
  refine zMv ?_; refine zN ?_; refine awp_block ?_
  refine awp_loop1 [0, 1, 7] [] (fun (k : Nat) r => (8, .i (k : Int)) :: r) (fun (k : Nat) r => .box b7 78 d7 :: .box b3 145 d3 :: r) (fun (k : Nat) => k ≤ l.length ∧ (l.drop k).any p = l.any p) (fun (k : Nat) => l.length - k) (0) zRc ⟨by omega, by simp⟩ (wk zSub zKeep) ?_
  intro k ⟨hk, hI⟩
  refine zS ?_; refine zCm ?_; refine zN ?_; refine awp_seq ?_
  refine zC (fun hc => ?_) fun hc => ?_
  · have hlt : k < l.length := by have := of_decide_eq_true hc; omega
    obtain ⟨x, hx, hd⟩ := drop_cons hlt
    have hx' := getMap vv hx
    rw [hd] at hI
    refine awp_skip ?_; refine seqQ_n ?_; refine awp_seq ?_; refine awp_block ?_; refine zS ?_; refine zMv ?_; refine zAs ?_; refine zN (zS ?_); refine zMv ?_; refine zMv ?_; refine zMv ?_
    first | refine zP (ap_index rfl rfl rfl rfl (by decide) rfl zAss) ?_ | refine zP (ap_index rfl rfl rfl rfl (by decide) (by omega) zAss) ?_ | refine zP (ap_index_own rfl rfl rfl rfl rfl (by first | omega | (simp only [List.length_map, List.length_set, avs_len]; omega))) ?_
    refine zLd ?_
    (refine aops_callv (caps := [.pointer (some ⟨b3, 0, none⟩), .pointer (some ⟨b7, 0, none⟩)]) rfl zRc (hf x (List.mem_of_getElem? hx)) zSplit rfl rfl ?_; rintro _ _ ⟨rfl, rfl⟩; obtain ⟨c16, hc16⟩ : ∃ b, b = p x := ⟨_, rfl⟩; rw [← hc16])
    refine zN ?_
    refine zC (fun hc => ?_) fun hc => ?_
    · refine awp_seq ?_
      refine awp_region ?_; refine zMv ?_; refine zAs ?_; refine zN ?_; refine awp_ret ?_; refine blockQ_r ?_; refine seqQ_r ?_; refine seqQ_r ?_; refine blockQ_r ?_; refine seqQ_r ?_
      refine post_ret (.tmp rfl .nil) zKeep ⟨_, rfl, ?_, rfl⟩
      rw [any_cons_tm (hc16.symm.trans hc)] at hI
      rw [← hI]; exact decide_eq_true (by omega)
    · refine awp_skip ?_
      refine blockQ_n ?_; refine seqQ_n ?_; refine awp_region ?_; refine zAr ?_; refine zMv ?_; refine zN ?_
      rw [any_cons_fm (hc16.symm.trans hc)] at hI
      refine ⟨k + 1, ⟨by omega, hI⟩, by omega, wk zSub zKeep⟩
  · have hge : l.length ≤ k := by have := of_decide_eq_false hc; omega
    rw [drop_nil hge] at hI
    refine awp_exit ?_; refine seqQ_x ?_; refine seqQ_x ?_; refine blockQ_x rfl ?_; refine seqQ_n ?_; refine zS ?_; refine zAs ?_; refine zN ?_; refine awp_ret ?_
    refine post_ret (.tmp rfl .nil) zKeep ⟨_, rfl, ?_, rfl⟩
    rw [← hI]; rfl
theorem containsFV_con (b3 b7 : Nat) (d3 d7 : List D) (f : FuncId) (p : Vd → Bool) (l : List Vd) (hf : ∀ k, k ∈ l → Con none Tryz.prog f [vv k, .p b3 0, .p b7 0] [.box b7 78 d7, .box b3 145 d3] (Is (.b (p k)) [.box b7 78 d7, .box b3 145 d3])) : Con none Tryz.prog 124 [.sl 5 (l.map vv), .v (.func (.func f) #[] #[.pointer (some ⟨b3, 0, none⟩), .pointer (some ⟨b7, 0, none⟩)])] [.box b7 78 d7, .box b3 145 d3] (Is (.b (l.any p)) [.box b7 78 d7, .box b3 145 d3]) := by
  have hcap : capB = 140737488355328 := rfl
  refine con_intro Tryz.func124 rfl Tryz.call124 rfl ?_
  refine zS ?_; refine zAs ?_; refine zN (zS ?_); refine zMv ?_; refine zMv ?_
  (refine aops_call zRc (indexFV_con b3 b7 d3 d7 f p l hf) zSplit rfl rfl ?_; rintro _ _ ⟨r, rfl, hr, rfl⟩)
  refine zCm ?_; refine zAs ?_; refine zN ?_; refine awp_ret ?_
  refine post_is (.tmp rfl .nil) zKeep ?_
  rw [← hr]; rfl
theorem check_con (c : List Mem) (hok : OKA c) (s : Nat) (hs : s < 2 ^ c.length) : Con none Tryz.prog 46 [cv c, .i s] [] (Is (.i 0) []) := by
  have hcap : capB = 140737488355328 := rfl
  have hp := pow4 hok.len
  refine con_intro Tryz.func46 rfl Tryz.call46 rfl ?_
  refine zS ?_
  refine aops_box rfl zFlat rfl rfl (fun b2 => ?_)
  refine zAs ?_; refine zN (zS ?_); refine zAs ?_; refine zN ?_; refine awp_seq ?_; refine zS ?_; refine zLd ?_
  refine aops_call_v zRc (validC_con c hok.s9) rfl rfl ?_
  refine zAs ?_; refine zN ?_; refine awp_block ?_; refine zS ?_; refine zMv ?_; refine zCm ?_; refine zAs ?_; refine zN ?_
  refine awp_cond_f rfl (by rw [hok.ok]; rfl) ?_
  refine zS ?_; refine zF 0 1 false ?_; refine zL1 ?_; refine zMv ?_
  refine aops_call_v zRc (containsFM_con _ (fun m => !m.decl) c (fun k _ => check1_con k)) rfl rfl ?_
  refine zAs ?_; refine zN ?_
  refine awp_cond_f rfl hok.any ?_
  refine zS ?_; refine zMv ?_; refine zCm ?_; refine zMv ?_
  all_goals first | (refine zY ?_; refine zMv ?_) | refine zU ?_ | refine zNf ?_ | (refine zGf (fun hg => ?_) fun hg => ?_; case' _ => refine zMv ?_)
  all_goals first | (refine zY ?_; refine zLd ?_) | refine zU ?_ | refine zNf ?_ | (refine zGf (fun hg => ?_) fun hg => ?_; case' _ => refine zLd ?_)
  all_goals first | (refine zY ?_; refine aops_call_v zRc (all_con c hok.len) rfl rfl ?_) | refine zU ?_ | refine zNf ?_ | (refine zGf (fun hg => ?_) fun hg => ?_; case' _ => refine aops_call_v zRc (all_con c hok.len) rfl rfl ?_)
  all_goals first | (refine zY ?_; refine zCm ?_) | refine zU ?_ | refine zNf ?_ | (refine zGf (fun hg => ?_) fun hg => ?_; case' _ => refine zCm ?_)
  all_goals refine zPk ?_
  all_goals refine zAs ?_
  all_goals (
    refine zN ?_
    refine awp_cond_f rfl (by first | with_reducible assumption | (refine decide_eq_false ?_; omega)) ?_
    refine awp_skip ?_; refine blockQ_n ?_; refine seqQ_n ?_; refine zS ?_; refine zAs ?_; refine zN ?_; refine awp_ret ?_
    exact post_is (.tmp rfl .nil) zKeep rfl
    )
theorem silent_con (c : List Mem) (hok : OKA c) (s : Nat) (hs : s < 2 ^ c.length) : Con none Tryz.prog 65 [cv c, .i s] [] (Is (.b (silentC c s)) []) := by
  have hcap : capB = 140737488355328 := rfl
  have hp := pow4 hok.len
  refine con_intro Tryz.func65 rfl Tryz.call65 rfl ?_
  refine zS ?_
  refine aops_box rfl zFlat rfl rfl (fun b2 => ?_)
  refine zAs ?_; refine zN ?_; refine awp_seq ?_
  refine awp_draw (Hm := []) zKr zSplit ?_
  refine zTM 0 ?_; refine zTM 1 ?_
  refine zT 3 rfl (AP.ar (ap_move rfl)) ?_
  refine aany_one 2 zKr rfl (.none rfl) ?_
  refine aops_call_v zRc (all_con c hok.len) rfl rfl ?_
  refine aops_nil ?_
  refine zT 4 rfl (AP.ar (ap_bits rfl rfl rfl (by omega) (by omega))) ?_
  refine aany_one 5 zKr rfl (.none rfl) ?_
  refine aops_call_v zRc (great_con c (co c s)) rfl rfl ?_
  refine aops_nil ?_
  refine zT 6 rfl (AP.ar (ap_cmp rfl rfl rfl)) ?_
  refine zT 7 rfl (AP.ar (ap_assign rfl)) ?_
  refine aany_nil zKr ?_
  all_goals (
    refine seqQ_n ?_; refine awp_ret ?_
    exact post_is (.tmp rfl .nil) zKeep rfl
    )
theorem apair_con (c : List Mem) (hok : OKA c) (s : Nat) (hs : s < 2 ^ c.length) : Con none Tryz.prog 47 [cv c, .i s] [] (Is (.tup [.i ((pairC c s).1 : Nat), .i ((pairC c s).2.1 : Nat), .b (pairC c s).2.2]) []) := by
  have hcap : capB = 140737488355328 := rfl
  have hp := pow4 hok.len
  refine con_intro Tryz.func47 rfl Tryz.call47 rfl ?_
  refine zS ?_
  refine aops_box rfl zFlat rfl rfl (fun b2 => ?_)
  refine zAs ?_; refine zAs ?_; refine zAs ?_; refine zN (zS ?_); refine zLd ?_; refine zMv ?_
  refine aops_call_v zRc (pdel_con c hok.l10 s (by omega) hok.s2 hok.decl hok.nn) rfl rfl ?_
  refine aops_alloc rfl zRc rfl rfl (fun b7 => ?_)
  refine zSt ?_; refine zN ?_; refine awp_seq ?_; refine zS ?_; refine zLd ?_
  refine aops_call_v zRc (all_con c hok.len) rfl rfl ?_
  refine zAr ?_; refine zMv ?_; refine zN ?_; refine awp_block ?_
  refine awp_loop1 [2, 7, 14] [.box b7 _ _, .box b2 _ _] (fun (k : Nat) r => (15, .i (k : Int)) :: r) (fun (k : Nat) r => r) (fun (k : Nat) => k ≤ 2 ^ c.length ∧ pairGo (pairL c s) (pairR c s) (2 ^ c.length - k) k = pairC c s) (fun (k : Nat) => 2 ^ c.length - k) (0) zRc ⟨by omega, rfl⟩ (wk zSub zKeep) ?_
  intro k ⟨hk, hI⟩
  refine zS ?_; refine zCm ?_; refine zN ?_; refine awp_seq ?_
  refine zC (fun hc => ?_) fun hc => ?_
  · have hlt := of_decide_eq_true hc
    refine awp_skip ?_; refine seqQ_n ?_; refine awp_seq ?_; refine awp_block ?_; refine zS ?_; refine zMv ?_; refine zAs ?_; refine zN ?_; refine awp_seq ?_
    refine awp_draw (Hm := []) zKr zSplit ?_
    refine zTM 0 ?_
    refine zT 1 rfl (AP.ar (ap_move rfl)) ?_
    refine zTM 3 ?_; refine zTM 4 ?_
    refine zT 6 rfl (AP.ar (ap_move rfl)) ?_
    refine aany_one 2 zKr rfl (.none rfl) ?_
    refine aops_call_v zRc (great_con (delC c s) k) rfl rfl ?_
    refine aops_nil ?_
    refine aany_one 5 zKr rfl (.none rfl) ?_
    refine aops_call_v zRc (all_con c hok.len) rfl rfl ?_
    refine aops_nil ?_
    refine zT 7 rfl (AP.ar (ap_bits rfl rfl rfl (by omega) (by omega))) ?_
    refine aany_one 8 zKr rfl (.none rfl) ?_
    refine aops_call_v zRc (great_con (delC c s) (co c k : Nat)) rfl rfl ?_
    refine aops_nil ?_
    refine zT 9 rfl (AP.ar (ap_assign rfl)) ?_
    refine zT 10 rfl (AP.ar (ap_assign rfl)) ?_
    refine aany_nil zKr ?_
    all_goals (
      refine seqQ_n ?_; refine zS ?_; refine zMv ?_; refine zCm ?_; refine zMv ?_
      all_goals first | (refine zY ?_; refine zMv ?_) | refine zU ?_ | refine zNt ?_ | (refine zGt (fun hg => ?_) fun hg => ?_; case' _ => refine zMv ?_)
      all_goals first | (refine zY ?_; refine zCm ?_) | refine zU ?_ | refine zNt ?_ | (refine zGt (fun hg => ?_) fun hg => ?_; case' _ => refine zCm ?_)
      all_goals refine zPk ?_
      all_goals (
        refine zN ?_
        refine zC (fun hc => ?_) fun hc => ?_
        · first
          | (exact absurd hc (by decide))
          | (refine awp_seq ?_
             refine awp_region ?_; refine zMv ?_; refine zMv ?_; refine zAs ?_; refine zAs ?_; refine zAs ?_; refine zN ?_; refine awp_ret ?_; refine blockQ_r ?_; refine seqQ_r ?_; refine seqQ_r ?_; refine blockQ_r ?_; refine seqQ_r ?_
             rw [pairGo_hit (by omega) (nez_t (by unfold pairL; with_reducible assumption)) (nez_t (by unfold pairR; with_reducible assumption))] at hI
             rw [← hI]
             exact post_is (.tmp rfl (.tmp rfl (.tmp rfl .nil))) zKeep rfl
            )
        · first
          | (exact absurd hc (by decide))
          | (refine awp_skip ?_
             refine blockQ_n ?_; refine seqQ_n ?_; refine awp_region ?_; refine zAr ?_; refine zMv ?_; refine zN ?_
             have hz : pairL c s k = 0 ∨ pairR c s k = 0 := by
               first
               | (refine .inl (nez_f ?_); unfold pairL; with_reducible assumption)
               | (refine .inr (nez_f ?_); unfold pairR; with_reducible assumption)
             rw [pairGo_step (by omega) hz] at hI
             refine ⟨k + 1, ⟨by omega, hI⟩, by omega, wk zSub zKeep⟩
            )
        )
      )
  · have hge := of_decide_eq_false hc
    rw [pairGo_nil (by omega)] at hI
    refine awp_exit ?_; refine seqQ_x ?_; refine seqQ_x ?_; refine blockQ_x rfl ?_; refine seqQ_n ?_; refine zS ?_; refine zAs ?_; refine zAs ?_; refine zAs ?_; refine zN ?_; refine awp_ret ?_
    rw [← hI]
    exact post_is (.tmp rfl (.tmp rfl (.tmp rfl .nil))) zKeep rfl
theorem judge_con (c : List Mem) (hok : OKA c) (s : Nat) (hs : s < 2 ^ c.length) : Con none Tryz.prog 83 [cv c, .i s] [] (Is (vv (judgeC c s)) []) := by
  have hcap : capB = 140737488355328 := rfl
  refine con_intro Tryz.func83 rfl Tryz.call83 rfl ?_
  refine zS ?_
  refine aops_box rfl zFlat rfl rfl (fun b2 => ?_)
  refine aops_alloc rfl zRc rfl rfl (fun b4 => ?_)
  refine zN (zS ?_); refine zLd ?_; refine zMv ?_
  refine aops_call_v zRc (apair_con c hok s hs) rfl rfl ?_
  refine zMv ?_
  refine zP (ap_extract rfl rfl) ?_
  refine zP (ap_extract rfl rfl) ?_
  refine zP (ap_extract rfl rfl) ?_
  refine zAs ?_; refine zAs ?_; refine zAs ?_; refine zN (zS ?_); refine zMv ?_; refine zMv ?_; refine zLd ?_; refine zMv ?_
  refine aops_call_v zRc (silent_con c hok s hs) rfl rfl ?_
  refine zMv ?_; refine zMv ?_
  refine zP (ap_build zKr rfl zRc zFill) ?_
  refine zSt ?_; refine zN ?_; refine awp_ret ?_
  exact post_is (.cell rfl zUpd rfl rfl .nil) zKeep rfl
theorem Silent_con (c : List Mem) (hok : OKA c) (s : Nat) (hs : s < 2 ^ c.length) : Con none Tryz.prog 17 [cv c, .i s] [] (Is (.b (silentC c s)) []) := by
  have hcap : capB = 140737488355328 := rfl
  refine con_intro Tryz.func17 rfl Tryz.call17 rfl ?_
  refine zS ?_
  refine aops_box rfl zFlat rfl rfl (fun b2 => ?_)
  refine zAs ?_; refine zN (zS ?_); refine zLd ?_; refine zMv ?_
  refine aops_call_v zRc (check_con c hok s hs) rfl rfl ?_
  refine zCm ?_; refine zMv ?_
  all_goals first | (refine zY ?_; refine zLd ?_) | refine zU ?_ | refine zNt ?_ | (refine zGt (fun hg => ?_) fun hg => ?_; case' _ => refine zLd ?_)
  all_goals first | (refine zY ?_; refine zMv ?_) | refine zU ?_ | refine zNt ?_ | (refine zGt (fun hg => ?_) fun hg => ?_; case' _ => refine zMv ?_)
  all_goals first | (refine zY ?_; refine aops_call_v zRc (silent_con c hok s hs) rfl rfl ?_) | refine zU ?_ | refine zNt ?_ | (refine zGt (fun hg => ?_) fun hg => ?_; case' _ => refine aops_call_v zRc (silent_con c hok s hs) rfl rfl ?_)
  all_goals refine zPk ?_
  all_goals refine zAs ?_
  all_goals (
    refine zN ?_; refine awp_ret ?_
    exact post_is (.tmp rfl .nil) zKeep rfl
    )
def subV (p : Vd → Bool) (v o : Vd) : Bool := p o && (!decide ((o.nodes : Int) = v.nodes) && decide (((o.nodes &&& (2 ^ 63 - 1 - v.nodes) : Nat) : Int) = 0))
def leastGo (p : Vd → Bool) (l : List Vd) : List Vd → List Int → List Int
  | [], out => out
  | v :: r, out => if (p v && !(l.any (subV p v))) = true then leastGo p l r (out ++ [(v.nodes : Int)]) else leastGo p l r out
def leastV (p : Vd → Bool) (l : List Vd) : List Int := leastGo p l l []
theorem leastGo_t {p : Vd → Bool} {l r : List Vd} {v : Vd} {out : List Int} (h : (p v && !(l.any (subV p v))) = true) : leastGo p l (v :: r) out = leastGo p l r (out ++ [(v.nodes : Int)]) := by rw [leastGo, if_pos h]
theorem leastGo_f {p : Vd → Bool} {l r : List Vd} {v : Vd} {out : List Int} (h : (p v && !(l.any (subV p v))) = false) : leastGo p l (v :: r) out = leastGo p l r out := by rw [leastGo, if_neg (by rw [h]; decide)]
theorem within_con (g : FuncId) (p : Vd → Bool) (hp0 : ∀ v, Con none Tryz.prog g [vv v] [] (Is (.b (p v)) [])) (b3 b7 : Nat) (v o : Vd) (hv : v.nodes < 1024) (ho : o.nodes < 1024) : Con none Tryz.prog 123 [vv o, .p b3 0, .p b7 0] [.box b7 78 [.i v.nodes, .b v.splits, .b v.halts, .i v.l, .i v.r], .box b3 145 [.v (.func (.func g) #[] #[])]] (Is (.b (subV p v o)) [.box b7 78 [.i v.nodes, .b v.splits, .b v.halts, .i v.l, .i v.r], .box b3 145 [.v (.func (.func g) #[] #[])]]) := by
  have hcap : capB = 140737488355328 := rfl
  refine con_intro Tryz.func123 rfl Tryz.call123 rfl ?_
  refine zS ?_
  refine aops_box rfl zFlat rfl rfl (fun b3 => ?_)
  refine zAs ?_; refine zN (zS ?_); refine zL1 ?_; refine zLd ?_
  refine aops_callv_b (caps := []) rfl zRc (hp0 o) rfl rfl (fun c7 hc7 => ?_)
  refine zMv ?_
  all_goals first | (refine zY ?_; refine zF 0 1 false ?_) | refine zU ?_ | refine zNt ?_ | (refine zGt (fun hg => ?_) fun hg => ?_; case' _ => refine zF 0 1 false ?_)
  all_goals first | (refine zY ?_; refine zL1 ?_) | refine zU ?_ | refine zNt ?_ | (refine zGt (fun hg => ?_) fun hg => ?_; case' _ => refine zL1 ?_)
  all_goals first | (refine zY ?_; refine zF 0 1 false ?_) | refine zU ?_ | refine zNt ?_ | (refine zGt (fun hg => ?_) fun hg => ?_; case' _ => refine zF 0 1 false ?_)
  all_goals first | (refine zY ?_; refine zL1 ?_) | refine zU ?_ | refine zNt ?_ | (refine zGt (fun hg => ?_) fun hg => ?_; case' _ => refine zL1 ?_)
  all_goals first | (refine zY ?_; refine zCm ?_) | refine zU ?_ | refine zNt ?_ | (refine zGt (fun hg => ?_) fun hg => ?_; case' _ => refine zCm ?_)
  all_goals refine zPk ?_
  all_goals refine zMv ?_
  all_goals first | (refine zY ?_; refine zF 0 1 false ?_) | refine zU ?_ | refine zNt ?_ | (refine zGt (fun hg => ?_) fun hg => ?_; case' _ => refine zF 0 1 false ?_)
  all_goals first | (refine zY ?_; refine zL1 ?_) | refine zU ?_ | refine zNt ?_ | (refine zGt (fun hg => ?_) fun hg => ?_; case' _ => refine zL1 ?_)
  all_goals first | (refine zY ?_; refine zF 0 1 false ?_) | refine zU ?_ | refine zNt ?_ | (refine zGt (fun hg => ?_) fun hg => ?_; case' _ => refine zF 0 1 false ?_)
  all_goals first | (refine zY ?_; refine zL1 ?_) | refine zU ?_ | refine zNt ?_ | (refine zGt (fun hg => ?_) fun hg => ?_; case' _ => refine zL1 ?_)
  all_goals first | (refine zY ?_; refine zP (ap_bits rfl rfl rfl (by omega) (by omega)) ?_) | refine zU ?_ | refine zNt ?_ | (refine zGt (fun hg => ?_) fun hg => ?_; case' _ => refine zP (ap_bits rfl rfl rfl (by omega) (by omega)) ?_)
  all_goals first | (refine zY ?_; refine zCm ?_) | refine zU ?_ | refine zNt ?_ | (refine zGt (fun hg => ?_) fun hg => ?_; case' _ => refine zCm ?_)
  all_goals refine zPk ?_
  all_goals refine zAs ?_
  all_goals (
    refine zN ?_; refine awp_ret ?_
    refine post_is (.tmp rfl .nil) zKeep ?_
    unfold subV
    first
    | (simp_all [resD]; done)
    )
theorem isSplit_con (v : Vd) : Con none Tryz.prog 85 [vv v] [] (Is (.b v.splits) []) := by
  have hcap : capB = 140737488355328 := rfl
  refine con_intro Tryz.func85 rfl Tryz.call85 rfl ?_
  refine zS ?_
  refine aops_box rfl zFlat rfl rfl (fun b1 => ?_)
  refine zAs ?_; refine zN (zS ?_); refine zF 1 1 false ?_; refine zL1 ?_; refine zAs ?_; refine zN ?_; refine awp_ret ?_
  exact post_is (.tmp rfl .nil) zKeep rfl
theorem isHalt_con (v : Vd) : Con none Tryz.prog 86 [vv v] [] (Is (.b v.halts) []) := by
  have hcap : capB = 140737488355328 := rfl
  refine con_intro Tryz.func86 rfl Tryz.call86 rfl ?_
  refine zS ?_
  refine aops_box rfl zFlat rfl rfl (fun b1 => ?_)
  refine zAs ?_; refine zN (zS ?_); refine zF 2 1 false ?_; refine zL1 ?_; refine zAs ?_; refine zN ?_; refine awp_ret ?_
  exact post_is (.tmp rfl .nil) zKeep rfl
theorem aleast_con (g : FuncId) (p : Vd → Bool) (hp0 : ∀ v, Con none Tryz.prog g [vv v] [] (Is (.b (p v)) [])) (l : List Vd) (hl : ∀ v ∈ l, v.nodes < 1024) (hlen : l.length ≤ 1000000) : Con none Tryz.prog 84 [.sl 5 (l.map vv), .v (.func (.func g) #[] #[])] [] (Is (.sl 1 ((leastV p l).map .i)) []) := by
  have hcap : capB = 140737488355328 := rfl
  have hl1 : (l.map vv).length = l.length := by simp
  refine con_intro Tryz.func84 rfl Tryz.call84 rfl ?_
  refine zS ?_
  refine aops_box rfl zFlat rfl rfl (fun b3 => ?_)
  refine zAs ?_; refine zN (zS ?_); refine zAs ?_; refine zN ?_; refine awp_seq ?_; refine zS ?_; refine zMv ?_
  first | refine aops_len rfl rfl rfl rfl (fun _ => ?_) | refine zP (ap_len_arr rfl zUpd rfl) ?_ | refine zP (ap_len_nil rfl rfl) ?_
  refine zMv ?_; refine zN ?_; refine awp_block ?_
  refine awp_loop3 [0, 3, 9, 10] [.box b3 _ _] (fun (k : Nat) (v : Value) (q : List Int) r => (5, .v v) :: (11, .i (k : Int)) :: r) (fun (k : Nat) (v : Value) (q : List Int) r => .arr v 3 1 (q.map .i) :: r) (fun (k : Nat) (v : Value) (q : List Int) => k ≤ l.length ∧ q.length ≤ k ∧ leastGo p l (l.drop k) q = leastV p l) (fun (k : Nat) (v : Value) (q : List Int) => l.length - k) (0) (.slice none 0 0) ([]) zRc ⟨by omega, by simp, by simp [leastV]⟩ ((wk_own 3 1 rfl).trans (wk zSub zKeep)) ?_
  intro k v q ⟨hk, hql, hI⟩
  have hml : (q.map D.i).length = q.length := by simp
  refine zS ?_; refine zCm ?_; refine zN ?_; refine awp_seq ?_
  refine zC (fun hc => ?_) fun hc => ?_
  · have hlt := of_decide_eq_true hc
    obtain ⟨x, hx, hd⟩ := drop_cons (l := l) (k := k) (by omega)
    have hx' := getMap vv hx
    refine awp_skip ?_; refine seqQ_n ?_; refine awp_seq ?_; refine awp_block ?_; refine zS ?_
    first | refine zP (ap_index rfl rfl rfl rfl (by decide) rfl zAss) ?_ | refine zP (ap_index rfl rfl rfl rfl (by decide) (by omega) zAss) ?_ | refine zP (ap_index_own rfl rfl rfl rfl rfl (by first | omega | (simp only [List.length_map, List.length_set, avs_len]; omega))) ?_
    refine zLd ?_
    refine aops_alloc rfl zRc rfl rfl (fun b7 => ?_)
    refine zSt ?_; refine zN (zS ?_)
    refine zP (ap_makeFunc zRc) ?_
    refine zAs ?_; refine zN (zS ?_); refine zL1 ?_; refine zLd ?_
    refine aops_callv_b (caps := []) rfl zRc (hp0 x) rfl rfl (fun c18 hc18 => ?_)
    refine zMv ?_
    all_goals first | (refine zY ?_; refine zMv ?_) | refine zU ?_ | refine zNt ?_ | (refine zGt (fun hg => ?_) fun hg => ?_; case' _ => refine zMv ?_)
    all_goals first | (refine zY ?_; refine zMv ?_) | refine zU ?_ | refine zNt ?_ | (refine zGt (fun hg => ?_) fun hg => ?_; case' _ => refine zMv ?_)
    all_goals first | (refine zY ?_; (refine aops_call_is zRc (containsFV_con b3 b7 _ _ 123 (subV p x) l (fun o ho => within_con g p hp0 b3 b7 x o (hl x (List.mem_of_getElem? hx)) (hl o ho))) zSplit rfl rfl ?_; obtain ⟨c22, hc22⟩ : ∃ b, b = l.any (subV p x) := ⟨_, rfl⟩; rw [← hc22])) | refine zU ?_ | refine zNt ?_ | (refine zGt (fun hg => ?_) fun hg => ?_; case' _ => (refine aops_call_is zRc (containsFV_con b3 b7 _ _ 123 (subV p x) l (fun o ho => within_con g p hp0 b3 b7 x o (hl x (List.mem_of_getElem? hx)) (hl o ho))) zSplit rfl rfl ?_; obtain ⟨c22, hc22⟩ : ∃ b, b = l.any (subV p x) := ⟨_, rfl⟩; rw [← hc22]))
    all_goals first | (refine zY ?_; refine zNo ?_) | refine zU ?_ | refine zNt ?_ | (refine zGt (fun hg => ?_) fun hg => ?_; case' _ => refine zNo ?_)
    all_goals refine zPk ?_
    all_goals (
      refine zN ?_
      refine zC (fun hc => ?_) fun hc => ?_
      · first
        | (exact absurd hc (by decide))
        | (refine awp_region ?_
           refine zMv ?_; refine zF 0 1 false ?_; refine zL1 ?_
           refine aops_lit (e := 3) (sz := 1) (by_ := 8) rfl rfl zRc rfl rfl rfl rfl ?_
           first | refine aops_append (e := 3) (sz := 1) (by_ := 8) rfl zUpd rfl rfl rfl rfl rfl zLen (fun v29 hv29 => ?_) | refine aops_append_nil (e := 3) (sz := 1) (by_ := 8) rfl rfl rfl rfl rfl rfl zLen (fun v29 hv29 => ?_)
           refine zAs ?_; refine aops_nil ?_; refine blockQ_n ?_; refine seqQ_n ?_; refine awp_region ?_; refine zAr ?_; refine zMv ?_; refine zN ?_
           rw [hd] at hI
           first
           | (have h0 : c18 = false := (by with_reducible assumption); rw [leastGo_f (by rw [hc18, h0]; rfl)] at hI; refine ⟨k + 1, v, q, ⟨by omega, by omega, hI⟩, by omega, wk zSub zKeep⟩)
           | (have h0 : (!c22) = false := (by with_reducible assumption); rw [leastGo_f (by rw [← hc22, h0, Bool.and_false])] at hI; refine ⟨k + 1, v, q, ⟨by omega, by omega, hI⟩, by omega, wk zSub zKeep⟩)
           | (have h0 : (!c22) = true := (by with_reducible assumption); have h1 : c18 = true := (by with_reducible assumption); rw [leastGo_t (by rw [hc18, ← hc22, h0, h1]; rfl)] at hI; rw [mapi_snoc]; refine ⟨k + 1, _, q ++ [(x.nodes : Int)], ⟨by omega, by simp only [List.length_append, List.length_cons, List.length_nil]; omega, hI⟩, by omega, wk zSub zKeep⟩)
          )
      · first
        | (exact absurd hc (by decide))
        | (refine awp_skip ?_
           refine blockQ_n ?_; refine seqQ_n ?_; refine awp_region ?_; refine zAr ?_; refine zMv ?_; refine zN ?_
           rw [hd] at hI
           first
           | (have h0 : c18 = false := (by with_reducible assumption); rw [leastGo_f (by rw [hc18, h0]; rfl)] at hI; refine ⟨k + 1, v, q, ⟨by omega, by omega, hI⟩, by omega, wk zSub zKeep⟩)
           | (have h0 : (!c22) = false := (by with_reducible assumption); rw [leastGo_f (by rw [← hc22, h0, Bool.and_false])] at hI; refine ⟨k + 1, v, q, ⟨by omega, by omega, hI⟩, by omega, wk zSub zKeep⟩)
           | (have h0 : (!c22) = true := (by with_reducible assumption); have h1 : c18 = true := (by with_reducible assumption); rw [leastGo_t (by rw [hc18, ← hc22, h0, h1]; rfl)] at hI; rw [mapi_snoc]; refine ⟨k + 1, _, q ++ [(x.nodes : Int)], ⟨by omega, by simp only [List.length_append, List.length_cons, List.length_nil]; omega, hI⟩, by omega, wk zSub zKeep⟩)
          )
      )
  · have hge := of_decide_eq_false hc
    rw [drop_nil (by omega)] at hI
    simp only [leastGo] at hI
    refine awp_freeze v [5] zRem zSelC zHeapA ?_
    refine awp_exit ?_; refine seqQ_x ?_; refine seqQ_x ?_; refine blockQ_x rfl ?_; refine seqQ_n ?_; refine zS ?_; refine zMv ?_; refine zAs ?_; refine zN ?_; refine awp_ret ?_
    rw [← hI]
    exact post_is (.tmp rfl .nil) zKeep rfl
theorem rInts_con (x y : List Int) : Con none Tryz.prog 33 [.sl 1 (x.map .i), .sl 1 (y.map .i)] [] (Is (.b (decide (x = y))) []) := by
  have hcap : capB = 140737488355328 := rfl
  have hx1 : (x.map D.i).length = x.length := by simp
  have hy1 : (y.map D.i).length = y.length := by simp
  refine con_intro Tryz.func33 rfl Tryz.call33 rfl ?_
  refine zS ?_; refine zAs ?_; refine zN ?_; refine awp_seq ?_; refine zS ?_; refine zMv ?_
  first | refine aops_len rfl rfl rfl rfl (fun _ => ?_) | refine zP (ap_len_arr rfl zUpd rfl) ?_ | refine zP (ap_len_nil rfl rfl) ?_
  refine zMv ?_
  first | refine aops_len rfl rfl rfl rfl (fun _ => ?_) | refine zP (ap_len_arr rfl zUpd rfl) ?_ | refine zP (ap_len_nil rfl rfl) ?_
  refine zCm ?_; refine zN ?_
  refine zC (fun hc => ?_) fun hc => ?_
  · have hne := of_neq_true hc
    refine zS ?_; refine zAs ?_; refine zN ?_; refine awp_ret ?_; refine seqQ_r ?_
    refine post_is (.tmp rfl .nil) zKeep ?_
    rw [decide_eq_false (fun e => hne (by rw [e]))]; rfl
  · have hlen := of_neq_false hc
    have hll : x.length = y.length := by omega
    refine awp_skip ?_; refine seqQ_n ?_; refine awp_seq ?_; refine zS ?_; refine zMv ?_
    first | refine aops_len rfl rfl rfl rfl (fun _ => ?_) | refine zP (ap_len_arr rfl zUpd rfl) ?_ | refine zP (ap_len_nil rfl rfl) ?_
    refine zMv ?_; refine zN ?_; refine awp_block ?_
    refine awp_loop1 [0, 1, 12] [] (fun (k : Nat) r => (13, .i (k : Int)) :: r) (fun (k : Nat) r => r) (fun (k : Nat) => k ≤ x.length ∧ x.take k = y.take k) (fun (k : Nat) => x.length - k) (0) zRc ⟨by omega, by simp⟩ (wk zSub zKeep) ?_
    intro k ⟨hk, hI⟩
    refine zS ?_; refine zCm ?_; refine zN ?_; refine awp_seq ?_
    refine zC (fun hc => ?_) fun hc => ?_
    · have hlt := of_decide_eq_true hc
      obtain ⟨u, hu, _⟩ := drop_cons (l := x) (k := k) (by omega)
      obtain ⟨v, hv, _⟩ := drop_cons (l := y) (k := k) (by omega)
      have hu' := getMap D.i hu
      have hv' := getMap D.i hv
      refine awp_skip ?_; refine seqQ_n ?_; refine awp_seq ?_; refine awp_block ?_; refine zS ?_; refine zMv ?_; refine zAs ?_; refine zN ?_; refine awp_seq ?_
      refine awp_draw (Hm := []) zKr zSplit ?_
      refine zT 0 rfl (AP.ar (ap_move rfl)) ?_
      refine zT 1 rfl (AP.ar (ap_move rfl)) ?_
      first | refine zT 2 rfl (AP.ar (ap_index rfl rfl rfl rfl (by decide) rfl zAss)) ?_ | refine zT 2 rfl (AP.ar (ap_index rfl rfl rfl rfl (by decide) (by omega) zAss)) ?_ | refine zT 2 rfl (AP.ar (ap_index_own rfl rfl rfl rfl rfl (by first | omega | (simp only [List.length_map, List.length_set, avs_len]; omega)))) ?_
      refine zTL 3 ?_
      refine zT 4 rfl (AP.ar (ap_move rfl)) ?_
      refine zT 5 rfl (AP.ar (ap_move rfl)) ?_
      first | refine zT 6 rfl (AP.ar (ap_index rfl rfl rfl rfl (by decide) rfl zAss)) ?_ | refine zT 6 rfl (AP.ar (ap_index rfl rfl rfl rfl (by decide) (by omega) zAss)) ?_ | refine zT 6 rfl (AP.ar (ap_index_own rfl rfl rfl rfl rfl (by first | omega | (simp only [List.length_map, List.length_set, avs_len]; omega)))) ?_
      refine zTL 7 ?_
      refine zT 8 rfl (AP.ar (ap_cmp rfl rfl rfl)) ?_
      refine aany_nil zKr ?_
      all_goals (
        refine seqQ_n ?_
        refine zC (fun hc => ?_) fun hc => ?_
        · have hne := of_neq_true hc
          refine zS ?_; refine zAs ?_; refine zN ?_; refine awp_ret ?_; refine blockQ_r ?_; refine seqQ_r ?_; refine seqQ_r ?_; refine blockQ_r ?_; refine seqQ_r ?_
          refine post_is (.tmp rfl .nil) zKeep ?_
          rw [decide_eq_false (fun e => hne (by rw [e, hv] at hu; injection hu with hu; exact hu.symm))]; rfl
        · refine awp_skip ?_
          refine blockQ_n ?_; refine seqQ_n ?_; refine awp_region ?_; refine zAr ?_; refine zMv ?_; refine zN ?_
          have e := of_neq_false hc
          refine ⟨k + 1, ⟨by omega, by rw [List.take_add_one, List.take_add_one, hI, hu, hv, e]⟩, by omega, wk zSub zKeep⟩
        )
    · have hge := of_decide_eq_false hc
      refine awp_exit ?_; refine seqQ_x ?_; refine seqQ_x ?_; refine blockQ_x rfl ?_; refine seqQ_n ?_; refine zS ?_; refine zAs ?_; refine zN ?_; refine awp_ret ?_
      refine post_is (.tmp rfl .nil) zKeep ?_
      rw [List.take_of_length_le (by omega), List.take_of_length_le (by omega)] at hI; rw [decide_eq_true hI]; rfl
theorem tmod_bd2 (x : Int) {n : Int} (hn : 0 < n) : 0 ≤ (x.tmod n + n).tmod n ∧ (x.tmod n + n).tmod n < n := by
  have h := tmod_bd x hn
  exact ⟨Int.tmod_nonneg n (by omega), Int.tmod_lt_of_pos _ hn⟩
/-- A trust over n nodes as the source makes it. -/
structure OKS (n : Nat) (t : Trust) : Prop where
  ok : OKT n t
  nn : NN t
theorem trust5 {n : Nat} {th : Int} {q : List Int} {i2 : List Trust} (hn : n ≤ 9) (h1 : 1 ≤ th) (h2 : th ≤ q.length + i2.length) (hq : ∀ k ∈ q, 0 ≤ k ∧ k < (n : Int)) (hd : q.Nodup) (hl : q.length ≤ n) (hi : i2 = [] ∨ ∃ r : Int, (0 ≤ r ∧ r < n) ∧ i2 = [.mk 1 [r] []]) : OKS n (.mk th q i2) := by
  have hs : sizeT (.mk th q i2) ≤ 100 := by
    rcases hi with rfl | ⟨r, hr, rfl⟩ <;> simp [sizeT, Trust.nodes, Trust.inner, sizeL, size0] <;> omega
  have hil : i2.length ≤ 1 := by rcases hi with rfl | ⟨r, hr, rfl⟩ <;> simp
  have hv : validT (.mk th q i2) = 0 := by
    refine validT_of ?_ (by omega) (check_node h1 (by exact h2) (fun k hk => by have := hq k hk; omega) hd ?_)
    · rcases hi with rfl | ⟨r, hr, rfl⟩ <;> simp [depthT, Trust.inner, depthL, depth0]
    · rcases hi with rfl | ⟨r, hr, rfl⟩
      · exact fun x h => absurd h List.not_mem_nil
      · intro x hx
        obtain rfl : x = .mk 1 [r] [] := by simpa using hx
        exact check_leaf (by omega)
  refine ⟨OKT_of ⟨hq, (nbL_iff _ _).2 fun x hx => ?_⟩ hv, .mk ⟨by omega, by omega⟩ fun x hx => ?_⟩
  · rcases hi with rfl | ⟨r, hr, rfl⟩
    · exact absurd hx List.not_mem_nil
    · have hx1 : x ∈ [Trust.mk 1 [r] []] := hx
      obtain rfl : x = .mk 1 [r] [] := by simpa using hx1
      refine ⟨fun k hk => ?_, trivial⟩
      have hk1 : k ∈ [r] := hk
      obtain rfl : k = r := by simpa using hk1
      exact hr
  · rcases hi with rfl | ⟨r, hr, rfl⟩
    · exact absurd hx List.not_mem_nil
    · obtain rfl : x = .mk 1 [r] [] := by simpa using hx
      exact .mk ⟨by omega, by omega⟩ (fun y hy => absurd hy List.not_mem_nil)
def upN (n : Nat) : List Int := (List.range n).map fun (i : Nat) => (i : Int)
theorem upN_len (n : Nat) : (upN n).length = n := by simp [upN]
theorem upN_succ (n : Nat) : upN (n + 1) = upN n ++ [(n : Int)] := by simp [upN, List.range_succ]
theorem upN_mem {n : Nat} {k : Int} (h : k ∈ upN n) : 0 ≤ k ∧ k < (n : Int) := by
  obtain ⟨i, hi, rfl⟩ := List.mem_map.1 h
  have := List.mem_range.1 hi
  omega
theorem upN_nodup : ∀ n, (upN n).Nodup
  | 0 => by simp [upN]
  | n + 1 => by rw [upN_succ]; exact nodup_snoc (upN_nodup n) (fun k hk => (upN_mem hk).2) (by omega)
theorem flat_oks {n : Nat} {k : Int} (hn : 1 ≤ n ∧ n ≤ 9) (h1 : 1 ≤ k) (h2 : k ≤ n) : OKS n (.mk k (upN n) []) :=
  trust5 hn.2 h1 (by rw [upN_len]; simp; omega) (fun x hx => upN_mem hx) (upN_nodup n) (by rw [upN_len]; omega) (.inl rfl)
/-- A configuration as the source makes it. -/
theorem oka_of {c : List Mem} (hl : 1 ≤ c.length ∧ c.length ≤ 4) (h : ∀ m ∈ c, m.decl = true ∧ OKS c.length m.t) : OKA c :=
  ⟨hl.2, fun m hm => (h m hm).1, fun m hm => size_of_valid (h m hm).2.ok.vd, fun m hm => (h m hm).2.nn,
    validC_ok ⟨by omega, fun m hm => ⟨fun e => (by rw [(h m hm).1] at e; cases e), fun _ => (h m hm).2.ok⟩⟩⟩
theorem SNew_con (l : List Int) : Con none Tryz.prog 8 [.sl 1 (l.map .i)] [] (fun d H => ∃ b, d = .p b 0 ∧ H = [.box b 97 [.sl 1 ((l.take 800).map .i), .i ((0 : Nat) : Int)]]) := by
  have hcap : capB = 140737488355328 := rfl
  have hl1 : (l.map D.i).length = l.length := by simp
  refine con_intro Tryz.func8 rfl Tryz.call8 rfl ?_
  refine zS ?_; refine zAs ?_; refine zN (zS ?_); refine zMv ?_; refine zMv ?_
  first | refine aops_len rfl rfl rfl rfl (fun _ => ?_) | refine zP (ap_len_arr rfl zUpd rfl) ?_ | refine zP (ap_len_nil rfl rfl) ?_
  refine zP (ap_min rfl rfl) ?_
  refine zP (ap_slice_to (k := min l.length 800) rfl rfl rfl rfl (by simp only [List.length_map]; omega) (by simp only [List.length_map]; omega)) ?_; rw [← List.map_take]
  refine zP (ap_build zKr rfl zRc zFill) ?_
  refine aops_box rfl zFlat rfl rfl (fun b9 => ?_)
  refine zAs ?_; refine zN ?_; refine awp_ret ?_
  have e : l.take 800 = l.take (min l.length 800) := by rw [Nat.min_comm]; exact List.take_eq_take_min
  rw [e]
  refine post_ret (.tmp rfl .nil) zKeep ⟨_, rfl, rfl⟩
theorem SN_con (b : Nat) (l : List Int) (a : Nat) (n : Int) (hn : 1 ≤ n ∧ n ≤ 4611686018427387904) : Con none Tryz.prog 43 [.p b 0, .i n] [.box b 97 [.sl 1 (l.map .i), .i ((a : Nat) : Int)]] (fun d H => ∃ (r : Int) (a' : Nat), d = .i r ∧ (0 ≤ r ∧ r < n) ∧ H = [.box b 97 [.sl 1 (l.map .i), .i ((a' : Nat) : Int)]]) := by
  have hcap : capB = 140737488355328 := rfl
  have hl1 : (l.map D.i).length = l.length := by simp
  refine con_intro Tryz.func43 rfl Tryz.call43 rfl ?_
  refine zS ?_; refine zAs ?_; refine zN ?_; refine awp_seq ?_; refine awp_seq ?_
  refine awp_draw (Hm := []) zKr zSplit ?_
  refine zT 0 rfl (AP.ar (ap_move rfl)) ?_
  first | refine zT 1 rfl (AP.ar (ap_nilCheck rfl)) ?_ | refine zT 1 rfl (AP.ar (ap_nilCheck_el rfl)) ?_
  refine zTF 2 1 1 false ?_; refine zTL 3 ?_
  refine zT 4 rfl (AP.ar (ap_move rfl)) ?_
  first | refine zT 5 rfl (AP.ar (ap_nilCheck rfl)) ?_ | refine zT 5 rfl (AP.ar (ap_nilCheck_el rfl)) ?_
  refine zTF 6 0 1 false ?_; refine zTL 7 ?_
  first | refine zT 8 rfl (AP.ar (ap_len rfl rfl)) ?_ | refine zT 8 rfl (ar_len_arr rfl zUpd rfl) ?_ | refine zT 8 rfl (AP.ar (ap_len_nil rfl rfl)) ?_
  refine zT 9 rfl (AP.ar (ap_cmp rfl rfl rfl)) ?_
  refine zT 10 rfl (AP.ar (ap_move rfl)) ?_
  refine aany_guard 10 rfl (fun hg => ?_) (fun hg => ?_)
  rotate_left
  case' _ =>
    refine zT 11 rfl (AP.ar (ap_move rfl)) ?_
    refine zT 12 rfl (AP.ar (ap_cmp rfl rfl rfl)) ?_
    refine zTp 13 ?_; refine aany_nil zKr ?_
  rotate_right
  case' _ =>
    refine zK 11 ?_; refine zK 12 ?_; refine zTp 13 ?_; refine aany_nil zKr ?_
  all_goals (
    refine seqQ_n ?_
    refine zC (fun hc => ?_) fun hc => ?_
    · first
      | (exact absurd hc (by decide))
      | (first | (have h18 := of_decide_eq_true hc) | (have h18 := hc)
         refine zS ?_; refine zAs ?_; refine zN ?_; refine awp_ret ?_; refine seqQ_r ?_
         refine post_ret (.tmp rfl .nil) zKeep ⟨_, _, rfl, ?_, rfl⟩
         omega
        )
    · first
      | (exact absurd hc (by decide))
      | (have h17 := of_decide_eq_false hc
         have h15 := of_decide_eq_false hg
         have hlt : a < l.length := by omega
         obtain ⟨x, hx, _⟩ := drop_cons hlt
         have hx' := getMap D.i hx
         have hn0 : n ≠ 0 := by omega
         have hm := tmod_bd x (show 0 < n by omega)
         refine awp_skip ?_; refine seqQ_n ?_; refine zS ?_
         refine aops_fact (t := 12) rfl rfl (fun hlen => ?_); refine zMv ?_
         first | refine zP (ap_nilCheck rfl) ?_ | refine zP (ap_nilCheck_el rfl) ?_
         refine zF 1 1 false ?_; refine zL1 ?_; refine zAr ?_
         first | refine zP (ap_nilCheck rfl) ?_ | refine zP (ap_nilCheck_el rfl) ?_
         refine zF 1 1 false ?_; refine zSt ?_; refine zN ?_; refine awp_seq ?_
         refine awp_draw (Hm := []) zKr zSplit ?_
         refine zT 0 rfl (AP.ar (ap_move rfl)) ?_
         first | refine zT 1 rfl (AP.ar (ap_nilCheck rfl)) ?_ | refine zT 1 rfl (AP.ar (ap_nilCheck_el rfl)) ?_
         refine zTF 2 0 1 false ?_; refine zTL 3 ?_
         refine zT 4 rfl (AP.ar (ap_move rfl)) ?_
         first | refine zT 5 rfl (AP.ar (ap_nilCheck rfl)) ?_ | refine zT 5 rfl (AP.ar (ap_nilCheck_el rfl)) ?_
         refine zTF 6 1 1 false ?_; refine zTL 7 ?_
         refine zT 8 rfl (AP.ar (ap_arith rfl rfl rfl (by omega))) ?_
         refine zT 9 rfl (AP.ar (ap_index (k := a) rfl rfl rfl rfl (by decide) (by omega) hx')) ?_
         refine zTL 10 ?_
         refine zT 11 rfl (AP.ar (ap_move rfl)) ?_
         refine zT 12 rfl (AP.ar (ap_rem rfl rfl (by omega))) ?_
         refine zT 13 rfl (AP.ar (ap_move rfl)) ?_
         refine zT 14 rfl (AP.ar (ap_arith rfl rfl rfl (by omega))) ?_
         refine zT 15 rfl (AP.ar (ap_move rfl)) ?_
         refine zT 16 rfl (AP.ar (ap_rem rfl rfl (by omega))) ?_
         refine zT 17 rfl (AP.ar (ap_assign rfl)) ?_
         refine aany_nil zKr ?_
         all_goals (
           refine seqQ_n ?_; refine awp_ret ?_
           refine post_ret (.tmp rfl .nil) zKeep ⟨_, a + 1, rfl, ?_, rfl⟩
           exact tmod_bd2 _ (by omega)
           )
        )
    )
theorem SRange_con (b : Nat) (l : List Int) (a : Nat) (x y : Int) (h : x ≤ y ∧ -1000000 ≤ x ∧ y ≤ 1000000000) : Con none Tryz.prog 9 [.p b 0, .i x, .i y] [.box b 97 [.sl 1 (l.map .i), .i ((a : Nat) : Int)]] (fun d H => ∃ (r : Int) (a' : Nat), d = .i r ∧ (x ≤ r ∧ r ≤ y) ∧ H = [.box b 97 [.sl 1 (l.map .i), .i ((a' : Nat) : Int)]]) := by
  have hcap : capB = 140737488355328 := rfl
  refine con_intro Tryz.func9 rfl Tryz.call9 rfl ?_
  refine zS ?_; refine zAs ?_; refine zN (zS ?_); refine zMv ?_; refine zMv ?_; refine zMv ?_; refine zMv ?_; refine zAr ?_; refine zAr ?_
  (refine aops_call zRc (SN_con _ _ _ _ (by omega)) zSplit rfl rfl ?_; rintro _ _ ⟨r13, a13, rfl, hr13, rfl⟩)
  refine zAr ?_; refine zAs ?_; refine zN ?_; refine awp_ret ?_
  refine post_ret (.tmp rfl .nil) zKeep ⟨_, _, rfl, ?_, rfl⟩
  omega
set_option maxHeartbeats 2000000 in
theorem STrust_con (b n : Nat) (l : List Int) (hn : 1 ≤ n ∧ n ≤ 9) (a : Nat) : Con none Tryz.prog 45 [.p b 0, .i n] [.box b 97 [.sl 1 (l.map .i), .i ((a : Nat) : Int)]] (fun d H => ∃ (t : Trust) (a' : Nat), d = av t ∧ OKS n t ∧ H = [.box b 97 [.sl 1 (l.map .i), .i ((a' : Nat) : Int)]]) := by
  have hcap : capB = 140737488355328 := rfl
  refine con_intro Tryz.func45 rfl Tryz.call45 rfl ?_
  refine zS ?_
  refine aops_alloc rfl zRc rfl rfl (fun b4 => ?_)
  refine zN (zS ?_)
  refine aops_alloc rfl zRc rfl rfl (fun b5 => ?_)
  refine zN ?_; refine awp_seq ?_; refine zS ?_; refine zAs ?_; refine zN ?_; refine awp_block ?_
  refine awp_loop4 [0, 1, 4, 5] [.box b4 _ _] (fun (k : Nat) (v : Value) (q : List Int) (a : Nat) r => (6, .i (k : Int)) :: r) (fun (k : Nat) (v : Value) (q : List Int) (a : Nat) r => .box b5 48 [.i 0, .v v, .nil] :: .arr v 3 1 (q.map .i) :: .box b 97 [.sl 1 (l.map .i), .i ((a : Nat) : Int)] :: r) (fun (k : Nat) (v : Value) (q : List Int) (a : Nat) => k ≤ n ∧ q.length ≤ k ∧ (∀ x ∈ q, 0 ≤ x ∧ x < (k : Int)) ∧ q.Nodup) (fun (k : Nat) (v : Value) (q : List Int) (a : Nat) => n - k) (0) (.slice none 0 0) ([]) (a) zRc ⟨by omega, by simp, by simp, by simp⟩ ((wk_own 3 1 rfl).trans (wk zSub zKeep)) ?_
  intro k v q a ⟨hk, hql, hqm, hqd⟩
  have hml : (q.map D.i).length = q.length := by simp
  refine awp_seq ?_; refine zS ?_; refine zMv ?_; refine zMv ?_; refine zCm ?_; refine zN ?_
  refine zC (fun hc => ?_) fun hc => ?_
  · have hlt := of_decide_eq_true hc
    refine awp_skip ?_; refine seqQ_n ?_; refine awp_seq ?_; refine awp_block ?_; refine zS ?_; refine zMv ?_
    (refine aops_call zRc (SN_con _ _ _ _ (by omega)) zSplit rfl rfl ?_; rintro _ _ ⟨r14, a14, rfl, hr14, rfl⟩)
    refine zCm ?_; refine zN ?_
    refine zC (fun hc => ?_) fun hc => ?_
    · refine awp_region ?_
      refine zF 1 1 false ?_; refine zL1 ?_; refine zMv ?_
      refine aops_lit (e := 3) (sz := 1) (by_ := 8) rfl rfl zRc rfl rfl rfl rfl ?_
      first | refine aops_append (e := 3) (sz := 1) (by_ := 8) rfl zUpd rfl rfl rfl rfl rfl zLen (fun v20 hv20 => ?_) | refine aops_append_nil (e := 3) (sz := 1) (by_ := 8) rfl rfl rfl rfl rfl rfl zLen (fun v20 hv20 => ?_)
      refine zF 1 1 false ?_; refine zSt ?_; refine aops_nil ?_; refine blockQ_n ?_; refine seqQ_n ?_; refine awp_region ?_; refine zMv ?_; refine zAr ?_; refine zAs ?_; refine zN ?_
      first | (rw [mapi_snoc]; refine ⟨k + 1, _, q ++ [(k : Int)], _, ⟨by omega, by simp only [List.length_append, List.length_cons, List.length_nil]; omega, snoc_mem (fun y hy => by have := hqm y hy; omega) (by omega), nodup_snoc hqd (fun y hy => (hqm y hy).2) (by omega)⟩, by omega, wk zSub zKeep⟩) | refine ⟨k + 1, _, q, _, ⟨by omega, by omega, fun y hy => by have := hqm y hy; omega, hqd⟩, by omega, wk zSub zKeep⟩
    · refine awp_skip ?_
      refine blockQ_n ?_; refine seqQ_n ?_; refine awp_region ?_; refine zMv ?_; refine zAr ?_; refine zAs ?_; refine zN ?_
      first | (rw [mapi_snoc]; refine ⟨k + 1, _, q ++ [(k : Int)], _, ⟨by omega, by simp only [List.length_append, List.length_cons, List.length_nil]; omega, snoc_mem (fun y hy => by have := hqm y hy; omega) (by omega), nodup_snoc hqd (fun y hy => (hqm y hy).2) (by omega)⟩, by omega, wk zSub zKeep⟩) | refine ⟨k + 1, _, q, _, ⟨by omega, by omega, fun y hy => by have := hqm y hy; omega, hqd⟩, by omega, wk zSub zKeep⟩
  · refine awp_exit ?_
    refine seqQ_x ?_; refine seqQ_x ?_; refine blockQ_x rfl ?_; refine seqQ_n ?_; refine awp_seq ?_; refine zS ?_; refine zF 1 1 false ?_; refine zL1 ?_
    first | refine aops_len rfl rfl rfl rfl (fun _ => ?_) | refine zP (ap_len_arr rfl zUpd rfl) ?_ | refine zP (ap_len_nil rfl rfl) ?_
    refine zCm ?_; refine zN ?_
    refine zC (fun hc => ?_) fun hc => ?_
    rotate_left
    case' _ =>
      obtain ⟨p, hp⟩ : ∃ p : List Int, p = q := ⟨_, rfl⟩
      have hpl : 1 ≤ p.length ∧ p.length ≤ n := by have := of_decide_eq_false hc; rw [hp]; omega
      have hpd : p.Nodup := by rw [hp]; exact hqd
      have hpm : ∀ x ∈ p, 0 ≤ x ∧ x < (n : Int) := fun y hy => by have := hqm y (hp ▸ hy); omega
      refine awp_skip ?_
    rotate_right
    case' _ =>
      refine awp_region ?_; refine zMv ?_; refine zMv ?_
      (refine aops_call zRc (SN_con _ _ _ _ (by omega)) zSplit rfl rfl ?_; rintro _ _ ⟨r28, a28, rfl, hr28, rfl⟩; obtain ⟨p, hp⟩ : ∃ p : List Int, p = [r28] := ⟨_, rfl⟩; have hpl : 1 ≤ p.length ∧ p.length ≤ n := (by rw [hp]; simp; omega); have hpd : p.Nodup := (by rw [hp]; simp); have hpm : ∀ x ∈ p, 0 ≤ x ∧ x < (n : Int) := (by rw [hp]; simp; omega))
      refine aops_lit (e := 3) (sz := 1) (by_ := 8) rfl rfl zRc rfl rfl rfl rfl ?_
      refine zF 1 1 false ?_; refine zSt ?_; refine aops_nil ?_
    all_goals (
      refine seqQ_n ?_; refine awp_seq ?_; refine awp_seq ?_
      refine awp_freeze v [0,1,4,5] zRem zSelC zHeapA ?_
      first | (rw [show [D.i r28] = p.map D.i from by rw [hp]; rfl]) | rw [← hp]
      have hml2 : (p.map D.i).length = p.length := by simp
      refine awp_region ?_; refine zMv ?_
      (refine aops_call zRc (SN_con _ _ _ _ (by omega)) zSplit rfl rfl ?_; rintro _ _ ⟨r32, a32, rfl, hr32, rfl⟩)
      refine zCm ?_; refine zN ?_
      refine zC (fun hc => ?_) fun hc => ?_
      rotate_left
      case' _ =>
        have mk33f : True := trivial
        refine awp_skip ?_
      rotate_right
      case' _ =>
        have mk33t : True := trivial
        refine awp_draw (Hm := [.box b _ _, .box b5 _ _]) zKr zSplit ?_
        refine zTF 0 2 1 false ?_
        refine zT 2 rfl (AP.ar (ap_move rfl)) ?_
        refine zT 3 rfl (AP.ar (ap_move rfl)) ?_
        refine aany_each2 1 4 zKr rfl (.none rfl) ?_ rfl (.none rfl) ?_
        rotate_left
        case' _ =>
          (refine aops_call zRc (SN_con _ _ _ _ (by omega)) zSplit rfl rfl ?_; rintro _ _ ⟨r38, a38, rfl, hr38, rfl⟩)
          refine aops_nil ?_
          refine aany_each2 1 5 zKr rfl (.none rfl) ?_ rfl (.none rfl) ?_
          rotate_left
          case' _ =>
            refine aops_lit (e := 3) (sz := 1) (by_ := 8) rfl rfl zRc rfl rfl rfl rfl ?_
            refine aops_nil ?_
            refine zT 6 rfl (AP.ar (ap_build zKr rfl zRc zFill)) ?_
            refine aany_each2 1 7 zKr rfl (.none rfl) ?_ rfl (.none rfl) ?_
            rotate_left
            case' _ =>
              first | (refine aops_unnil [0,1,4,5,34,35,40] 3 rfl rfl (by repeat (first | exact SelC.nil | apply SelC.cons rfl (Cv.agg (CvL.cons Cv.same (CvL.cons Cv.same (CvL.cons Cv.fz CvL.nil)))) | apply SelC.cons rfl Cv.same)) zHeapS ?_; refine aops_lit (e := 48) (sz := 3) (by_ := 56) rfl rfl zRc rfl rfl rfl rfl ?_) | (refine aops_unnil [0,1,4,5,34,40] 3 rfl rfl (by repeat (first | exact SelC.nil | apply SelC.cons rfl (Cv.agg (CvL.cons Cv.same (CvL.cons Cv.same (CvL.cons Cv.fz CvL.nil)))) | apply SelC.cons rfl Cv.same)) zHeapS ?_; refine aops_lit (e := 48) (sz := 3) (by_ := 56) rfl rfl zRc rfl rfl rfl rfl ?_)
              refine aops_nil ?_
              refine aany_one 1 zKr rfl (.none rfl) ?_
              refine zL1 ?_; refine aops_nil ?_
              refine aany_one 8 zKr rfl (.none rfl) ?_
              first | refine aops_append (e := 48) (sz := 3) (by_ := 56) rfl zUpd rfl rfl rfl rfl rfl zLen (fun v42 hv42 => ?_) | refine aops_append_nil (e := 48) (sz := 3) (by_ := 56) rfl rfl rfl rfl rfl rfl zLen (fun v42 hv42 => ?_)
              refine aops_nil ?_; refine zTF 9 2 1 false ?_
              refine aany_one 10 zKr rfl (.none rfl) ?_
              refine zSt ?_; refine aops_nil ?_; refine aany_nil zKr ?_
            rotate_right
            case' _ =>
              refine zL1 ?_; refine aops_nil ?_
              refine aany_one 7 zKr rfl (.none rfl) ?_
              first | (refine aops_unnil [0,1,4,5,34,35,40] 3 rfl rfl (by repeat (first | exact SelC.nil | apply SelC.cons rfl (Cv.agg (CvL.cons Cv.same (CvL.cons Cv.same (CvL.cons Cv.fz CvL.nil)))) | apply SelC.cons rfl Cv.same)) zHeapS ?_; refine aops_lit (e := 48) (sz := 3) (by_ := 56) rfl rfl zRc rfl rfl rfl rfl ?_) | (refine aops_unnil [0,1,4,5,34,40] 3 rfl rfl (by repeat (first | exact SelC.nil | apply SelC.cons rfl (Cv.agg (CvL.cons Cv.same (CvL.cons Cv.same (CvL.cons Cv.fz CvL.nil)))) | apply SelC.cons rfl Cv.same)) zHeapS ?_; refine aops_lit (e := 48) (sz := 3) (by_ := 56) rfl rfl zRc rfl rfl rfl rfl ?_)
              refine aops_nil ?_
              refine aany_one 8 zKr rfl (.none rfl) ?_
              first | refine aops_append (e := 48) (sz := 3) (by_ := 56) rfl zUpd rfl rfl rfl rfl rfl zLen (fun v42 hv42 => ?_) | refine aops_append_nil (e := 48) (sz := 3) (by_ := 56) rfl rfl rfl rfl rfl rfl zLen (fun v42 hv42 => ?_)
              refine aops_nil ?_; refine zTF 9 2 1 false ?_
              refine aany_one 10 zKr rfl (.none rfl) ?_
              refine zSt ?_; refine aops_nil ?_; refine aany_nil zKr ?_
          rotate_right
          case' _ =>
            refine zL1 ?_; refine aops_nil ?_
            refine aany_one 5 zKr rfl (.none rfl) ?_
            refine aops_lit (e := 3) (sz := 1) (by_ := 8) rfl rfl zRc rfl rfl rfl rfl ?_
            refine aops_nil ?_
            refine zT 6 rfl (AP.ar (ap_build zKr rfl zRc zFill)) ?_
            refine aany_one 7 zKr rfl (.none rfl) ?_
            first | (refine aops_unnil [0,1,4,5,34,35,40] 3 rfl rfl (by repeat (first | exact SelC.nil | apply SelC.cons rfl (Cv.agg (CvL.cons Cv.same (CvL.cons Cv.same (CvL.cons Cv.fz CvL.nil)))) | apply SelC.cons rfl Cv.same)) zHeapS ?_; refine aops_lit (e := 48) (sz := 3) (by_ := 56) rfl rfl zRc rfl rfl rfl rfl ?_) | (refine aops_unnil [0,1,4,5,34,40] 3 rfl rfl (by repeat (first | exact SelC.nil | apply SelC.cons rfl (Cv.agg (CvL.cons Cv.same (CvL.cons Cv.same (CvL.cons Cv.fz CvL.nil)))) | apply SelC.cons rfl Cv.same)) zHeapS ?_; refine aops_lit (e := 48) (sz := 3) (by_ := 56) rfl rfl zRc rfl rfl rfl rfl ?_)
            refine aops_nil ?_
            refine aany_one 8 zKr rfl (.none rfl) ?_
            first | refine aops_append (e := 48) (sz := 3) (by_ := 56) rfl zUpd rfl rfl rfl rfl rfl zLen (fun v42 hv42 => ?_) | refine aops_append_nil (e := 48) (sz := 3) (by_ := 56) rfl rfl rfl rfl rfl rfl zLen (fun v42 hv42 => ?_)
            refine aops_nil ?_; refine zTF 9 2 1 false ?_
            refine aany_one 10 zKr rfl (.none rfl) ?_
            refine zSt ?_; refine aops_nil ?_; refine aany_nil zKr ?_
        rotate_right
        case' _ =>
          refine zL1 ?_; refine aops_nil ?_
          refine aany_one 4 zKr rfl (.none rfl) ?_
          (refine aops_call zRc (SN_con _ _ _ _ (by omega)) zSplit rfl rfl ?_; rintro _ _ ⟨r38, a38, rfl, hr38, rfl⟩)
          refine aops_nil ?_
          refine aany_one 5 zKr rfl (.none rfl) ?_
          refine aops_lit (e := 3) (sz := 1) (by_ := 8) rfl rfl zRc rfl rfl rfl rfl ?_
          refine aops_nil ?_
          refine zT 6 rfl (AP.ar (ap_build zKr rfl zRc zFill)) ?_
          refine aany_one 7 zKr rfl (.none rfl) ?_
          first | (refine aops_unnil [0,1,4,5,34,35,40] 3 rfl rfl (by repeat (first | exact SelC.nil | apply SelC.cons rfl (Cv.agg (CvL.cons Cv.same (CvL.cons Cv.same (CvL.cons Cv.fz CvL.nil)))) | apply SelC.cons rfl Cv.same)) zHeapS ?_; refine aops_lit (e := 48) (sz := 3) (by_ := 56) rfl rfl zRc rfl rfl rfl rfl ?_) | (refine aops_unnil [0,1,4,5,34,40] 3 rfl rfl (by repeat (first | exact SelC.nil | apply SelC.cons rfl (Cv.agg (CvL.cons Cv.same (CvL.cons Cv.same (CvL.cons Cv.fz CvL.nil)))) | apply SelC.cons rfl Cv.same)) zHeapS ?_; refine aops_lit (e := 48) (sz := 3) (by_ := 56) rfl rfl zRc rfl rfl rfl rfl ?_)
          refine aops_nil ?_
          refine aany_one 8 zKr rfl (.none rfl) ?_
          first | refine aops_append (e := 48) (sz := 3) (by_ := 56) rfl zUpd rfl rfl rfl rfl rfl zLen (fun v42 hv42 => ?_) | refine aops_append_nil (e := 48) (sz := 3) (by_ := 56) rfl rfl rfl rfl rfl rfl zLen (fun v42 hv42 => ?_)
          refine aops_nil ?_; refine zTF 9 2 1 false ?_
          refine aany_one 10 zKr rfl (.none rfl) ?_
          refine zSt ?_; refine aops_nil ?_; refine aany_nil zKr ?_
      all_goals (
        refine seqQ_n ?_; refine awp_seq ?_
        first | (have := mk33t; refine awp_freeze v42 [0,4,5] zRem zSelC zHeapA ?_; obtain ⟨i2, hi2, hii⟩ : ∃ i2 : List Trust, (i2 = [] ∨ ∃ r : Int, (0 ≤ r ∧ r < n) ∧ i2 = [.mk 1 [r] []]) ∧ i2 = [.mk 1 [r38] []] := ⟨_, .inr ⟨r38, hr38, rfl⟩, rfl⟩; rw [show [D.agg [.i 1, .sl 1 [.i r38], .sl 3 []]] = avs i2 from by rw [hii]; rfl]) | (have := mk33f; refine awp_unnil [0,4,5] 3 rfl zSelC zHeapA ?_; obtain ⟨i2, hi2, hii⟩ : ∃ i2 : List Trust, (i2 = [] ∨ ∃ r : Int, (0 ≤ r ∧ r < n) ∧ i2 = [.mk 1 [r] []]) ∧ i2 = [] := ⟨_, .inl rfl, rfl⟩; rw [show D.sl 3 [] = D.sl 3 (avs i2) from by rw [hii]; rfl])
        have hil : i2.length ≤ 1 := by rcases hi2 with h | ⟨r, _, h⟩ <;> rw [h] <;> simp
        have hal := avs_len i2
        refine awp_region ?_; refine zF 1 1 false ?_; refine zL1 ?_
        first | refine aops_len rfl rfl rfl rfl (fun _ => ?_) | refine zP (ap_len_arr rfl zUpd rfl) ?_ | refine zP (ap_len_nil rfl rfl) ?_
        refine zF 2 1 false ?_; refine zL1 ?_
        first | refine aops_len rfl rfl rfl rfl (fun _ => ?_) | refine zP (ap_len_arr rfl zUpd rfl) ?_ | refine zP (ap_len_nil rfl rfl) ?_
        refine zAr ?_; refine zAs ?_; refine zN (zS ?_); refine zMv ?_; refine zMv ?_; refine zAr ?_
        refine zP (ap_quon rfl rfl (by omega)) ?_
        refine zMv ?_
        (refine aops_call zRc (SRange_con _ _ _ _ _ (by omega)) zSplit rfl rfl ?_; rintro _ _ ⟨r56, a56, rfl, hr56, rfl⟩)
        refine zF 0 1 false ?_; refine zSt ?_; refine zN ?_; refine awp_seq ?_; refine zS ?_; refine zMv ?_
        (refine aops_call zRc (SN_con _ _ _ _ (by omega)) zSplit rfl rfl ?_; rintro _ _ ⟨r59, a59, rfl, hr59, rfl⟩)
        refine zCm ?_; refine zN ?_
        refine zC (fun hc => ?_) fun hc => ?_
        rotate_left
        case' _ =>
          refine awp_skip ?_
        rotate_right
        case' _ =>
          refine awp_region ?_; refine zF 0 1 false ?_; refine zSt ?_; refine aops_nil ?_
        all_goals (
          refine seqQ_n ?_; refine zS ?_; refine zLd ?_; refine zSt ?_; refine zN ?_; refine awp_ret ?_
          first | exact post_ret (.cell rfl zUpd rfl rfl .nil) zKeep ⟨.mk 1 p i2, _, rfl, trust5 hn.2 (by omega) (by omega) hpm hpd hpl.2 hi2, rfl⟩ | exact post_ret (.cell rfl zUpd rfl rfl .nil) zKeep ⟨.mk r56 p i2, _, rfl, trust5 hn.2 (by omega) (by omega) hpm hpd hpl.2 hi2, rfl⟩
          )
        )
      )
theorem Flat_con (n : Nat) (hn : n ≤ 1000) (k : Int) : Con none Tryz.prog 44 [.i n, .i k] [] (Is (av (.mk k (upN n) [])) []) := by
  have hcap : capB = 140737488355328 := rfl
  refine con_intro Tryz.func44 rfl Tryz.call44 rfl ?_
  refine zS ?_
  refine aops_alloc rfl zRc rfl rfl (fun b4 => ?_)
  refine zN (zS ?_); refine zMv ?_
  refine zP (ap_build zKr rfl zRc zFill) ?_
  refine aops_alloc rfl zRc rfl rfl (fun b5 => ?_)
  refine zSt ?_; refine zN ?_; refine awp_seq ?_; refine zS ?_; refine zAs ?_; refine zN ?_; refine awp_block ?_
  refine awp_loop2 [0, 4, 5] [.box b4 _ _] (fun (j : Nat) (v : Value) r => (6, .i (j : Int)) :: r) (fun (j : Nat) (v : Value) r => .box b5 48 [.i k, .v v, .nil] :: .arr v 3 1 ((upN j).map .i) :: r) (fun (j : Nat) (v : Value) => j ≤ n) (fun (j : Nat) (v : Value) => n - j) (0) (.slice none 0 0) zRc (by omega) ((wk_own 3 1 rfl).trans (wk zSub zKeep)) ?_
  intro j v hj
  have hml : ((upN j).map D.i).length = j := by rw [List.length_map, upN_len]
  refine awp_seq ?_; refine zS ?_; refine zMv ?_; refine zMv ?_; refine zCm ?_; refine zN ?_
  refine zC (fun hc => ?_) fun hc => ?_
  · have hlt := of_decide_eq_true hc
    refine awp_skip ?_; refine seqQ_n ?_; refine awp_seq ?_; refine awp_block ?_; refine awp_region ?_; refine zF 1 1 false ?_; refine zL1 ?_; refine zMv ?_
    refine aops_lit (e := 3) (sz := 1) (by_ := 8) rfl rfl zRc rfl rfl rfl rfl ?_
    first | refine aops_append (e := 3) (sz := 1) (by_ := 8) rfl zUpd rfl rfl rfl rfl rfl (by simp only [List.length_cons, List.length_nil, List.length_append, List.length_map, upN_len]; omega) (fun v18 hv18 => ?_) | refine aops_append_nil (e := 3) (sz := 1) (by_ := 8) rfl rfl rfl rfl rfl rfl (by simp only [List.length_cons, List.length_nil, List.length_append, List.length_map, upN_len]; omega) (fun v18 hv18 => ?_)
    refine zF 1 1 false ?_; refine zSt ?_; refine aops_nil ?_; refine blockQ_n ?_; refine seqQ_n ?_; refine awp_region ?_; refine zMv ?_; refine zAr ?_; refine zAs ?_; refine zN ?_
    refine ⟨j + 1, v18, by omega, by omega, ?_⟩
    rw [upN_succ, ← mapi_snoc]; exact wk zSub zKeep
  · have hge := of_decide_eq_false hc
    obtain rfl : j = n := by omega
    refine awp_freeze v [4,5] zRem zSelC zHeapA ?_
    refine awp_unnil [4,5] 3 rfl zSelC zHeapA ?_
    refine awp_exit ?_; refine seqQ_x ?_; refine seqQ_x ?_; refine blockQ_x rfl ?_; refine seqQ_n ?_; refine zS ?_; refine zLd ?_; refine zSt ?_; refine zN ?_; refine awp_ret ?_
    exact post_is (.cell rfl zUpd rfl rfl .nil) zKeep rfl
theorem SConfig_con (b n : Nat) (l : List Int) (hn : 1 ≤ n ∧ n ≤ 4) (a : Nat) : Con none Tryz.prog 10 [.p b 0, .i n] [.box b 97 [.sl 1 (l.map .i), .i ((a : Nat) : Int)]] (fun d H => ∃ (c : List Mem) (a' : Nat), d = cv c ∧ (OKA c ∧ c.length = n) ∧ H = [.box b 97 [.sl 1 (l.map .i), .i ((a' : Nat) : Int)]]) := by
  have hcap : capB = 140737488355328 := rfl
  refine con_intro Tryz.func10 rfl Tryz.call10 rfl ?_
  refine zS ?_
  refine aops_alloc rfl zRc rfl rfl (fun b4 => ?_)
  refine zN (zS ?_)
  refine aops_alloc rfl zRc rfl rfl (fun b5 => ?_)
  refine zN (zS ?_); refine zMv ?_
  (refine aops_call zRc (SN_con _ _ _ _ (by omega)) zSplit rfl rfl ?_; rintro _ _ ⟨r10, a10, rfl, hr10, rfl⟩)
  refine zCm ?_; refine zAs ?_; refine zN ?_; refine awp_seq ?_; refine zS ?_; refine zAs ?_; refine zN ?_; refine awp_block ?_
  refine awp_loop4 [0, 1, 4, 5, 6] [.box b4 _ _] (fun (k : Nat) (v : Value) (q : List Mem) (a : Nat) r => (7, .i (k : Int)) :: r) (fun (k : Nat) (v : Value) (q : List Mem) (a : Nat) r => .box b5 28 [.v v] :: .arr v 101 4 (q.map mv) :: .box b 97 [.sl 1 (l.map .i), .i ((a : Nat) : Int)] :: r) (fun (k : Nat) (v : Value) (q : List Mem) (a : Nat) => k ≤ n ∧ q.length = k ∧ ∀ m ∈ q, m.decl = true ∧ OKS n m.t) (fun (k : Nat) (v : Value) (q : List Mem) (a : Nat) => n - k) (0) (.slice none 0 0) ([]) (a10) zRc ⟨by omega, rfl, by simp⟩ ((wk_own 101 4 rfl).trans (wk zSub zKeep)) ?_
  intro k v q a ⟨hk, hql, hqm⟩
  have hml : (q.map mv).length = q.length := by simp
  refine awp_seq ?_; refine zS ?_; refine zMv ?_; refine zMv ?_; refine zCm ?_; refine zN ?_
  refine zC (fun hc => ?_) fun hc => ?_
  · have hlt := of_decide_eq_true hc
    refine awp_skip ?_; refine seqQ_n ?_; refine awp_seq ?_; refine awp_block ?_; refine zS ?_; refine zMv ?_; refine zMv ?_
    refine zP (ap_quon rfl rfl (by omega)) ?_
    refine zAr ?_
    refine aops_call_v zRc (Flat_con n (by omega) _) rfl rfl ?_
    refine aops_alloc rfl zRc rfl rfl (fun b8 => ?_)
    refine zSt ?_; refine zN ?_; refine awp_seq ?_; refine zS ?_; refine zMv ?_; refine zNo ?_; refine zN ?_
    refine zC (fun hc => ?_) fun hc => ?_
    · refine awp_region ?_
      refine zMv ?_; refine zMv ?_
      (refine aops_call zRc (STrust_con _ _ _ (by omega) _) zSplit rfl rfl ?_; rintro _ _ ⟨t26, a26, rfl, ht26, rfl⟩)
      refine zSt ?_; refine zN ?_; refine awp_region ?_; refine zF 0 1 false ?_; refine zL1 ?_; refine zLd ?_
      refine zP (ap_build zKr rfl zRc zFill) ?_
      refine aops_lit (e := 101) (sz := 4) (by_ := 64) rfl rfl zRc rfl rfl rfl rfl ?_
      first | refine aops_append (e := 101) (sz := 4) (by_ := 64) rfl zUpd rfl rfl rfl rfl rfl zLen (fun v32 hv32 => ?_) | refine aops_append_nil (e := 101) (sz := 4) (by_ := 64) rfl rfl rfl rfl rfl rfl zLen (fun v32 hv32 => ?_)
      refine zF 0 1 false ?_; refine zSt ?_; refine aops_nil ?_; refine blockQ_n ?_; refine seqQ_n ?_; refine awp_region ?_; refine zMv ?_; refine zAr ?_; refine zAs ?_; refine zN ?_
      first
      | (have h0 : (!decide (0 < r10)) = true := (by with_reducible assumption); rw [show .agg [.b true, .i t26.th, .sl 1 (t26.nodes.map .i), .sl 3 (avs t26.inner)] = mv ⟨true, t26⟩ from rfl, mv_snoc]; refine ⟨k + 1, _, q ++ [⟨true, t26⟩], _, ⟨by omega, by simp only [List.length_append, List.length_cons, List.length_nil]; omega, snoc_mem hqm ⟨rfl, ht26⟩⟩, by omega, wk zSub zKeep⟩)
      | (rw [show .agg [.b true, .i (Trust.mk ((n : Int) / 2 + 1) (upN n) []).th, .sl 1 ((Trust.mk ((n : Int) / 2 + 1) (upN n) []).nodes.map .i), .sl 3 (avs (Trust.mk ((n : Int) / 2 + 1) (upN n) []).inner)] = mv ⟨true, .mk ((n : Int) / 2 + 1) (upN n) []⟩ from rfl, mv_snoc]; refine ⟨k + 1, _, q ++ [⟨true, .mk ((n : Int) / 2 + 1) (upN n) []⟩], _, ⟨by omega, by simp only [List.length_append, List.length_cons, List.length_nil]; omega, snoc_mem hqm ⟨rfl, flat_oks (by omega) (by omega) (by omega)⟩⟩, by omega, wk zSub zKeep⟩)
    · refine awp_skip ?_
      refine seqQ_n ?_; refine awp_region ?_; refine zF 0 1 false ?_; refine zL1 ?_; refine zLd ?_
      refine zP (ap_build zKr rfl zRc zFill) ?_
      refine aops_lit (e := 101) (sz := 4) (by_ := 64) rfl rfl zRc rfl rfl rfl rfl ?_
      first | refine aops_append (e := 101) (sz := 4) (by_ := 64) rfl zUpd rfl rfl rfl rfl rfl zLen (fun v32 hv32 => ?_) | refine aops_append_nil (e := 101) (sz := 4) (by_ := 64) rfl rfl rfl rfl rfl rfl zLen (fun v32 hv32 => ?_)
      refine zF 0 1 false ?_; refine zSt ?_; refine aops_nil ?_; refine blockQ_n ?_; refine seqQ_n ?_; refine awp_region ?_; refine zMv ?_; refine zAr ?_; refine zAs ?_; refine zN ?_
      first
      | (have h0 : (!decide (0 < r10)) = true := (by with_reducible assumption); rw [show .agg [.b true, .i t26.th, .sl 1 (t26.nodes.map .i), .sl 3 (avs t26.inner)] = mv ⟨true, t26⟩ from rfl, mv_snoc]; refine ⟨k + 1, _, q ++ [⟨true, t26⟩], _, ⟨by omega, by simp only [List.length_append, List.length_cons, List.length_nil]; omega, snoc_mem hqm ⟨rfl, ht26⟩⟩, by omega, wk zSub zKeep⟩)
      | (rw [show .agg [.b true, .i (Trust.mk ((n : Int) / 2 + 1) (upN n) []).th, .sl 1 ((Trust.mk ((n : Int) / 2 + 1) (upN n) []).nodes.map .i), .sl 3 (avs (Trust.mk ((n : Int) / 2 + 1) (upN n) []).inner)] = mv ⟨true, .mk ((n : Int) / 2 + 1) (upN n) []⟩ from rfl, mv_snoc]; refine ⟨k + 1, _, q ++ [⟨true, .mk ((n : Int) / 2 + 1) (upN n) []⟩], _, ⟨by omega, by simp only [List.length_append, List.length_cons, List.length_nil]; omega, snoc_mem hqm ⟨rfl, flat_oks (by omega) (by omega) (by omega)⟩⟩, by omega, wk zSub zKeep⟩)
  · have hge := of_decide_eq_false hc
    refine awp_freeze v [4,5] zRem zSelC zHeapA ?_
    refine awp_exit ?_; refine seqQ_x ?_; refine seqQ_x ?_; refine blockQ_x rfl ?_; refine seqQ_n ?_; refine zS ?_; refine zLd ?_; refine zSt ?_; refine zN ?_; refine awp_ret ?_
    exact post_ret (.cell rfl zUpd rfl rfl .nil) zKeep ⟨q, _, rfl, ⟨oka_of (by omega) (fun m hm => by rw [show q.length = n by omega]; exact hqm m hm), by omega⟩, rfl⟩
theorem reps_snoc (k : Nat) : (List.replicate k m3).map mv ++ [mv m3] = (List.replicate (k + 1) m3).map mv := by rw [mv_snoc, List.replicate_succ']
theorem flat3 : Con none Tryz.prog 44 [.i 3, .i 2] [] (Is (av (.mk 2 (upN 3) [])) []) := Flat_con 3 (by omega) 2
theorem oka_c3 : OKA c3 := oka_of (by decide) (fun m hm => by
  have h : m = m3 := by simp only [c3, List.mem_cons, List.not_mem_nil, or_false, or_self] at hm; exact hm
  subst h
  exact ⟨rfl, flat_oks (n := 3) (k := 2) (by omega) (by omega) (by omega)⟩)
theorem three_con : Con none Tryz.prog 48 [] [] (Is (cv c3) []) := by
  have hcap : capB = 140737488355328 := rfl
  refine con_intro Tryz.func48 rfl Tryz.call48 rfl ?_
  refine zS ?_
  refine aops_alloc rfl zRc rfl rfl (fun b0 => ?_)
  refine zN (zS ?_)
  refine aops_alloc rfl zRc rfl rfl (fun b1 => ?_)
  refine zN ?_; refine awp_seq ?_; refine zS ?_; refine zAs ?_; refine zN ?_; refine awp_block ?_
  refine awp_loop2 [0, 1] [.box b0 _ _] (fun (k : Nat) (v : Value) r => (2, .i (k : Int)) :: r) (fun (k : Nat) (v : Value) r => .box b1 28 [.v v] :: .arr v 101 4 ((List.replicate k m3).map mv) :: r) (fun (k : Nat) (v : Value) => k ≤ 3) (fun (k : Nat) (v : Value) => 3 - k) (0) (.slice none 0 0) zRc (by omega) ((wk_own 101 4 rfl).trans (wk zSub zKeep)) ?_
  intro k v hk
  have hml : ((List.replicate k m3).map mv).length = k := by simp
  refine awp_seq ?_; refine zS ?_; refine zMv ?_; refine zCm ?_; refine zN ?_
  refine zC (fun hc => ?_) fun hc => ?_
  · have hlt := of_decide_eq_true hc
    refine awp_skip ?_; refine seqQ_n ?_; refine awp_seq ?_; refine awp_block ?_
    refine awp_draw (Hm := [.box b1 _ _, .arr v _ _ _]) zKr zSplit ?_
    refine zTF 0 0 1 false ?_
    refine aany_each2 1 2 zKr rfl (.none rfl) ?_ rfl (.none rfl) ?_
    rotate_left
    case' _ =>
      refine aops_call_v zRc (flat3) rfl rfl ?_
      refine aops_nil ?_
      refine zT 3 rfl (AP.ar (ap_build zKr rfl zRc zFill)) ?_
      refine aany_each2 1 4 zKr rfl (.none rfl) ?_ rfl (.none rfl) ?_
      rotate_left
      case' _ =>
        refine aops_lit (e := 101) (sz := 4) (by_ := 64) rfl rfl zRc rfl rfl rfl rfl ?_
        refine aops_nil ?_
        refine aany_one 1 zKr rfl (.none rfl) ?_
        refine zL1 ?_; refine aops_nil ?_
        refine aany_one 5 zKr rfl (.none rfl) ?_
        first | refine aops_append (e := 101) (sz := 4) (by_ := 64) rfl zUpd rfl rfl rfl rfl rfl (by simp only [List.length_cons, List.length_nil, List.length_append, List.length_map, List.length_replicate]; omega) (fun v12 hv12 => ?_) | refine aops_append_nil (e := 101) (sz := 4) (by_ := 64) rfl rfl rfl rfl rfl rfl (by simp only [List.length_cons, List.length_nil, List.length_append, List.length_map, List.length_replicate]; omega) (fun v12 hv12 => ?_)
        refine aops_nil ?_; refine zTF 6 0 1 false ?_
        refine aany_one 7 zKr rfl (.none rfl) ?_
        refine zSt ?_; refine aops_nil ?_; refine aany_nil zKr ?_
      rotate_right
      case' _ =>
        refine zL1 ?_; refine aops_nil ?_
        refine aany_one 4 zKr rfl (.none rfl) ?_
        refine aops_lit (e := 101) (sz := 4) (by_ := 64) rfl rfl zRc rfl rfl rfl rfl ?_
        refine aops_nil ?_
        refine aany_one 5 zKr rfl (.none rfl) ?_
        first | refine aops_append (e := 101) (sz := 4) (by_ := 64) rfl zUpd rfl rfl rfl rfl rfl (by simp only [List.length_cons, List.length_nil, List.length_append, List.length_map, List.length_replicate]; omega) (fun v12 hv12 => ?_) | refine aops_append_nil (e := 101) (sz := 4) (by_ := 64) rfl rfl rfl rfl rfl rfl (by simp only [List.length_cons, List.length_nil, List.length_append, List.length_map, List.length_replicate]; omega) (fun v12 hv12 => ?_)
        refine aops_nil ?_; refine zTF 6 0 1 false ?_
        refine aany_one 7 zKr rfl (.none rfl) ?_
        refine zSt ?_; refine aops_nil ?_; refine aany_nil zKr ?_
    rotate_right
    case' _ =>
      refine zL1 ?_; refine aops_nil ?_
      refine aany_one 2 zKr rfl (.none rfl) ?_
      refine aops_call_v zRc (flat3) rfl rfl ?_
      refine aops_nil ?_
      refine zT 3 rfl (AP.ar (ap_build zKr rfl zRc zFill)) ?_
      refine aany_one 4 zKr rfl (.none rfl) ?_
      refine aops_lit (e := 101) (sz := 4) (by_ := 64) rfl rfl zRc rfl rfl rfl rfl ?_
      refine aops_nil ?_
      refine aany_one 5 zKr rfl (.none rfl) ?_
      first | refine aops_append (e := 101) (sz := 4) (by_ := 64) rfl zUpd rfl rfl rfl rfl rfl (by simp only [List.length_cons, List.length_nil, List.length_append, List.length_map, List.length_replicate]; omega) (fun v12 hv12 => ?_) | refine aops_append_nil (e := 101) (sz := 4) (by_ := 64) rfl rfl rfl rfl rfl rfl (by simp only [List.length_cons, List.length_nil, List.length_append, List.length_map, List.length_replicate]; omega) (fun v12 hv12 => ?_)
      refine aops_nil ?_; refine zTF 6 0 1 false ?_
      refine aany_one 7 zKr rfl (.none rfl) ?_
      refine zSt ?_; refine aops_nil ?_; refine aany_nil zKr ?_
    all_goals (
      refine blockQ_n ?_; refine seqQ_n ?_; refine awp_region ?_; refine zMv ?_; refine zAr ?_; refine zAs ?_; refine zN ?_
      rw [show .agg [.b true, .i (Trust.mk 2 (upN 3) []).th, .sl 1 ((Trust.mk 2 (upN 3) []).nodes.map .i), .sl 3 (avs (Trust.mk 2 (upN 3) []).inner)] = mv m3 from rfl, reps_snoc]
      refine ⟨k + 1, _, by omega, by omega, wk zSub zKeep⟩
      )
  · have hge := of_decide_eq_false hc
    obtain rfl : k = 3 := by omega
    refine awp_freeze v [0,1] zRem zSelC zHeapA ?_
    refine awp_exit ?_; refine seqQ_x ?_; refine seqQ_x ?_; refine blockQ_x rfl ?_; refine seqQ_n ?_; refine zS ?_; refine zLd ?_; refine zSt ?_; refine zN ?_; refine awp_ret ?_
    exact post_is (.cell rfl zUpd rfl rfl .nil) zKeep rfl
/-- A verdict as a value. -/
def valV (x : Vd) : Value := .agg #[.int .i64 x.nodes, .bool x.splits, .bool x.halts, .int .i64 x.l, .int .i64 x.r]
theorem rep_vv (x : Vd) (w : World) (O : Nat → Prop) : Rep w O (vv x) (valV x) := by
  simp only [vv, valV, Rep, RepL]
  exact ⟨_, rfl, _, _, rfl, rfl, rfl, _, _, rfl, rfl, rfl, _, _, rfl, rfl, rfl, _, _, rfl, rfl, rfl, _, _, rfl, rfl, rfl, rfl⟩
theorem vv_rep (x : Vd) (w : World) (O : Nat → Prop) (y : Value) (h : Rep w O (vv x) y) : y = valV x := by
  simp only [vv, Rep, RepL] at h
  obtain ⟨cs, rfl, c1, r1, rfl, rfl, -, c2, r2, rfl, rfl, -, c3, r3, rfl, rfl, -, c4, r4, rfl, rfl, -, c5, r5, rfl, rfl, -, rfl⟩ := h
  rfl
theorem worker_con (c : List Mem) (hok : OKA c) (ch k : Nat) (hk : k < 2 ^ c.length) : ConW Tryz.prog 82 [.el (.v (.chan (some ch))), .el (cv c), .el (.i k)] ch (valV (judgeC c k)) := by
  refine conW_of 4 Tryz.func82 rfl rfl Tryz.call82 rfl zKr rfl [#[false, false, false, false, false], #[true, false, false, false, false], #[false, true, false, false, false], #[true, true, false, false, false], #[false, false, true, false, false], #[true, false, true, false, false], #[false, true, true, false, false], #[true, true, true, false, false], #[false, true, true, true, false], #[true, true, true, true, false]] zKr ?_
  refine aanyT_take 0 (by decide) rfl (.none rfl) zKr zKr zKr (AQ.ar (aq_load_el1 rfl rfl (.v rfl) (fun _ h => h))) rfl rfl ?_
  refine aanyT_take 1 (by decide) rfl (.none rfl) zKr zKr zKr (AQ.ar (aq_load_el rfl rfl rfl rfl (fun _ h => h))) rfl rfl ?_
  refine aanyT_take 2 (by decide) rfl (.none rfl) zKr zKr zKr (AQ.ar (aq_load_el1 rfl rfl (.v rfl) (fun _ h => h))) rfl rfl ?_
  refine aanyT_one 3 (by decide) zKr rfl ?_
  refine aops_call_v zRc (judge_con c hok k hk) rfl rfl ?_
  refine aops_nil ?_
  exact aanyT_stop zKr ⟨rfl, _, rfl, vv_rep _⟩
def pdl (f : Nat → Value) : Nat → List Value
  | 0 => []
  | k + 1 => f k :: pdl f k
def downs : Nat → List Nat
  | 0 => []
  | k + 1 => k :: downs k
theorem pdl_map (f : Nat → Value) : ∀ n, pdl f n = (downs n).map f
  | 0 => rfl
  | n + 1 => by rw [pdl, downs, List.map_cons, pdl_map f n]
theorem downs_mem {k : Nat} : ∀ {n}, k ∈ downs n ↔ k < n
  | 0 => by simp [downs]
  | n + 1 => by rw [downs, List.mem_cons, downs_mem]; omega
theorem downs_len : ∀ n, (downs n).length = n
  | 0 => rfl
  | n + 1 => by rw [downs, List.length_cons, downs_len n]
theorem map_split {f : Nat → Value} : ∀ {l : List Nat} {l₁ : List Value} {v : Value} {l₂ : List Value}, l.map f = l₁ ++ v :: l₂ → ∃ m₁ k m₂, l = m₁ ++ k :: m₂ ∧ l₁ = m₁.map f ∧ v = f k ∧ l₂ = m₂.map f
  | [], l₁, v, l₂, h => by cases l₁ <;> simp at h
  | x :: l, [], v, l₂, h => by
    simp only [List.map_cons, List.nil_append, List.cons.injEq] at h
    exact ⟨[], x, l, rfl, rfl, h.1.symm, h.2.symm⟩
  | x :: l, y :: l₁, v, l₂, h => by
    simp only [List.map_cons, List.cons_append, List.cons.injEq] at h
    obtain ⟨m₁, k, m₂, h1, h2, h3, h4⟩ := map_split h.2
    exact ⟨x :: m₁, k, m₂, by rw [h1]; rfl, by rw [List.map_cons, ← h2, h.1], h3, h4⟩
def vd0 : Vd := ⟨0, false, false, 0, 0⟩
def zrow : Nat → List Value
  | 0 => []
  | n + 1 => .int .i64 0 :: .bool false :: .bool false :: .int .i64 0 :: .int .i64 0 :: zrow n
theorem zrow_rep (w : World) (O : Nat → Prop) : ∀ n, RepE w O 5 ((List.replicate n vd0).map vv) (zrow n)
  | 0 => by simp [RepE, zrow]
  | n + 1 => by
    rw [List.replicate_succ, List.map_cons, zrow]
    simp only [RepE]
    exact ⟨valV vd0, zrow n, rfl, rfl, by simp [valV, Value.cells, Value.oneCell'], rep_vv _ _ _, zrow_rep w O n⟩
theorem vd_made {n : Nat} (h : n ≤ 4) : tmade Tryz.prog 78 (2 ^ n * 5) = some (zrow (2 ^ n)) := by
  rcases (show n = 0 ∨ n = 1 ∨ n = 2 ∨ n = 3 ∨ n = 4 by omega) with rfl | rfl | rfl | rfl | rfl <;> kernel_rfl
/-- All verdicts. -/
def allV (c : List Mem) : List Vd := (List.range (2 ^ c.length)).map (judgeC c)
theorem allV_len (c : List Mem) : (allV c).length = 2 ^ c.length := by simp [allV]
theorem allV_of {c : List Mem} {q : List Vd} (hl : q.length = 2 ^ c.length) (h : ∀ k, k < 2 ^ c.length → q[k]? = some (judgeC c k)) : q = allV c := by
  refine List.ext_getElem? fun k => ?_
  by_cases hk : k < 2 ^ c.length
  · rw [h k hk]; simp [allV, hk]
  · rw [List.getElem?_eq_none (by omega), List.getElem?_eq_none (by rw [allV_len]; omega)]
set_option maxHeartbeats 1000000 in
theorem All_con {Ps : Value → World → Prop} (c : List Mem) (hok : OKA c) : Con (some Ps) Tryz.prog 28 [cv c] [] (Is (.tup [.sl 5 ((allV c).map vv), .i 0]) []) := by
  have hcap : capB = 140737488355328 := rfl
  have hp := pow4 hok.len
  have hml : (c.map mv).length = c.length := by simp
  have hrl : ((List.replicate (2 ^ c.length) vd0).map vv).length = 2 ^ c.length := by simp
  refine con_intro Tryz.func28 rfl Tryz.call28 rfl ?_
  refine awp_of_awm ?_
  refine awm_seq ?_
  refine awm_region ?_
  refine aops_box rfl zFlat rfl rfl (fun b1 => ?_)
  refine zAs ?_; refine zAs ?_; refine aops_nil ?_
  refine seqM_n ?_
  refine awm_seq ?_
  refine awm_seq ?_
  refine awm_region ?_
  refine zLd ?_
  refine aops_call_v zRc (check_con c hok 0 (by omega)) rfl rfl ?_
  refine zAs ?_; refine aops_nil ?_
  refine seqM_n ?_
  refine awm_seq ?_
  refine awm_region ?_
  refine zMv ?_; refine zCm ?_; refine aops_nil ?_
  refine seqM_n ?_
  refine awm_cond_f rfl zDec ?_
  refine awm_skip ?_
  refine seqM_n ?_
  refine awm_seq ?_
  refine awm_seq ?_
  refine awm_region ?_
  refine zF 0 1 false ?_; refine zL1 ?_
  first | refine aops_len rfl rfl rfl rfl (fun _ => ?_) | refine zP (ap_len_arr rfl zUpd rfl) ?_ | refine zP (ap_len_nil rfl rfl) ?_
  refine zCm ?_; refine aops_nil ?_
  refine seqM_n ?_
  refine awm_cond_f rfl (by refine decide_eq_false ?_; have := hok.len; omega) ?_
  refine awm_skip ?_
  refine seqM_n ?_
  refine awm_seq ?_
  refine awm_mkchan rfl rfl rfl (fun ch => ?_)
  refine aops_alloc rfl zRc rfl rfl (fun b5 => ?_)
  refine aops_store rfl rfl zFlat zUpd rfl zRc ?_
  refine aops_nil ?_
  refine seqM_n ?_
  refine awm_seq ?_
  refine awm_seq ?_
  refine awm_wk (wk_fzBox (b := b1) (d := cv c) (live := [1,5]) zRem .agg (by repeat (first | exact .nil | apply SubB.fz rfl | apply SubB.same rfl))) ?_
  refine awm_wk (wk_fzBox (b := b5) (d := .v (.chan (some ch))) (live := [1,5]) zRem (.one (.v rfl)) (by repeat (first | exact .nil | apply SubB.fz rfl | apply SubB.same rfl))) ?_
  refine awm_region ?_
  refine zLd ?_
  refine aops_call_v zRc (all_con c hok.len) rfl rfl ?_
  refine zP (ap_arith (m := ((2 ^ c.length : Nat) : Int)) rfl rfl (by show some _ = _; simp only [Option.some.injEq]; omega) (by omega)) ?_
  refine zMv ?_; refine aops_nil ?_
  refine seqM_n ?_
  refine awm_block ?_
  refine awm_loop1 (fun k => some (ch, pdl (fun k => valV (judgeC c k)) k)) [1, 5, 21] [] (fun (k : Nat) r => (22, .i (k : Int)) :: r) (fun (k : Nat) r => r) (fun (k : Nat) => k ≤ 2 ^ c.length) (fun (k : Nat) => 2 ^ c.length - k) (0) zRc (by omega) (wk zSub zKeep) rfl ?_
  intro k hk
  refine awm_seq ?_
  refine awm_region ?_
  refine zCm ?_; refine aops_nil ?_
  refine seqM_n ?_
  refine awm_seq ?_
  refine awm_cond rfl (fun hc => ?_) (fun hc => ?_)
  · have hlt := of_decide_eq_true hc
    refine awm_skip ?_
    refine seqM_n ?_
    refine awm_seq ?_
    refine awm_block ?_
    refine awm_seq ?_
    refine awm_region ?_
    refine zMv ?_
    refine aops_alloc rfl zRc rfl rfl (fun b6 => ?_)
    refine zSt ?_; refine aops_nil ?_
    refine seqM_n ?_
    refine awm_wk (wk_fzBox (b := b6) (d := .i (k : Int)) (live := [1,5,6,21,22]) zRem (.one (.v rfl)) (by repeat (first | exact .nil | apply SubB.fz rfl | apply SubB.same rfl))) ?_
    refine awm_go (xs := [.tmp 5, .tmp 1, .tmp 6]) (valV (judgeC c k)) zRc rfl rfl (worker_con c hok ch k (by omega)) ?_
    refine blockM_n ?_
    refine seqM_n ?_
    refine awm_region ?_
    refine zAr ?_; refine zMv ?_; refine aops_nil ?_
    refine seqM_n ?_
    exact ⟨k + 1, by omega, by omega, rfl, wk zSub zKeep⟩
  · have hge := of_decide_eq_false hc
    obtain rfl : k = 2 ^ c.length := by omega
    refine awm_exit ?_
    refine seqM_x ?_
    refine seqM_x ?_
    refine blockM_x rfl ?_
    refine seqM_n ?_
    refine awm_seq ?_
    refine awm_region ?_
    refine zLd ?_
    refine aops_call_v zRc (all_con c hok.len) rfl rfl ?_
    refine zP (ap_arith (m := ((2 ^ c.length : Nat) : Int)) rfl rfl (by show some _ = _; simp only [Option.some.injEq]; omega) (by omega)) ?_
    refine aops_make (N := 2 ^ c.length) (by_ := 32) (l := (List.replicate (2 ^ c.length) vd0).map vv) rfl rfl rfl rfl (vd_made hok.len) (by simp) (fun w O => zrow_rep w O _) ⟨by omega, by omega⟩ rfl rfl (fun g => ?_)
    refine zAs ?_; refine aops_nil ?_
    refine seqM_n ?_
    refine awm_seq ?_
    refine awm_seq ?_
    refine awm_region ?_
    refine zMv ?_
    first | refine aops_len rfl rfl rfl rfl (fun _ => ?_) | refine zP (ap_len_arr rfl zUpd rfl) ?_ | refine zP (ap_len_nil rfl rfl) ?_
    refine zMv ?_; refine aops_nil ?_
    refine seqM_n ?_
    refine awm_block ?_
    refine awm_loop2 (fun l q => some (ch, l.map (fun k => valV (judgeC c k)))) [5, 7, 32] [] (fun (l : List Nat) (q : List Vd) r => (33, .i ((2 ^ c.length - l.length : Nat) : Int)) :: r) (fun (l : List Nat) (q : List Vd) r => .arr (.slice (some ⟨g, 0, none⟩) (2 ^ c.length) (2 ^ c.length)) 78 5 (q.map vv) :: r) (fun (l : List Nat) (q : List Vd) => q.length = 2 ^ c.length ∧ (l.length ≤ 2 ^ c.length ∧ (∀ k ∈ l, k < 2 ^ c.length)) ∧ ∀ k, k < 2 ^ c.length → k ∈ l ∨ q[k]? = some (judgeC c k)) (fun (l : List Nat) (q : List Vd) => l.length) (downs (2 ^ c.length)) (List.replicate (2 ^ c.length) vd0) zRc ⟨by simp, ⟨by rw [downs_len]; omega, fun k hk => downs_mem.1 hk⟩, fun k hk => .inl (downs_mem.2 hk)⟩ (by rw [show ((2 ^ c.length - (downs (2 ^ c.length)).length : Nat) : Int) = 0 from by rw [downs_len]; omega]; exact wk zSub zKeep) (by rw [pdl_map]) ?_
    intro l q ⟨hqn, ⟨hql, hlm⟩, hI⟩
    refine awm_seq ?_
    refine awm_region ?_
    refine zCm ?_; refine aops_nil ?_
    refine seqM_n ?_
    refine awm_seq ?_
    refine awm_cond rfl (fun hc => ?_) (fun hc => ?_)
    · have hlt := of_decide_eq_true hc
      refine awm_skip ?_
      refine seqM_n ?_
      refine awm_seq ?_
      refine awm_block ?_
      refine awm_seq ?_
      refine awm_recv1 rfl rfl rfl (by intro e; rw [List.map_eq_nil_iff] at e; subst e; simp only [List.length_nil] at hlt; omega) ?_
      refine aops_q (aq_load_el1 rfl rfl (.v rfl) (fun _ h => absurd h List.not_mem_nil)) rfl rfl rfl ?_
      refine aops_nil ⟨rfl, fun l₁ v l₂ hl => ?_⟩
      obtain ⟨m₁, k, m₂, rfl, rfl, rfl, rfl⟩ := map_split hl
      have hkN := hlm k (by simp)
      obtain ⟨y, hy, _⟩ := drop_cons (l := q) (k := k) (by omega)
      have hyy := getMap vv hy
      refine ⟨vv (judgeC c k), rep_vv _, ?_⟩
      refine aops_alloc rfl zRc rfl rfl (fun b8 => ?_)
      refine aops_store rfl rfl zFlat zUpd rfl zRc ?_
      refine aops_nil ?_
      refine seqM_n ?_
      refine awm_region ?_
      refine zMv ?_; refine zF 0 1 false ?_; refine zL1 ?_; refine zLd ?_
      refine zP (ap_index_own (k := k) rfl rfl rfl rfl rfl hkN) ?_
      refine aops_store_ownF (off := 0) rfl rfl zFlat zUpd rfl hyy zRc ?_
      refine aops_nil ?_
      refine blockM_n ?_
      refine seqM_n ?_
      refine awm_region ?_
      refine zAr ?_; refine zMv ?_; refine aops_nil ?_
      refine seqM_n ?_
      rw [show ((2 ^ c.length - (m₁ ++ k :: m₂).length : Nat) : Int) + 1 = ((2 ^ c.length - (m₁ ++ m₂).length : Nat) : Int) from by simp only [List.length_append, List.length_cons] at hql ⊢; omega]
      rw [show (q.map vv).set k (D.agg [.i (judgeC c k).nodes, .b (judgeC c k).splits, .b (judgeC c k).halts, .i (judgeC c k).l, .i (judgeC c k).r]) = (q.set k (judgeC c k)).map vv from by rw [List.map_set]; rfl]
      refine ⟨m₁ ++ m₂, q.set k (judgeC c k), ⟨by rw [List.length_set]; exact hqn, ⟨by simp only [List.length_append, List.length_cons] at hql ⊢; omega, fun j hj => hlm j ?_⟩, fun j hj => ?_⟩, by simp only [List.length_append, List.length_cons]; omega, by rw [List.map_append], wk zSub zKeep⟩
      · rw [List.mem_append] at hj; rw [List.mem_append, List.mem_cons]; exact hj.imp id .inr
      · by_cases e : j = k
        · subst e; right; rw [List.getElem?_set_self (by omega)]
        · rcases hI j hj with h | h
          · left; rw [List.mem_append, List.mem_cons] at h; rw [List.mem_append]; rcases h with h | h | h
            · exact .inl h
            · exact absurd h e
            · exact .inr h
          · right; rw [List.getElem?_set_ne (fun h => e h.symm)]; exact h
    · have hge := of_decide_eq_false hc
      have hl0 : l = [] := List.eq_nil_of_length_eq_zero (by omega)
      subst hl0
      have hqe := allV_of hqn (fun k hk => (hI k hk).resolve_left List.not_mem_nil)
      refine awm_close (ch := ch) ?_
      refine awm_freeze (.slice (some ⟨g, 0, none⟩) (2 ^ c.length) (2 ^ c.length)) [7] zRem zSelC zHeapA ?_
      refine awm_exit ?_
      refine seqM_x ?_
      refine seqM_x ?_
      refine blockM_x rfl ?_
      refine seqM_n ?_
      refine awm_seq ?_
      refine awm_region ?_
      refine zMv ?_; refine zAs ?_; refine zAs ?_; refine aops_nil ?_
      refine seqM_n ?_
      refine awm_ret ?_
      refine ⟨rfl, ?_⟩
      exact post_is (.tmp rfl (.tmp rfl .nil)) zKeep (by rw [hqe]; rfl)
theorem sane1 : leastV Vd.splits (allV c3) = [1, 2, 4] := by kernel_rfl
theorem sane2 : leastV Vd.halts (allV c3) = [3, 5, 6] := by kernel_rfl
theorem sane3 : silentC c3 1 = false := by kernel_rfl
theorem judge_lt {c : List Mem} (hc : c.length ≤ 4) (s : Nat) : (judgeC c s).l < 1024 ∧ (judgeC c s).r < 1024 := by
  have hp := pow_le10 (show c.length ≤ 10 by omega)
  cases e : (judgeC c s).splits with
  | true => have t := pair_two hc e; have h1 := t.an; have h2 := t.bn; have e1 : (judgeC c s).l = (pairC c s).1 := rfl; have e2 : (judgeC c s).r = (pairC c s).2.1 := rfl; omega
  | false => have t := pair_none e; have e1 : (judgeC c s).l = (pairC c s).1 := rfl; have e2 : (judgeC c s).r = (pairC c s).2.1 := rfl; omega
theorem allV_nodes {c : List Mem} (h : c.length ≤ 4) : ∀ v ∈ allV c, v.nodes < 1024 := by
  intro v hv
  obtain ⟨k, hk, rfl⟩ := List.mem_map.1 hv
  have hk' := List.mem_range.1 hk
  have hp := pow_le10 (show c.length ≤ 10 by omega)
  show k < 1024
  omega
theorem allV_lt {c : List Mem} (h : c.length ≤ 4) : (allV c).length ≤ 1000000 := by
  rw [allV_len]
  have hp := pow_le10 (show c.length ≤ 10 by omega)
  omega
theorem neb_f {a b : Bool} (h : (a != b) = false) : a = b := by simpa using h
theorem neb_t {a b : Bool} (h : (a != b) = true) : ¬ a = b := by simpa using h
theorem Least_con {Ps : Value → World → Prop} (c : List Mem) (hok : OKA c) : Con (some Ps) Tryz.prog 30 [cv c] [] (Is (.tup [.sl 1 ((leastV Vd.splits (allV c)).map .i), .sl 1 ((leastV Vd.halts (allV c)).map .i), .i 0]) []) := by
  have hcap : capB = 140737488355328 := rfl
  refine con_intro Tryz.func30 rfl Tryz.call30 rfl ?_
  refine zS ?_
  refine aops_box rfl zFlat rfl rfl (fun b1 => ?_)
  refine zAs ?_; refine zAs ?_; refine zAs ?_; refine zN (zS ?_); refine zLd ?_
  refine aops_call_v zRc (All_con c hok) rfl rfl ?_
  refine zMv ?_
  refine zP (ap_extract rfl rfl) ?_
  refine zP (ap_extract rfl rfl) ?_
  refine zAs ?_; refine zAs ?_; refine zN ?_; refine awp_seq ?_; refine zS ?_; refine zMv ?_; refine zCm ?_; refine zN ?_
  refine awp_cond_f rfl zDec ?_
  refine awp_skip ?_; refine seqQ_n ?_; refine zS ?_; refine zMv ?_
  refine aops_call_v zRc ((aleast_con 85 Vd.splits isSplit_con (allV c) (allV_nodes hok.len) (allV_lt hok.len)).main) rfl rfl ?_
  refine zMv ?_
  refine aops_call_v zRc ((aleast_con 86 Vd.halts isHalt_con (allV c) (allV_nodes hok.len) (allV_lt hok.len)).main) rfl rfl ?_
  refine zAs ?_; refine zAs ?_; refine zAs ?_; refine zN ?_; refine awp_ret ?_
  exact post_is (.tmp rfl (.tmp rfl (.tmp rfl .nil))) zKeep rfl
theorem sane43_con {Ps : Value → World → Prop} : Con (some Ps) Tryz.prog 12 [] [] (Is (.b true) []) := by
  have hcap : capB = 140737488355328 := rfl
  refine con_intro Tryz.func12 rfl Tryz.call12 rfl ?_
  refine zS ?_; refine zAs ?_; refine zN (zS ?_)
  refine aops_call_v zRc (three_con.main) rfl rfl ?_
  refine aops_call_v zRc (Least_con c3 oka_c3) rfl rfl ?_
  refine zMv ?_
  refine zP (ap_extract rfl rfl) ?_
  refine zP (ap_extract rfl rfl) ?_
  refine zP (ap_extract rfl rfl) ?_
  refine zAs ?_; refine zAs ?_; refine zAs ?_; refine zN (zS ?_); refine zMv ?_; refine zCm ?_; refine zMv ?_
  all_goals first | (refine zY ?_; refine zMv ?_) | refine zU ?_ | refine zNt ?_ | (refine zGt (fun hg => ?_) fun hg => ?_; case' _ => refine zMv ?_)
  all_goals first | (refine zY ?_; refine aops_lit (e := 3) (sz := 1) (by_ := 8) rfl rfl zRc rfl rfl rfl rfl ?_) | refine zU ?_ | refine zNt ?_ | (refine zGt (fun hg => ?_) fun hg => ?_; case' _ => refine aops_lit (e := 3) (sz := 1) (by_ := 8) rfl rfl zRc rfl rfl rfl rfl ?_)
  all_goals first | (refine zY ?_; refine aops_call_v zRc ((rInts_con (leastV Vd.splits (allV c3)) [1, 2, 4]).main) rfl rfl ?_) | refine zU ?_ | refine zNt ?_ | (refine zGt (fun hg => ?_) fun hg => ?_; case' _ => refine aops_call_v zRc ((rInts_con (leastV Vd.splits (allV c3)) [1, 2, 4]).main) rfl rfl ?_)
  all_goals refine zPk ?_
  all_goals refine zMv ?_
  all_goals first | (refine zY ?_; refine zMv ?_) | refine zU ?_ | refine zNt ?_ | (refine zGt (fun hg => ?_) fun hg => ?_; case' _ => refine zMv ?_)
  all_goals first | (refine zY ?_; refine aops_lit (e := 3) (sz := 1) (by_ := 8) rfl rfl zRc rfl rfl rfl rfl ?_) | refine zU ?_ | refine zNt ?_ | (refine zGt (fun hg => ?_) fun hg => ?_; case' _ => refine aops_lit (e := 3) (sz := 1) (by_ := 8) rfl rfl zRc rfl rfl rfl rfl ?_)
  all_goals first | (refine zY ?_; refine aops_call_v zRc ((rInts_con (leastV Vd.halts (allV c3)) [3, 5, 6]).main) rfl rfl ?_) | refine zU ?_ | refine zNt ?_ | (refine zGt (fun hg => ?_) fun hg => ?_; case' _ => refine aops_call_v zRc ((rInts_con (leastV Vd.halts (allV c3)) [3, 5, 6]).main) rfl rfl ?_)
  all_goals refine zPk ?_
  all_goals refine zMv ?_
  all_goals first | (refine zY ?_; refine aops_call_v zRc (three_con.main) rfl rfl ?_) | refine zU ?_ | refine zNt ?_ | (refine zGt (fun hg => ?_) fun hg => ?_; case' _ => refine aops_call_v zRc (three_con.main) rfl rfl ?_)
  all_goals first | (refine zY ?_; refine aops_call_v zRc ((Silent_con c3 oka_c3 1 (by decide)).main) rfl rfl ?_) | refine zU ?_ | refine zNt ?_ | (refine zGt (fun hg => ?_) fun hg => ?_; case' _ => refine aops_call_v zRc ((Silent_con c3 oka_c3 1 (by decide)).main) rfl rfl ?_)
  all_goals first | (refine zY ?_; refine zNo ?_) | refine zU ?_ | refine zNt ?_ | (refine zGt (fun hg => ?_) fun hg => ?_; case' _ => refine zNo ?_)
  all_goals refine zPk ?_
  all_goals refine zAs ?_
  all_goals (
    refine zN ?_; refine awp_ret ?_
    refine post_is (.tmp rfl .nil) zKeep ?_
    first
    | (simp_all [resD, sane1, sane2, sane3]; done)
    )
theorem ap_convu {n : Nat} {env : Env} {H : Heap} {dst : Option Tmp} {ty : TypeId} {pos : String} {after : Array Edge} {gd : Option (Nat × Bool)} {x : Operand} {P : Program} {s t k0 p u} (hx : opd env x = some (.v (.int k0 p))) (hs : P.underlying s = some u) (ht : P.underlying t = some (.int .u64)) (hb : 0 ≤ p ∧ p < 18446744073709551616) : AP P n ⟨dst, .convert s t x, ty, pos, after, gd⟩ env H (.v (.int .u64 p)) := by
  have := ap_convi (P := P) (n := n) (env := env) (H := H) (dst := dst) (ty := ty) (pos := pos) (after := after) (gd := gd) hx hs ht
  rwa [u64_id hb.1 hb.2] at this
theorem checkL_all : ∀ {l : List Trust}, checkL l = 0 → ∀ y ∈ l, checkT y = 0
  | [], _, y, h => absurd h List.not_mem_nil
  | t :: r, h, y, hy => by
    rw [checkL_cons] at h
    by_cases h0 : checkT t = 0
    · rw [if_neg (by simpa using h0)] at h
      rcases List.mem_cons.1 hy with rfl | hy
      · exact h0
      · exact checkL_all h y hy
    · rw [if_pos h0] at h; exact absurd h h0
theorem nn_of_check : ∀ t : Trust, checkT t = 0 → sizeT t ≤ 1000000000 → NN t := by
  intro t
  induction t using Trust.ind with
  | _ t ih =>
    intro h hs
    have hs0 : sizeT t = t.nodes.length + t.inner.length + sizeL t.inner := rfl
    unfold checkT at h
    split at h
    · cases h
    · rename_i h1
      split at h
      · cases h
      · split at h
        · rename_i h2; exact absurd h h2
        · have h3 : NN (.mk t.th t.nodes t.inner) := .mk ⟨by omega, by omega⟩ fun y hy => ih y hy (checkL_all h y hy) (by have := sizeL_mem hy; omega)
          cases t; exact h3
theorem memsV_all {n : Nat} : ∀ {l : List Mem}, memsV n l = 0 → ∀ m ∈ l, memV m n = 0
  | [], _, m, h => absurd h List.not_mem_nil
  | x :: r, h, m, hm => by
    simp only [memsV] at h
    by_cases h0 : memV x n = 0
    · rw [if_pos h0] at h
      rcases List.mem_cons.1 hm with rfl | hm
      · exact h0
      · exact memsV_all h m hm
    · rw [if_neg h0] at h; exact absurd h h0
/-- A small raw configuration. -/
structure Lt (c : List Mem) : Prop where
  len : c.length ≤ 4
  size : ∀ m ∈ c, sizeT m.t ≤ 1000
theorem Lt.s9 {c : List Mem} (h : Lt c) : ∀ m ∈ c, sizeT m.t ≤ 1000000000 := fun m hm => by have := h.size m hm; omega
theorem OKA.lt {c : List Mem} (h : OKA c) : Lt c := ⟨h.len, fun m hm => by have := h.size m hm; omega⟩
theorem oka_lt {c : List Mem} (hL : Lt c) (hv : validC c = 0) (hd : (c.any fun m => !m.decl) = false) : OKA c := by
  have hdc : ∀ m ∈ c, m.decl = true := fun m hm => by
    have := List.any_eq_false.1 hd m hm
    simpa using this
  have hvt : ∀ m ∈ c, validT m.t = 0 := fun m hm => by
    have h1 : memsV c.length c = 0 := by unfold validC at hv; rw [if_neg (by have := hL.len; omega)] at hv; exact hv
    have h2 := memsV_all h1 m hm
    unfold memV at h2
    rw [if_pos (hdc m hm)] at h2
    by_cases h3 : validT m.t = 0
    · exact h3
    · rw [if_neg h3] at h2; exact absurd h2 h3
  exact ⟨hL.len, hdc, fun m hm => size_of_valid (hvt m hm), fun m hm => nn_of_check m.t (check_of_valid (hvt m hm)) (by have := hL.size m hm; omega), hv⟩
/-- What check says. -/
def checkE (c : List Mem) (s : Int) : Int := if validC c = 0 then (if (c.any fun m => !m.decl) = true then 10 else if s < 0 ∨ ((2 ^ c.length - 1 : Nat) : Int) < s then 1 else 0) else validC c
theorem checkE_1 {c : List Mem} {s : Int} (h : ¬ validC c = 0) : checkE c s = validC c := if_neg h
theorem checkE_2 {c : List Mem} {s : Int} (h : validC c = 0) (h2 : (c.any fun m => !m.decl) = true) : checkE c s = 10 := by unfold checkE; rw [if_pos h, if_pos h2]
theorem checkE_3 {c : List Mem} {s : Int} (h : validC c = 0) (h2 : (c.any fun m => !m.decl) = false) (h3 : s < 0 ∨ ((2 ^ c.length - 1 : Nat) : Int) < s) : checkE c s = 1 := by unfold checkE; rw [if_pos h, if_neg (by rw [h2]; decide), if_pos h3]
theorem checkE_4 {c : List Mem} {s : Int} (h : validC c = 0) (h2 : (c.any fun m => !m.decl) = false) (h3 : ¬ (s < 0 ∨ ((2 ^ c.length - 1 : Nat) : Int) < s)) : checkE c s = 0 := by unfold checkE; rw [if_pos h, if_neg (by rw [h2]; decide), if_neg h3]
theorem check_ok {c : List Mem} {s : Int} (hL : Lt c) (h : checkE c s = 0) : OKA c ∧ ∃ n : Nat, s = n ∧ n < 2 ^ c.length := by
  have hp := pow4 hL.len
  by_cases hv : validC c = 0
  · cases hd : (c.any fun m => !m.decl) with
    | true => rw [checkE_2 hv hd] at h; cases h
    | false =>
      by_cases h3 : s < 0 ∨ ((2 ^ c.length - 1 : Nat) : Int) < s
      · rw [checkE_3 hv hd h3] at h; cases h
      · exact ⟨oka_lt hL hv hd, s.toNat, by omega, by omega⟩
  · rw [checkE_1 hv] at h; exact absurd h hv
theorem checkE_nat {c : List Mem} (hok : OKA c) {n : Nat} (h : n < 2 ^ c.length) : checkE c n = 0 := by
  exact checkE_4 hok.ok hok.any (by omega)
theorem gcheck_con (c : List Mem) (hL : Lt c) (s : Int) : Con none Tryz.prog 46 [cv c, .i s] [] (Is (.i (checkE c s)) []) := by
  have hcap : capB = 140737488355328 := rfl
  have hp := pow4 hL.len
  have hlen := hL.len
  refine con_intro Tryz.func46 rfl Tryz.call46 rfl ?_
  refine zS ?_
  refine aops_box rfl zFlat rfl rfl (fun b2 => ?_)
  refine zAs ?_; refine zN (zS ?_); refine zAs ?_; refine zN ?_; refine awp_seq ?_; refine zS ?_; refine zLd ?_
  refine aops_call_v zRc (validC_con c hL.s9) rfl rfl ?_
  refine zAs ?_; refine zN ?_; refine awp_block ?_; refine zS ?_; refine zMv ?_; refine zCm ?_; refine zAs ?_; refine zN ?_
  refine zC (fun hc => ?_) fun hc => ?_
  · have hv := of_neq_true hc
    refine zS ?_; refine zMv ?_; refine zAs ?_; refine zN ?_; refine awp_ret ?_; refine blockQ_r ?_; refine seqQ_r ?_
    refine post_is (.tmp rfl .nil) zKeep ?_
    rw [checkE_1 hv]; rfl
  · have hv : validC c = 0 := of_neq_false hc
    refine zS ?_; refine zF 0 1 false ?_; refine zL1 ?_; refine zMv ?_
    refine aops_call_v zRc (containsFM_con _ (fun m => !m.decl) c (fun k _ => check1_con k)) rfl rfl ?_
    refine zAs ?_; refine zN ?_
    refine zC (fun hc => ?_) fun hc => ?_
    · have hd := hc
      refine zS ?_; refine zAs ?_; refine zN ?_; refine awp_ret ?_; refine blockQ_r ?_; refine seqQ_r ?_
      refine post_is (.tmp rfl .nil) zKeep ?_
      rw [checkE_2 hv hd]; rfl
    · have hd := hc
      refine zS ?_; refine zMv ?_; refine zCm ?_; refine zMv ?_
      all_goals first | (refine zY ?_; refine zMv ?_) | refine zU ?_ | refine zNf ?_ | (refine zGf (fun hg => ?_) fun hg => ?_; case' _ => refine zMv ?_)
      all_goals first | (refine zY ?_; refine zLd ?_) | refine zU ?_ | refine zNf ?_ | (refine zGf (fun hg => ?_) fun hg => ?_; case' _ => refine zLd ?_)
      all_goals first | (refine zY ?_; refine aops_call_v zRc (all_con c hL.len) rfl rfl ?_) | refine zU ?_ | refine zNf ?_ | (refine zGf (fun hg => ?_) fun hg => ?_; case' _ => refine aops_call_v zRc (all_con c hL.len) rfl rfl ?_)
      all_goals first | (refine zY ?_; refine zCm ?_) | refine zU ?_ | refine zNf ?_ | (refine zGf (fun hg => ?_) fun hg => ?_; case' _ => refine zCm ?_)
      all_goals refine zPk ?_
      all_goals refine zAs ?_
      all_goals (
        refine zN ?_
        refine zC (fun hc => ?_) fun hc => ?_
        · first
          | (exact absurd hc (by decide))
          | (refine awp_seq ?_
             refine awp_region ?_; refine zAs ?_; refine zN ?_; refine awp_ret ?_; refine blockQ_r ?_; refine seqQ_r ?_
             refine post_is (.tmp rfl .nil) zKeep ?_
             rw [checkE_3 hv hd (by first | (have h5 := of_decide_eq_true hg; omega) | (have h5 := of_decide_eq_true hc; omega))]; rfl
            )
        · first
          | (exact absurd hc (by decide))
          | (refine awp_skip ?_
             refine blockQ_n ?_; refine seqQ_n ?_; refine zS ?_; refine zAs ?_; refine zN ?_; refine awp_ret ?_
             refine post_is (.tmp rfl .nil) zKeep ?_
             have h4 := of_decide_eq_false hg
             have h5 := of_decide_eq_false hc
             rw [checkE_4 hv hd (by omega)]; rfl
            )
        )
end Go.Proofs.YtgmpjpaekpefdaaGreat
