/- The walks of: rfinite_con, rsame27_con, rvalue_con, rall_con, rahead_con, rprepared_con, rconfirmed_con. Each says what one function of the program answers, for the arguments that its statement names. No condition beyond what each theorem says. -/
import Derived.Test.YtegejdhkckndaaaGreatTimersExactW5
import Derived.Test.YtegejdhkckndaaaGreatProg
import Derived.KernelRfl
import Derived.Tactics
import Derived.Tactics2
import Derived.StillTactics
set_option linter.unusedVariables false
set_option linter.unusedSimpArgs false
set_option linter.unnecessarySimpa false
set_option maxRecDepth 4000
namespace Go.Proofs.YtegejdhkckndaaaGreat
open Go Go.Av Go.Tq
theorem rfinite_con (b : Bal) (hb : BB b) : Con Tryz.prog 111 [bv b] [] (fun d H => ∃ c : Bal, d = bv c ∧ BB c ∧ H = []) := by
  have hcap : capB = 140737488355328 := rfl
  refine con_intro Tryz.func111 rfl Tryz.call111 rfl ?_
  refine zS ?_
  refine aops_box rfl zFlat rfl rfl (fun b1 => ?_)
  refine aops_alloc rfl zRc rfl rfl (fun b2 => ?_)
  refine zN ?_; refine awp_seq ?_; refine zS ?_; refine zF 0 1 false ?_; refine zL1 ?_; refine zCm ?_; refine zN ?_
  refine zC (fun hc => ?_) fun hc => ?_
  · refine awp_region ?_
    refine zF 0 1 false ?_; refine zSt ?_; refine zN (zS ?_); refine zLd ?_; refine zSt ?_; refine zN ?_; refine awp_ret ?_
    first | exact post_ret (.cell rfl zUpd rfl rfl .nil) zKeep ⟨b, rfl, hb, rfl⟩ | exact post_ret (.cell rfl zUpd rfl rfl .nil) zKeep ⟨⟨1000, b.v⟩, rfl, ⟨show (0 : Int) ≤ 1000 by omega, show (1000 : Int) ≤ 1000000 by omega, hb.sz⟩, rfl⟩
  · refine awp_skip ?_
    refine seqQ_n ?_; refine zS ?_; refine zLd ?_; refine zSt ?_; refine zN ?_; refine awp_ret ?_
    first | exact post_ret (.cell rfl zUpd rfl rfl .nil) zKeep ⟨b, rfl, hb, rfl⟩ | exact post_ret (.cell rfl zUpd rfl rfl .nil) zKeep ⟨⟨1000, b.v⟩, rfl, ⟨show (0 : Int) ≤ 1000 by omega, show (1000 : Int) ≤ 1000000 by omega, hb.sz⟩, rfl⟩
def sameV (a b : Mach) : Bool := decide (a.phase = b.phase) && ((decide (a.bal.n = b.bal.n) && decide (a.bal.v = b.bal.v)) && ((decide (a.prep.n = b.prep.n) && decide (a.prep.v = b.prep.v)) && ((decide (a.prime.n = b.prime.n) && decide (a.prime.v = b.prime.v)) && ((decide (a.conf.n = b.conf.n) && decide (a.conf.v = b.conf.v)) && (decide (a.low = b.low) && decide (a.high = b.high))))))
theorem bal_eq {a b : Bal} (h : a.n = b.n) (h2 : a.v = b.v) : a = b := by cases a; cases b; simp only at h h2; rw [h, h2]
theorem sameV_t {a b : Mach} (hs : SameF a b) (h : sameV a b = true) : b = a := by
  simp only [sameV, Bool.and_eq_true, decide_eq_true_eq] at h
  obtain ⟨h1, ⟨h2, h3⟩, ⟨h4, h5⟩, ⟨h6, h7⟩, ⟨h8, h9⟩, h10, h11⟩ := h
  have e1 := bal_eq h2 h3; have e2 := bal_eq h4 h5; have e3 := bal_eq h6 h7; have e4 := bal_eq h8 h9
  have k1 := hs.node; have k2 := hs.slot; have k3 := hs.seq; have k4 := hs.t; have k5 := hs.prop; have k6 := hs.heard
  cases a; cases b
  simp only at *
  subst_vars
  rfl
theorem sameV_f {a b : Mach} (h : sameV a b = false) : ¬ b = a := by
  rintro rfl
  simp [sameV] at h
set_option maxHeartbeats 1000000 in
theorem rsame27_con (a b : Mach) : Con Tryz.prog 93 [mcv a, mcv b] [] (Is (.b (sameV a b)) []) := by
  have hcap : capB = 140737488355328 := rfl
  refine con_intro Tryz.func93 rfl Tryz.call93 rfl ?_
  refine zS ?_
  refine aops_box rfl zFlat rfl rfl (fun b2 => ?_)
  refine aops_box rfl zFlat rfl rfl (fun b3 => ?_)
  refine zAs ?_; refine zN (zS ?_); refine zF 6 1 false ?_; refine zL1 ?_; refine zF 6 1 false ?_; refine zL1 ?_; refine zCm ?_; refine zMv ?_
  all_goals first | (refine zY ?_; refine zF 7 2 true ?_) | refine zU ?_ | refine zNt ?_ | (refine zGt (fun hg => ?_) fun hg => ?_; case' _ => refine zF 7 2 true ?_)
  all_goals first | (refine zY ?_; refine zLd ?_) | refine zU ?_ | refine zNt ?_ | (refine zGt (fun hg => ?_) fun hg => ?_; case' _ => refine zLd ?_)
  all_goals first | (refine zY ?_; refine zF 7 2 true ?_) | refine zU ?_ | refine zNt ?_ | (refine zGt (fun hg => ?_) fun hg => ?_; case' _ => refine zF 7 2 true ?_)
  all_goals first | (refine zY ?_; refine zLd ?_) | refine zU ?_ | refine zNt ?_ | (refine zGt (fun hg => ?_) fun hg => ?_; case' _ => refine zLd ?_)
  all_goals first | (refine zY ?_; refine zP (ap_eqs rfl rfl eq2_29) ?_) | refine zU ?_ | refine zNt ?_ | (refine zGt (fun hg => ?_) fun hg => ?_; case' _ => refine zP (ap_eqs rfl rfl eq2_29) ?_)
  all_goals refine zPk ?_
  all_goals refine zMv ?_
  all_goals first | (refine zY ?_; refine zF 9 2 true ?_) | refine zU ?_ | refine zNt ?_ | (refine zGt (fun hg => ?_) fun hg => ?_; case' _ => refine zF 9 2 true ?_)
  all_goals first | (refine zY ?_; refine zLd ?_) | refine zU ?_ | refine zNt ?_ | (refine zGt (fun hg => ?_) fun hg => ?_; case' _ => refine zLd ?_)
  all_goals first | (refine zY ?_; refine zF 9 2 true ?_) | refine zU ?_ | refine zNt ?_ | (refine zGt (fun hg => ?_) fun hg => ?_; case' _ => refine zF 9 2 true ?_)
  all_goals first | (refine zY ?_; refine zLd ?_) | refine zU ?_ | refine zNt ?_ | (refine zGt (fun hg => ?_) fun hg => ?_; case' _ => refine zLd ?_)
  all_goals first | (refine zY ?_; refine zP (ap_eqs rfl rfl eq2_29) ?_) | refine zU ?_ | refine zNt ?_ | (refine zGt (fun hg => ?_) fun hg => ?_; case' _ => refine zP (ap_eqs rfl rfl eq2_29) ?_)
  all_goals refine zPk ?_
  all_goals refine zMv ?_
  all_goals first | (refine zY ?_; refine zF 11 2 true ?_) | refine zU ?_ | refine zNt ?_ | (refine zGt (fun hg => ?_) fun hg => ?_; case' _ => refine zF 11 2 true ?_)
  all_goals first | (refine zY ?_; refine zLd ?_) | refine zU ?_ | refine zNt ?_ | (refine zGt (fun hg => ?_) fun hg => ?_; case' _ => refine zLd ?_)
  all_goals first | (refine zY ?_; refine zF 11 2 true ?_) | refine zU ?_ | refine zNt ?_ | (refine zGt (fun hg => ?_) fun hg => ?_; case' _ => refine zF 11 2 true ?_)
  all_goals first | (refine zY ?_; refine zLd ?_) | refine zU ?_ | refine zNt ?_ | (refine zGt (fun hg => ?_) fun hg => ?_; case' _ => refine zLd ?_)
  all_goals first | (refine zY ?_; refine zP (ap_eqs rfl rfl eq2_29) ?_) | refine zU ?_ | refine zNt ?_ | (refine zGt (fun hg => ?_) fun hg => ?_; case' _ => refine zP (ap_eqs rfl rfl eq2_29) ?_)
  all_goals refine zPk ?_
  all_goals refine zMv ?_
  all_goals first | (refine zY ?_; refine zF 13 2 true ?_) | refine zU ?_ | refine zNt ?_ | (refine zGt (fun hg => ?_) fun hg => ?_; case' _ => refine zF 13 2 true ?_)
  all_goals first | (refine zY ?_; refine zLd ?_) | refine zU ?_ | refine zNt ?_ | (refine zGt (fun hg => ?_) fun hg => ?_; case' _ => refine zLd ?_)
  all_goals first | (refine zY ?_; refine zF 13 2 true ?_) | refine zU ?_ | refine zNt ?_ | (refine zGt (fun hg => ?_) fun hg => ?_; case' _ => refine zF 13 2 true ?_)
  all_goals first | (refine zY ?_; refine zLd ?_) | refine zU ?_ | refine zNt ?_ | (refine zGt (fun hg => ?_) fun hg => ?_; case' _ => refine zLd ?_)
  all_goals first | (refine zY ?_; refine zP (ap_eqs rfl rfl eq2_29) ?_) | refine zU ?_ | refine zNt ?_ | (refine zGt (fun hg => ?_) fun hg => ?_; case' _ => refine zP (ap_eqs rfl rfl eq2_29) ?_)
  all_goals refine zPk ?_
  all_goals refine zMv ?_
  all_goals first | (refine zY ?_; refine zF 15 1 false ?_) | refine zU ?_ | refine zNt ?_ | (refine zGt (fun hg => ?_) fun hg => ?_; case' _ => refine zF 15 1 false ?_)
  all_goals first | (refine zY ?_; refine zL1 ?_) | refine zU ?_ | refine zNt ?_ | (refine zGt (fun hg => ?_) fun hg => ?_; case' _ => refine zL1 ?_)
  all_goals first | (refine zY ?_; refine zF 15 1 false ?_) | refine zU ?_ | refine zNt ?_ | (refine zGt (fun hg => ?_) fun hg => ?_; case' _ => refine zF 15 1 false ?_)
  all_goals first | (refine zY ?_; refine zL1 ?_) | refine zU ?_ | refine zNt ?_ | (refine zGt (fun hg => ?_) fun hg => ?_; case' _ => refine zL1 ?_)
  all_goals first | (refine zY ?_; refine zCm ?_) | refine zU ?_ | refine zNt ?_ | (refine zGt (fun hg => ?_) fun hg => ?_; case' _ => refine zCm ?_)
  all_goals refine zPk ?_
  all_goals refine zMv ?_
  all_goals first | (refine zY ?_; refine zF 16 1 false ?_) | refine zU ?_ | refine zNt ?_ | (refine zGt (fun hg => ?_) fun hg => ?_; case' _ => refine zF 16 1 false ?_)
  all_goals first | (refine zY ?_; refine zL1 ?_) | refine zU ?_ | refine zNt ?_ | (refine zGt (fun hg => ?_) fun hg => ?_; case' _ => refine zL1 ?_)
  all_goals first | (refine zY ?_; refine zF 16 1 false ?_) | refine zU ?_ | refine zNt ?_ | (refine zGt (fun hg => ?_) fun hg => ?_; case' _ => refine zF 16 1 false ?_)
  all_goals first | (refine zY ?_; refine zL1 ?_) | refine zU ?_ | refine zNt ?_ | (refine zGt (fun hg => ?_) fun hg => ?_; case' _ => refine zL1 ?_)
  all_goals first | (refine zY ?_; refine zCm ?_) | refine zU ?_ | refine zNt ?_ | (refine zGt (fun hg => ?_) fun hg => ?_; case' _ => refine zCm ?_)
  all_goals refine zPk ?_
  all_goals refine zAs ?_
  all_goals (
    refine zN ?_; refine awp_ret ?_
    refine post_is (.tmp rfl .nil) zKeep (bcl ?_)
    first | rfl | (simp only [sameV]; simp [*]; done) | grind [sameV]
    )
set_option maxHeartbeats 1000000 in
theorem rvalue_con (m : Mach) (hlen : m.heard.length ≤ 100) : Con Tryz.prog 47 [mcv m] [] (Is (.v (.string (valM m))) []) := by
  have hcap : capB = 140737488355328 := rfl
  have hmlen : (m.heard.map ev).length = m.heard.length := by simp
  refine con_intro Tryz.func47 rfl Tryz.call47 rfl ?_
  refine zS ?_
  refine aops_box rfl zFlat rfl rfl (fun b1 => ?_)
  refine zAs ?_; refine zN ?_; refine awp_seq ?_; refine zS ?_; refine zF 13 2 true ?_; refine zLd ?_
  refine aops_call_v zRc (rz_con m.conf) rfl rfl ?_
  refine zNo ?_; refine zN ?_
  refine zC (fun hc => ?_) fun hc => ?_
  · have h1 : (!zB m.conf) = true := hc
    refine zS ?_; refine zF 13 2 true ?_; refine zF 1 1 false ?_; refine zL1 ?_; refine zAs ?_; refine zN ?_; refine awp_ret ?_; refine seqQ_r ?_
    refine post_is (.tmp rfl .nil) zKeep ?_
    unfold valM; rw [if_pos h1]; rfl
  · have h1 : (!zB m.conf) = false := hc
    refine awp_skip ?_; refine seqQ_n ?_; refine awp_seq ?_; refine zS ?_; refine zF 6 1 false ?_; refine zL1 ?_; refine zCm ?_; refine zN ?_
    refine zC (fun hc => ?_) fun hc => ?_
    · have h2 : (!decide (m.phase = 1)) = true := hc
      refine zS ?_; refine zF 7 2 true ?_; refine zF 1 1 false ?_; refine zL1 ?_; refine zAs ?_; refine zN ?_; refine awp_ret ?_; refine seqQ_r ?_
      refine post_is (.tmp rfl .nil) zKeep ?_
      unfold valM; rw [if_neg (by rw [h1]; decide), if_pos h2]; rfl
    · have h2 : (!decide (m.phase = 1)) = false := hc
      refine awp_skip ?_; refine seqQ_n ?_; refine awp_seq ?_; refine zS ?_; refine zF 17 1 false ?_; refine zL1 ?_
      refine zP (ap_scmp rfl rfl rfl) ?_
      refine zN ?_
      refine zC (fun hc => ?_) fun hc => ?_
      · have h3 : (!decide (m.prop = noS)) = true := hc
        refine zS ?_; refine zF 17 1 false ?_; refine zL1 ?_; refine zAs ?_; refine zN ?_; refine awp_ret ?_; refine seqQ_r ?_
        refine post_is (.tmp rfl .nil) zKeep ?_
        unfold valM; rw [if_neg (by rw [h1]; decide), if_neg (by rw [h2]; decide), if_pos h3]; rfl
      · have h3 : (!decide (m.prop = noS)) = false := hc
        refine awp_skip ?_; refine seqQ_n ?_; refine zS ?_; refine zAs ?_; refine zN ?_; refine awp_seq ?_; refine zS ?_; refine zF 18 1 false ?_; refine zL1 ?_
        first | refine aops_len rfl rfl rfl rfl (fun _ => ?_) | refine zP (ap_len_arr rfl zUpd rfl) ?_ | refine zP (ap_len_nil rfl rfl) ?_
        refine zMv ?_; refine zN ?_; refine awp_block ?_
        refine awp_loop3 [25, 26] [] (fun (k : Nat) (v : Value) (q : List Bal) r => (3, .v v) :: (27, .i (k : Int)) :: r) (fun (k : Nat) (v : Value) (q : List Bal) r => .arr v 29 2 (q.map bv) :: r) (fun (k : Nat) (v : Value) (q : List Bal) => k ≤ m.heard.length ∧ q.length = k ∧ q = (m.heard.take k).map Evp.bal) (fun (k : Nat) (v : Value) (q : List Bal) => m.heard.length - k) (0) (.slice none 0 0) ([]) zRc ⟨by omega, rfl, by simp⟩ ((wk_own 29 2 rfl).trans (wk zSub zKeep)) ?_
        intro k v q ⟨hk, hql, hI⟩
        have hqm : (q.map bv).length = q.length := by simp
        refine zS ?_; refine zCm ?_; refine zN ?_; refine awp_seq ?_
        refine zC (fun hc => ?_) fun hc => ?_
        · have hlt := of_decide_eq_true hc
          obtain ⟨x, hx, hd⟩ := drop_cons (l := m.heard) (k := k) (by omega)
          have hx' := getMap ev hx
          refine awp_skip ?_; refine seqQ_n ?_; refine awp_seq ?_; refine awp_block ?_; refine zS ?_
          first | refine zP (ap_index rfl rfl rfl rfl (by decide) rfl zAss) ?_ | refine zP (ap_index rfl rfl rfl rfl (by decide) (by omega) zAss) ?_ | refine zP (ap_index_own rfl rfl rfl rfl rfl (by first | omega | (simp only [List.length_map, List.length_set, avs_len]; omega))) ?_
          refine zLd ?_
          refine aops_alloc rfl zRc rfl rfl (fun b5 => ?_)
          refine zSt ?_; refine zN ?_; refine awp_region ?_; refine zMv ?_; refine zF 7 2 true ?_; refine zLd ?_
          refine aops_lit (e := 29) (sz := 2) (by_ := 24) rfl rfl zRc rfl rfl rfl rfl ?_
          first | refine aops_append (e := 29) (sz := 2) (by_ := 24) rfl zUpd rfl rfl rfl rfl rfl zLen (fun v35 hv35 => ?_) | refine aops_append_nil (e := 29) (sz := 2) (by_ := 24) rfl rfl rfl rfl rfl rfl zLen (fun v35 hv35 => ?_)
          refine zAs ?_; refine aops_nil ?_; refine blockQ_n ?_; refine seqQ_n ?_; refine awp_region ?_; refine zAr ?_; refine zMv ?_; refine zN ?_
          rw [show List.map bv q ++ [D.agg [.i x.bal.n, .v (.string x.bal.v)]] = (q ++ [x.bal]).map bv from by rw [List.map_append]; rfl]
          refine ⟨k + 1, _, q ++ [x.bal], ⟨by omega, by simp; omega, by rw [List.take_add_one, hx, hI]; simp⟩, by omega, wk zSub zKeep⟩
        · have hge := of_decide_eq_false hc
          refine awp_freeze v [3] zRem zSelC zHeapA ?_
          have hF : q = m.heard.map Evp.bal := by rw [hI, List.take_of_length_le (by omega)]
          refine awp_exit ?_; refine seqQ_x ?_; refine seqQ_x ?_; refine blockQ_x rfl ?_; refine seqQ_n ?_; refine zS ?_; refine zMv ?_
          refine aops_call_v zRc (rgrt_con q (by omega)) rfl rfl ?_
          refine zP (ap_field (off := 1) (sz := 1) rfl rfl zRc) ?_
          refine zAs ?_; refine zN ?_; refine awp_ret ?_
          refine post_is (.tmp rfl .nil) zKeep ?_
          unfold valM; rw [if_neg (by rw [h1]; decide), if_neg (by rw [h2]; decide), if_neg (by rw [h3]; decide), ← hF]; rfl
set_option maxHeartbeats 2000000 in
theorem rall_con (m : Mach) (hlen : m.heard.length ≤ 40) (hs : sizeT m.t ≤ 200000) (hh : ∀ e ∈ m.heard, sizeT e.t ≤ 200000) : Con Tryz.prog 113 [mcv m] [] (fun d H => ∃ q : List Evp, d = .sl 15 (q.map ev) ∧ (q.length ≤ 100 ∧ ∀ e ∈ q, sizeT e.t ≤ 1000000000) ∧ H = []) := by
  have hcap : capB = 140737488355328 := rfl
  have hmlen : (m.heard.map ev).length = m.heard.length := by simp
  refine con_intro Tryz.func113 rfl Tryz.call113 rfl ?_
  refine zS ?_
  refine aops_box rfl zFlat rfl rfl (fun b1 => ?_)
  refine zAs ?_; refine zN ?_; refine awp_seq ?_; refine zS ?_; refine zF 7 2 true ?_; refine zLd ?_
  refine aops_call_v zRc (rz_con m.bal) rfl rfl ?_
  refine zN ?_
  refine zC (fun hc => ?_) fun hc => ?_
  · refine awp_seq ?_
    refine awp_region ?_; refine zF 18 1 false ?_; refine zL1 ?_; refine zAs ?_; refine zN ?_; refine awp_ret ?_; refine seqQ_r ?_
    exact post_ret (.tmp rfl .nil) zKeep ⟨m.heard, rfl, ⟨by omega, fun e he => by have := hh e he; omega⟩, rfl⟩
  · refine awp_skip ?_
    refine seqQ_n ?_; refine zS ?_; refine zLd ?_
    refine aops_call_v zRc (renv_con m) rfl rfl ?_
    refine aops_alloc rfl zRc rfl rfl (fun b3 => ?_)
    refine zSt ?_; refine zN (zS ?_); refine zF 2 1 false ?_; refine zL1 ?_
    refine zP (ap_max rfl rfl) ?_
    refine zF 2 1 false ?_; refine zSt ?_
    obtain ⟨z, hz⟩ : ∃ z : Evp, z = { envR m with seq := max (envR m).seq 1 } := ⟨_, rfl⟩
    have hzt : sizeT z.t ≤ 1000000000 := by rw [hz]; show sizeT m.t ≤ _; omega
    rw [show [D.i (envR m).node, .i (envR m).slot, .i (max (envR m).seq 1), .i (envR m).t.th, .sl 1 ((envR m).t.nodes.map .i), .sl 3 (avs (envR m).t.inner), .i (envR m).kind, .i (envR m).bal.n, .v (.string (envR m).bal.v), .i (envR m).prep.n, .v (.string (envR m).prep.v), .i (envR m).prime.n, .v (.string (envR m).prime.v), .i (envR m).low, .i (envR m).high] = [D.i z.node, .i z.slot, .i z.seq, .i z.t.th, .sl 1 (z.t.nodes.map .i), .sl 3 (avs z.t.inner), .i z.kind, .i z.bal.n, .v (.string z.bal.v), .i z.prep.n, .v (.string z.prep.v), .i z.prime.n, .v (.string z.prime.v), .i z.low, .i z.high] from by rw [hz]]
    refine zN (zS ?_); refine zAs ?_; refine zN (zS ?_); refine zAs ?_; refine zN ?_; refine awp_seq ?_; refine zS ?_; refine zF 18 1 false ?_; refine zL1 ?_
    first | refine aops_len rfl rfl rfl rfl (fun _ => ?_) | refine zP (ap_len_arr rfl zUpd rfl) ?_ | refine zP (ap_len_nil rfl rfl) ?_
    refine zMv ?_; refine zN ?_; refine awp_block ?_
    refine awp_loop4 [3, 20, 21] [.box b3 _ _] (fun (k : Nat) (v : Value) (q : List Evp) (p : Bool) r => (4, .v v) :: (5, .b p) :: (22, .i (k : Int)) :: r) (fun (k : Nat) (v : Value) (q : List Evp) (p : Bool) r => .arr v 52 15 (q.map ev) :: r) (fun (k : Nat) (v : Value) (q : List Evp) (p : Bool) => k ≤ m.heard.length ∧ q.length ≤ 2 * k ∧ ∀ e ∈ q, sizeT e.t ≤ 1000000000) (fun (k : Nat) (v : Value) (q : List Evp) (p : Bool) => m.heard.length - k) (0) (.slice none 0 0) ([]) (false) zRc ⟨by omega, by simp, fun x h => absurd h List.not_mem_nil⟩ ((wk_own 52 15 rfl).trans (wk zSub zKeep)) ?_
    intro k v q p ⟨hk, hql, hq⟩
    have hqm : (q.map ev).length = q.length := by simp
    refine zS ?_; refine zCm ?_; refine zN ?_; refine awp_seq ?_
    refine zC (fun hc => ?_) fun hc => ?_
    · have hlt := of_decide_eq_true hc
      obtain ⟨x, hx, hd⟩ := drop_cons (l := m.heard) (k := k) (by omega)
      have hx' := getMap ev hx
      have hxs := hh x (List.mem_of_getElem? hx)
      refine awp_skip ?_; refine seqQ_n ?_; refine awp_seq ?_; refine awp_block ?_; refine zS ?_
      first | refine zP (ap_index rfl rfl rfl rfl (by decide) rfl zAss) ?_ | refine zP (ap_index rfl rfl rfl rfl (by decide) (by omega) zAss) ?_ | refine zP (ap_index_own rfl rfl rfl rfl rfl (by first | omega | (simp only [List.length_map, List.length_set, avs_len]; omega))) ?_
      refine zLd ?_
      refine aops_alloc rfl zRc rfl rfl (fun b7 => ?_)
      refine zSt ?_; refine zN ?_; refine awp_seq ?_; refine zS ?_; refine zMv ?_; refine zNo ?_; refine zMv ?_
      all_goals first | (refine zY ?_; refine zF 0 1 false ?_) | refine zU ?_ | refine zNt ?_ | (refine zGt (fun hg => ?_) fun hg => ?_; case' _ => refine zF 0 1 false ?_)
      all_goals first | (refine zY ?_; refine zL1 ?_) | refine zU ?_ | refine zNt ?_ | (refine zGt (fun hg => ?_) fun hg => ?_; case' _ => refine zL1 ?_)
      all_goals first | (refine zY ?_; refine zF 0 1 false ?_) | refine zU ?_ | refine zNt ?_ | (refine zGt (fun hg => ?_) fun hg => ?_; case' _ => refine zF 0 1 false ?_)
      all_goals first | (refine zY ?_; refine zL1 ?_) | refine zU ?_ | refine zNt ?_ | (refine zGt (fun hg => ?_) fun hg => ?_; case' _ => refine zL1 ?_)
      all_goals first | (refine zY ?_; refine zCm ?_) | refine zU ?_ | refine zNt ?_ | (refine zGt (fun hg => ?_) fun hg => ?_; case' _ => refine zCm ?_)
      all_goals refine zPk ?_
      all_goals (
        refine zN ?_
        refine zC (fun hc => ?_) fun hc => ?_
        · first
          | (exact absurd hc (by decide))
          | (refine awp_region ?_
             refine zMv ?_; refine zLd ?_
             refine aops_lit (e := 52) (sz := 15) (by_ := 176) rfl rfl zRc rfl rfl rfl rfl ?_
             first | refine aops_append (e := 52) (sz := 15) (by_ := 176) rfl zUpd rfl rfl rfl rfl rfl (by simp only [List.length_cons, List.length_nil, List.length_append, List.length_map, List.length_take, List.length_drop]; omega) (fun v38 hv38 => ?_) | refine aops_append_nil (e := 52) (sz := 15) (by_ := 176) rfl rfl rfl rfl rfl rfl (by simp only [List.length_cons, List.length_nil, List.length_append, List.length_map, List.length_take, List.length_drop]; omega) (fun v38 hv38 => ?_)
             refine zAs ?_; refine zAs ?_; refine zN ?_; refine awp_region ?_; refine zMv ?_; refine zLd ?_
             refine aops_lit (e := 52) (sz := 15) (by_ := 176) rfl rfl zRc rfl rfl rfl rfl ?_
             first | refine aops_append (e := 52) (sz := 15) (by_ := 176) rfl zUpd rfl rfl rfl rfl rfl (by simp only [List.length_cons, List.length_nil, List.length_append, List.length_map, List.length_take, List.length_drop]; omega) (fun v42 hv42 => ?_) | refine aops_append_nil (e := 52) (sz := 15) (by_ := 176) rfl rfl rfl rfl rfl rfl (by simp only [List.length_cons, List.length_nil, List.length_append, List.length_map, List.length_take, List.length_drop]; omega) (fun v42 hv42 => ?_)
             refine zAs ?_; refine aops_nil ?_; refine blockQ_n ?_; refine seqQ_n ?_; refine awp_region ?_; refine zAr ?_; refine zMv ?_; refine zN ?_
             first
             | (have h38 : Value := v38; rw [show D.agg [.i z.node, .i z.slot, .i z.seq, .i z.t.th, .sl 1 (z.t.nodes.map .i), .sl 3 (avs z.t.inner), .i z.kind, .i z.bal.n, .v (.string z.bal.v), .i z.prep.n, .v (.string z.prep.v), .i z.prime.n, .v (.string z.prime.v), .i z.low, .i z.high] = ev z from rfl, show D.agg [.i x.node, .i x.slot, .i x.seq, .i x.t.th, .sl 1 (x.t.nodes.map .i), .sl 3 (avs x.t.inner), .i x.kind, .i x.bal.n, .v (.string x.bal.v), .i x.prep.n, .v (.string x.prep.v), .i x.prime.n, .v (.string x.prime.v), .i x.low, .i x.high] = ev x from rfl, ev_snoc, ev_snoc]; refine ⟨k + 1, _, (q ++ [z]) ++ [x], true, ⟨by omega, by simp; omega, snoc_mem (snoc_mem hq hzt) (by omega)⟩, by omega, wk zSub zKeep⟩)
             | (rw [show D.agg [.i x.node, .i x.slot, .i x.seq, .i x.t.th, .sl 1 (x.t.nodes.map .i), .sl 3 (avs x.t.inner), .i x.kind, .i x.bal.n, .v (.string x.bal.v), .i x.prep.n, .v (.string x.prep.v), .i x.prime.n, .v (.string x.prime.v), .i x.low, .i x.high] = ev x from rfl, ev_snoc]; refine ⟨k + 1, _, q ++ [x], p, ⟨by omega, by simp; omega, snoc_mem hq (by omega)⟩, by omega, wk zSub zKeep⟩)
            )
        · first
          | (exact absurd hc (by decide))
          | (refine awp_skip ?_
             refine seqQ_n ?_; refine awp_region ?_; refine zMv ?_; refine zLd ?_
             refine aops_lit (e := 52) (sz := 15) (by_ := 176) rfl rfl zRc rfl rfl rfl rfl ?_
             first | refine aops_append (e := 52) (sz := 15) (by_ := 176) rfl zUpd rfl rfl rfl rfl rfl (by simp only [List.length_cons, List.length_nil, List.length_append, List.length_map, List.length_take, List.length_drop]; omega) (fun v42 hv42 => ?_) | refine aops_append_nil (e := 52) (sz := 15) (by_ := 176) rfl rfl rfl rfl rfl rfl (by simp only [List.length_cons, List.length_nil, List.length_append, List.length_map, List.length_take, List.length_drop]; omega) (fun v42 hv42 => ?_)
             refine zAs ?_; refine aops_nil ?_; refine blockQ_n ?_; refine seqQ_n ?_; refine awp_region ?_; refine zAr ?_; refine zMv ?_; refine zN ?_
             first
             | (have h38 : Value := v38; rw [show D.agg [.i z.node, .i z.slot, .i z.seq, .i z.t.th, .sl 1 (z.t.nodes.map .i), .sl 3 (avs z.t.inner), .i z.kind, .i z.bal.n, .v (.string z.bal.v), .i z.prep.n, .v (.string z.prep.v), .i z.prime.n, .v (.string z.prime.v), .i z.low, .i z.high] = ev z from rfl, show D.agg [.i x.node, .i x.slot, .i x.seq, .i x.t.th, .sl 1 (x.t.nodes.map .i), .sl 3 (avs x.t.inner), .i x.kind, .i x.bal.n, .v (.string x.bal.v), .i x.prep.n, .v (.string x.prep.v), .i x.prime.n, .v (.string x.prime.v), .i x.low, .i x.high] = ev x from rfl, ev_snoc, ev_snoc]; refine ⟨k + 1, _, (q ++ [z]) ++ [x], true, ⟨by omega, by simp; omega, snoc_mem (snoc_mem hq hzt) (by omega)⟩, by omega, wk zSub zKeep⟩)
             | (rw [show D.agg [.i x.node, .i x.slot, .i x.seq, .i x.t.th, .sl 1 (x.t.nodes.map .i), .sl 3 (avs x.t.inner), .i x.kind, .i x.bal.n, .v (.string x.bal.v), .i x.prep.n, .v (.string x.prep.v), .i x.prime.n, .v (.string x.prime.v), .i x.low, .i x.high] = ev x from rfl, ev_snoc]; refine ⟨k + 1, _, q ++ [x], p, ⟨by omega, by simp; omega, snoc_mem hq (by omega)⟩, by omega, wk zSub zKeep⟩)
            )
        )
    · have hge := of_decide_eq_false hc
      refine awp_exit ?_; refine seqQ_x ?_; refine seqQ_x ?_; refine blockQ_x rfl ?_; refine seqQ_n ?_; refine awp_seq ?_; refine zS ?_; refine zMv ?_; refine zNo ?_; refine zN ?_
      refine zC (fun hc => ?_) fun hc => ?_
      · refine awp_region ?_
        refine zMv ?_; refine zLd ?_
        refine aops_lit (e := 52) (sz := 15) (by_ := 176) rfl rfl zRc rfl rfl rfl rfl ?_
        first | refine aops_append (e := 52) (sz := 15) (by_ := 176) rfl zUpd rfl rfl rfl rfl rfl (by simp only [List.length_cons, List.length_nil, List.length_append, List.length_map, List.length_take, List.length_drop]; omega) (fun v49 hv49 => ?_) | refine aops_append_nil (e := 52) (sz := 15) (by_ := 176) rfl rfl rfl rfl rfl rfl (by simp only [List.length_cons, List.length_nil, List.length_append, List.length_map, List.length_take, List.length_drop]; omega) (fun v49 hv49 => ?_)
        refine zAs ?_; refine zN (zS ?_); refine zMv ?_; refine zAs ?_; refine zN ?_
        first | (rw [show D.agg [.i z.node, .i z.slot, .i z.seq, .i z.t.th, .sl 1 (z.t.nodes.map .i), .sl 3 (avs z.t.inner), .i z.kind, .i z.bal.n, .v (.string z.bal.v), .i z.prep.n, .v (.string z.prep.v), .i z.prime.n, .v (.string z.prime.v), .i z.low, .i z.high] = ev z from rfl, ev_snoc]; refine awp_freeze v49 [2] zRem zSelC zHeapA ?_) | (refine awp_freeze v [2] zRem zSelC zHeapA ?_)
        refine awp_ret ?_
        exact post_ret (.tmp rfl .nil) zKeep ⟨q ++ [z], rfl, ⟨by simp only [List.length_append, List.length_cons, List.length_nil]; omega, snoc_mem hq hzt⟩, rfl⟩
      · refine awp_skip ?_
        refine seqQ_n ?_; refine zS ?_; refine zMv ?_; refine zAs ?_; refine zN ?_
        first | (rw [show D.agg [.i z.node, .i z.slot, .i z.seq, .i z.t.th, .sl 1 (z.t.nodes.map .i), .sl 3 (avs z.t.inner), .i z.kind, .i z.bal.n, .v (.string z.bal.v), .i z.prep.n, .v (.string z.prep.v), .i z.prime.n, .v (.string z.prime.v), .i z.low, .i z.high] = ev z from rfl, ev_snoc]; refine awp_freeze v49 [2] zRem zSelC zHeapA ?_) | (refine awp_freeze v [2] zRem zSelC zHeapA ?_)
        refine awp_ret ?_
        exact post_ret (.tmp rfl .nil) zKeep ⟨q, rfl, ⟨by omega, hq⟩, rfl⟩
set_option maxHeartbeats 2000000 in
theorem rcheck_ex (m : Mach) (hs : sizeT m.t ≤ 1000000000) (hh : ∀ e ∈ m.heard, sizeT e.t ≤ 1000000000) : Con Tryz.prog 45 [mcv m] [] (fun d H => ∃ y : Bool, d = .b y ∧ H = []) := by
  have hcap : capB = 140737488355328 := rfl
  have hmlen : (m.heard.map ev).length = m.heard.length := by simp
  refine con_intro Tryz.func45 rfl Tryz.call45 rfl ?_
  refine zS ?_
  refine aops_box rfl zFlat rfl rfl (fun b1 => ?_)
  refine zAs ?_; refine zN ?_; refine awp_seq ?_; refine zS ?_; refine zF 0 1 false ?_; refine zL1 ?_; refine zCm ?_; refine zMv ?_
  all_goals first | (refine zY ?_; refine zF 0 1 false ?_) | refine zU ?_ | refine zNf ?_ | (refine zGf (fun hg => ?_) fun hg => ?_; case' _ => refine zF 0 1 false ?_)
  all_goals first | (refine zY ?_; refine zL1 ?_) | refine zU ?_ | refine zNf ?_ | (refine zGf (fun hg => ?_) fun hg => ?_; case' _ => refine zL1 ?_)
  all_goals first | (refine zY ?_; refine zCm ?_) | refine zU ?_ | refine zNf ?_ | (refine zGf (fun hg => ?_) fun hg => ?_; case' _ => refine zCm ?_)
  all_goals refine zPk ?_
  all_goals refine zMv ?_
  all_goals first | (refine zY ?_; refine zF 1 1 false ?_) | refine zU ?_ | refine zNf ?_ | (refine zGf (fun hg => ?_) fun hg => ?_; case' _ => refine zF 1 1 false ?_)
  all_goals first | (refine zY ?_; refine zL1 ?_) | refine zU ?_ | refine zNf ?_ | (refine zGf (fun hg => ?_) fun hg => ?_; case' _ => refine zL1 ?_)
  all_goals first | (refine zY ?_; refine zCm ?_) | refine zU ?_ | refine zNf ?_ | (refine zGf (fun hg => ?_) fun hg => ?_; case' _ => refine zCm ?_)
  all_goals refine zPk ?_
  all_goals refine zMv ?_
  all_goals first | (refine zY ?_; refine zF 1 1 false ?_) | refine zU ?_ | refine zNf ?_ | (refine zGf (fun hg => ?_) fun hg => ?_; case' _ => refine zF 1 1 false ?_)
  all_goals first | (refine zY ?_; refine zL1 ?_) | refine zU ?_ | refine zNf ?_ | (refine zGf (fun hg => ?_) fun hg => ?_; case' _ => refine zL1 ?_)
  all_goals first | (refine zY ?_; refine zCm ?_) | refine zU ?_ | refine zNf ?_ | (refine zGf (fun hg => ?_) fun hg => ?_; case' _ => refine zCm ?_)
  all_goals refine zPk ?_
  all_goals refine zMv ?_
  all_goals first | (refine zY ?_; refine zF 2 1 false ?_) | refine zU ?_ | refine zNf ?_ | (refine zGf (fun hg => ?_) fun hg => ?_; case' _ => refine zF 2 1 false ?_)
  all_goals first | (refine zY ?_; refine zL1 ?_) | refine zU ?_ | refine zNf ?_ | (refine zGf (fun hg => ?_) fun hg => ?_; case' _ => refine zL1 ?_)
  all_goals first | (refine zY ?_; refine zCm ?_) | refine zU ?_ | refine zNf ?_ | (refine zGf (fun hg => ?_) fun hg => ?_; case' _ => refine zCm ?_)
  all_goals refine zPk ?_
  all_goals refine zMv ?_
  all_goals first | (refine zY ?_; refine zF 2 1 false ?_) | refine zU ?_ | refine zNf ?_ | (refine zGf (fun hg => ?_) fun hg => ?_; case' _ => refine zF 2 1 false ?_)
  all_goals first | (refine zY ?_; refine zL1 ?_) | refine zU ?_ | refine zNf ?_ | (refine zGf (fun hg => ?_) fun hg => ?_; case' _ => refine zL1 ?_)
  all_goals first | (refine zY ?_; refine zCm ?_) | refine zU ?_ | refine zNf ?_ | (refine zGf (fun hg => ?_) fun hg => ?_; case' _ => refine zCm ?_)
  all_goals refine zPk ?_
  all_goals refine zMv ?_
  all_goals first | (refine zY ?_; refine zF 3 3 true ?_) | refine zU ?_ | refine zNf ?_ | (refine zGf (fun hg => ?_) fun hg => ?_; case' _ => refine zF 3 3 true ?_)
  all_goals first | (refine zY ?_; refine zLd ?_) | refine zU ?_ | refine zNf ?_ | (refine zGf (fun hg => ?_) fun hg => ?_; case' _ => refine zLd ?_)
  all_goals first | (refine zY ?_; refine aops_call_v zRc (rvalidT_con m.t hs) rfl rfl ?_) | refine zU ?_ | refine zNf ?_ | (refine zGf (fun hg => ?_) fun hg => ?_; case' _ => refine aops_call_v zRc (rvalidT_con m.t hs) rfl rfl ?_)
  all_goals first | (refine zY ?_; refine zCm ?_) | refine zU ?_ | refine zNf ?_ | (refine zGf (fun hg => ?_) fun hg => ?_; case' _ => refine zCm ?_)
  all_goals refine zPk ?_
  all_goals refine zMv ?_
  all_goals first | (refine zY ?_; refine zF 17 1 false ?_) | refine zU ?_ | refine zNf ?_ | (refine zGf (fun hg => ?_) fun hg => ?_; case' _ => refine zF 17 1 false ?_)
  all_goals first | (refine zY ?_; refine zL1 ?_) | refine zU ?_ | refine zNf ?_ | (refine zGf (fun hg => ?_) fun hg => ?_; case' _ => refine zL1 ?_)
  all_goals first | (refine zY ?_; refine zP (ap_len_str rfl rfl) ?_) | refine zU ?_ | refine zNf ?_ | (refine zGf (fun hg => ?_) fun hg => ?_; case' _ => refine zP (ap_len_str rfl rfl) ?_)
  all_goals first | (refine zY ?_; refine zCm ?_) | refine zU ?_ | refine zNf ?_ | (refine zGf (fun hg => ?_) fun hg => ?_; case' _ => refine zCm ?_)
  all_goals refine zPk ?_
  all_goals (
    refine zN ?_
    refine zC (fun hc => ?_) fun hc => ?_
    · first
      | (exact absurd hc (by decide))
      | (refine awp_seq ?_
         refine awp_region ?_; refine zAs ?_; refine zN ?_; refine awp_ret ?_; refine seqQ_r ?_
         exact post_ret (.tmp rfl .nil) zKeep ⟨_, rfl, rfl⟩
        )
    · first
      | (exact absurd hc (by decide))
      | (refine awp_skip ?_
         refine seqQ_n ?_; refine awp_seq ?_; refine zS ?_; refine zF 18 1 false ?_; refine zL1 ?_
         first | refine aops_len rfl rfl rfl rfl (fun _ => ?_) | refine zP (ap_len_arr rfl zUpd rfl) ?_ | refine zP (ap_len_nil rfl rfl) ?_
         refine zMv ?_; refine zN ?_; refine awp_block ?_
         refine awp_loop1 [1, 46, 47] [.box b1 _ _] (fun (k : Nat) r => (48, .i (k : Int)) :: r) (fun (k : Nat) r => r) (fun (k : Nat) => k ≤ m.heard.length) (fun (k : Nat) => m.heard.length - k) (0) zRc (by omega) (wk zSub zKeep) ?_
         intro k hk
         refine zS ?_; refine zCm ?_; refine zN ?_; refine awp_seq ?_
         refine zC (fun hc => ?_) fun hc => ?_
         · have hlt := of_decide_eq_true hc
           obtain ⟨x, hx, hd⟩ := drop_cons (l := m.heard) (k := k) (by omega)
           have hx' := getMap ev hx
           obtain ⟨y, hy⟩ := prev_ex x hk
           have hxs := hh x (List.mem_of_getElem? hx)
           refine awp_skip ?_; refine seqQ_n ?_; refine awp_seq ?_; refine awp_block ?_; refine zS ?_; refine zMv ?_
           first | refine zP (ap_index rfl rfl rfl rfl (by decide) rfl zAss) ?_ | refine zP (ap_index rfl rfl rfl rfl (by decide) (by omega) zAss) ?_ | refine zP (ap_index_own rfl rfl rfl rfl rfl (by first | omega | (simp only [List.length_map, List.length_set, avs_len]; omega))) ?_
           refine zLd ?_
           refine aops_alloc rfl zRc rfl rfl (fun b4 => ?_)
           refine zAs ?_; refine zSt ?_; refine zN ?_; refine awp_seq ?_
           refine awp_draw (Hm := []) zKr zSplit ?_
           refine zTM 0 ?_
           refine aany_one 1 zKr rfl (.none rfl) ?_
           refine aops_call_v zRc (rvalid24_con x hxs) rfl rfl ?_
           refine aops_nil ?_
           refine zT 2 rfl (AP.ar (ap_not rfl)) ?_
           refine zT 3 rfl (AP.ar (ap_move rfl)) ?_
           refine aany_guard 3 rfl (fun hg => ?_) (fun hg => ?_)
           rotate_left
           case' _ =>
             refine zTF 4 1 1 false ?_; refine zTL 5 ?_; refine zTF 6 1 1 false ?_; refine zTL 7 ?_
             refine zT 8 rfl (AP.ar (ap_cmp rfl rfl rfl)) ?_
             refine zTp 9 ?_
             refine zT 10 rfl (AP.ar (ap_move rfl)) ?_
             refine aany_guard 10 rfl (fun hg => ?_) (fun hg => ?_)
             rotate_left
             case' _ =>
               refine zTF 11 0 1 false ?_; refine zTL 12 ?_; refine zTF 13 0 1 false ?_; refine zTL 14 ?_
               refine zT 15 rfl (AP.ar (ap_cmp rfl rfl rfl)) ?_
               refine zTp 16 ?_
               refine zT 17 rfl (AP.ar (ap_move rfl)) ?_
               refine aany_guard 17 rfl (fun hg => ?_) (fun hg => ?_)
               rotate_left
               case' _ =>
                 refine zT 18 rfl (AP.ar (ap_move rfl)) ?_
                 refine zT 19 rfl (AP.ar (ap_cmp rfl rfl rfl)) ?_
                 refine zT 20 rfl (AP.ar (ap_move rfl)) ?_
                 refine aany_guard 20 rfl (fun hg => ?_) (fun hg => ?_)
                 rotate_left
                 case' _ =>
                   refine zK 21 ?_; refine zK 22 ?_; refine zK 23 ?_; refine zK 24 ?_; refine zK 25 ?_; refine zK 26 ?_; refine zK 27 ?_; refine zK 28 ?_; refine zK 29 ?_; refine zK 30 ?_; refine zTp 31 ?_; refine zTp 32 ?_; refine aany_nil zKr ?_
                 rotate_right
                 case' _ =>
                   refine zTF 21 18 1 false ?_; refine zTL 22 ?_
                   refine zT 23 rfl (AP.ar (ap_move rfl)) ?_
                   refine zT 24 rfl (AP.ar (ap_arith rfl rfl rfl (by omega))) ?_
                   refine aany_take 25 rfl (.yes rfl rfl zDec) zKr zKr zKr (AP.ar (ap_index (k := k - 1) rfl rfl rfl rfl (by decide) (by have h9 : decide ((k : Int) > 0) = true := (by first | with_reducible assumption | exact hg); have := of_decide_eq_true h9; omega) (getMap ev (hy (by have h9 : decide ((k : Int) > 0) = true := (by first | with_reducible assumption | exact hg); have := of_decide_eq_true h9; omega))))) rfl rfl ?_
                   refine zTF 26 0 1 false ?_; refine zTL 27 ?_; refine zTF 28 0 1 false ?_; refine zTL 29 ?_
                   refine zT 30 rfl (AP.ar (ap_cmp rfl rfl rfl)) ?_
                   refine zTp 31 ?_; refine zTp 32 ?_; refine aany_nil zKr ?_
               rotate_right
               case' _ =>
                 refine zK 18 ?_; refine zK 19 ?_
                 refine aany_skipu 20 rfl (.no rfl rfl (by first | (show _ = true; with_reducible assumption) | exact zDec)) zKr zKr zKr rfl rfl ?_
                 refine zK 21 ?_; refine zK 22 ?_; refine zK 23 ?_; refine zK 24 ?_; refine zK 25 ?_; refine zK 26 ?_; refine zK 27 ?_; refine zK 28 ?_; refine zK 29 ?_; refine zK 30 ?_; refine zK 31 ?_; refine zTp 32 ?_; refine aany_nil zKr ?_
             rotate_right
             case' _ =>
               refine zK 11 ?_; refine zK 12 ?_; refine zK 13 ?_; refine zK 14 ?_; refine zK 15 ?_; refine zTp 16 ?_
               refine zT 17 rfl (AP.ar (ap_move rfl)) ?_
               refine zK 18 ?_; refine zK 19 ?_
               refine aany_skipu 20 rfl (.no rfl rfl (by first | (show _ = true; with_reducible assumption) | exact zDec)) zKr zKr zKr rfl rfl ?_
               refine zK 21 ?_; refine zK 22 ?_; refine zK 23 ?_; refine zK 24 ?_; refine zK 25 ?_; refine zK 26 ?_; refine zK 27 ?_; refine zK 28 ?_; refine zK 29 ?_; refine zK 30 ?_; refine zK 31 ?_; refine zTp 32 ?_; refine aany_nil zKr ?_
           rotate_right
           case' _ =>
             refine zK 4 ?_; refine zK 5 ?_; refine zK 6 ?_; refine zK 7 ?_; refine zK 8 ?_; refine zTp 9 ?_
             refine zT 10 rfl (AP.ar (ap_move rfl)) ?_
             refine zK 11 ?_; refine zK 12 ?_; refine zK 13 ?_; refine zK 14 ?_; refine zK 15 ?_; refine zTp 16 ?_
             refine zT 17 rfl (AP.ar (ap_move rfl)) ?_
             refine zK 18 ?_; refine zK 19 ?_
             refine aany_skipu 20 rfl (.no rfl rfl (by first | (show _ = true; with_reducible assumption) | exact zDec)) zKr zKr zKr rfl rfl ?_
             refine zK 21 ?_; refine zK 22 ?_; refine zK 23 ?_; refine zK 24 ?_; refine zK 25 ?_; refine zK 26 ?_; refine zK 27 ?_; refine zK 28 ?_; refine zK 29 ?_; refine zK 30 ?_; refine zK 31 ?_; refine zTp 32 ?_; refine aany_nil zKr ?_
           all_goals (
             refine seqQ_n ?_
             refine zC (fun hc => ?_) fun hc => ?_
             · first
               | (exact absurd hc (by decide))
               | (refine awp_seq ?_
                  refine awp_region ?_; refine zAs ?_; refine zN ?_; refine awp_ret ?_; refine blockQ_r ?_; refine seqQ_r ?_; refine seqQ_r ?_; refine blockQ_r ?_; refine seqQ_r ?_
                  exact post_ret (.tmp rfl .nil) zKeep ⟨_, rfl, rfl⟩
                 )
             · first
               | (exact absurd hc (by decide))
               | (refine awp_skip ?_
                  refine blockQ_n ?_; refine seqQ_n ?_; refine awp_region ?_; refine zAr ?_; refine zMv ?_; refine zN ?_
                  refine ⟨k + 1, by omega, by omega, wk zSub zKeep⟩
                 )
             )
         · refine awp_exit ?_
           refine seqQ_x ?_; refine seqQ_x ?_; refine blockQ_x rfl ?_; refine seqQ_n ?_; refine awp_seq ?_; refine zS ?_; refine zF 7 2 true ?_; refine zLd ?_
           refine aops_call_v zRc (rz_con m.bal) rfl rfl ?_
           refine zN ?_
           refine zC (fun hc => ?_) fun hc => ?_
           · refine awp_seq ?_
             refine awp_region ?_; refine zF 6 1 false ?_; refine zL1 ?_; refine zCm ?_; refine zMv ?_
             all_goals first | (refine zY ?_; refine zF 2 1 false ?_) | refine zU ?_ | refine zNt ?_ | (refine zGt (fun hg => ?_) fun hg => ?_; case' _ => refine zF 2 1 false ?_)
             all_goals first | (refine zY ?_; refine zL1 ?_) | refine zU ?_ | refine zNt ?_ | (refine zGt (fun hg => ?_) fun hg => ?_; case' _ => refine zL1 ?_)
             all_goals first | (refine zY ?_; refine zCm ?_) | refine zU ?_ | refine zNt ?_ | (refine zGt (fun hg => ?_) fun hg => ?_; case' _ => refine zCm ?_)
             all_goals refine zPk ?_
             all_goals refine zMv ?_
             all_goals first | (refine zY ?_; refine zF 9 2 true ?_) | refine zU ?_ | refine zNt ?_ | (refine zGt (fun hg => ?_) fun hg => ?_; case' _ => refine zF 9 2 true ?_)
             all_goals first | (refine zY ?_; refine zLd ?_) | refine zU ?_ | refine zNt ?_ | (refine zGt (fun hg => ?_) fun hg => ?_; case' _ => refine zLd ?_)
             all_goals first | (refine zY ?_; refine aops_call_v zRc (rz_con m.prep) rfl rfl ?_) | refine zU ?_ | refine zNt ?_ | (refine zGt (fun hg => ?_) fun hg => ?_; case' _ => refine aops_call_v zRc (rz_con m.prep) rfl rfl ?_)
             all_goals refine zPk ?_
             all_goals refine zMv ?_
             all_goals first | (refine zY ?_; refine zF 11 2 true ?_) | refine zU ?_ | refine zNt ?_ | (refine zGt (fun hg => ?_) fun hg => ?_; case' _ => refine zF 11 2 true ?_)
             all_goals first | (refine zY ?_; refine zLd ?_) | refine zU ?_ | refine zNt ?_ | (refine zGt (fun hg => ?_) fun hg => ?_; case' _ => refine zLd ?_)
             all_goals first | (refine zY ?_; refine aops_call_v zRc (rz_con m.prime) rfl rfl ?_) | refine zU ?_ | refine zNt ?_ | (refine zGt (fun hg => ?_) fun hg => ?_; case' _ => refine aops_call_v zRc (rz_con m.prime) rfl rfl ?_)
             all_goals refine zPk ?_
             all_goals refine zMv ?_
             all_goals first | (refine zY ?_; refine zF 13 2 true ?_) | refine zU ?_ | refine zNt ?_ | (refine zGt (fun hg => ?_) fun hg => ?_; case' _ => refine zF 13 2 true ?_)
             all_goals first | (refine zY ?_; refine zLd ?_) | refine zU ?_ | refine zNt ?_ | (refine zGt (fun hg => ?_) fun hg => ?_; case' _ => refine zLd ?_)
             all_goals first | (refine zY ?_; refine aops_call_v zRc (rz_con m.conf) rfl rfl ?_) | refine zU ?_ | refine zNt ?_ | (refine zGt (fun hg => ?_) fun hg => ?_; case' _ => refine aops_call_v zRc (rz_con m.conf) rfl rfl ?_)
             all_goals refine zPk ?_
             all_goals refine zMv ?_
             all_goals first | (refine zY ?_; refine zF 15 1 false ?_) | refine zU ?_ | refine zNt ?_ | (refine zGt (fun hg => ?_) fun hg => ?_; case' _ => refine zF 15 1 false ?_)
             all_goals first | (refine zY ?_; refine zL1 ?_) | refine zU ?_ | refine zNt ?_ | (refine zGt (fun hg => ?_) fun hg => ?_; case' _ => refine zL1 ?_)
             all_goals first | (refine zY ?_; refine zCm ?_) | refine zU ?_ | refine zNt ?_ | (refine zGt (fun hg => ?_) fun hg => ?_; case' _ => refine zCm ?_)
             all_goals refine zPk ?_
             all_goals refine zMv ?_
             all_goals first | (refine zY ?_; refine zF 16 1 false ?_) | refine zU ?_ | refine zNt ?_ | (refine zGt (fun hg => ?_) fun hg => ?_; case' _ => refine zF 16 1 false ?_)
             all_goals first | (refine zY ?_; refine zL1 ?_) | refine zU ?_ | refine zNt ?_ | (refine zGt (fun hg => ?_) fun hg => ?_; case' _ => refine zL1 ?_)
             all_goals first | (refine zY ?_; refine zCm ?_) | refine zU ?_ | refine zNt ?_ | (refine zGt (fun hg => ?_) fun hg => ?_; case' _ => refine zCm ?_)
             all_goals refine zPk ?_
             all_goals refine zAs ?_
             all_goals (
               refine zN ?_; refine awp_ret ?_; refine seqQ_r ?_
               exact post_ret (.tmp rfl .nil) zKeep ⟨_, rfl, rfl⟩
               )
           · refine awp_skip ?_
             refine seqQ_n ?_; refine awp_seq ?_; refine zS ?_; refine zLd ?_
             refine aops_call_v zRc (renv_con m) rfl rfl ?_
             refine aops_call_v zRc (rvalid24_con (envR m) hs) rfl rfl ?_
             refine zNo ?_; refine zN ?_
             refine zC (fun hc => ?_) fun hc => ?_
             · refine awp_seq ?_
               refine awp_region ?_; refine zAs ?_; refine zN ?_; refine awp_ret ?_; refine seqQ_r ?_
               exact post_ret (.tmp rfl .nil) zKeep ⟨_, rfl, rfl⟩
             · refine awp_skip ?_
               refine seqQ_n ?_; refine awp_seq ?_; refine zS ?_; refine zF 6 1 false ?_; refine zL1 ?_; refine zCm ?_; refine zMv ?_
               all_goals first | (refine zY ?_; refine zF 6 1 false ?_) | refine zU ?_ | refine zNt ?_ | (refine zGt (fun hg => ?_) fun hg => ?_; case' _ => refine zF 6 1 false ?_)
               all_goals first | (refine zY ?_; refine zL1 ?_) | refine zU ?_ | refine zNt ?_ | (refine zGt (fun hg => ?_) fun hg => ?_; case' _ => refine zL1 ?_)
               all_goals first | (refine zY ?_; refine zCm ?_) | refine zU ?_ | refine zNt ?_ | (refine zGt (fun hg => ?_) fun hg => ?_; case' _ => refine zCm ?_)
               all_goals refine zPk ?_
               all_goals refine zMv ?_
               all_goals first | (refine zY ?_; refine zF 16 1 false ?_) | refine zU ?_ | refine zNt ?_ | (refine zGt (fun hg => ?_) fun hg => ?_; case' _ => refine zF 16 1 false ?_)
               all_goals first | (refine zY ?_; refine zL1 ?_) | refine zU ?_ | refine zNt ?_ | (refine zGt (fun hg => ?_) fun hg => ?_; case' _ => refine zL1 ?_)
               all_goals first | (refine zY ?_; refine zCm ?_) | refine zU ?_ | refine zNt ?_ | (refine zGt (fun hg => ?_) fun hg => ?_; case' _ => refine zCm ?_)
               all_goals refine zPk ?_
               all_goals (
                 refine zN ?_
                 refine zC (fun hc => ?_) fun hc => ?_
                 · first
                   | (exact absurd hc (by decide))
                   | (refine awp_seq ?_
                      refine awp_region ?_; refine zAs ?_; refine zN ?_; refine awp_ret ?_; refine seqQ_r ?_
                      exact post_ret (.tmp rfl .nil) zKeep ⟨_, rfl, rfl⟩
                     )
                 · first
                   | (exact absurd hc (by decide))
                   | (refine awp_skip ?_
                      refine seqQ_n ?_; refine awp_seq ?_; refine zS ?_; refine zF 6 1 false ?_; refine zL1 ?_; refine zCm ?_; refine zMv ?_
                      all_goals first | (refine zY ?_; refine zF 9 2 true ?_) | refine zU ?_ | refine zNt ?_ | (refine zGt (fun hg => ?_) fun hg => ?_; case' _ => refine zF 9 2 true ?_)
                      all_goals first | (refine zY ?_; refine zLd ?_) | refine zU ?_ | refine zNt ?_ | (refine zGt (fun hg => ?_) fun hg => ?_; case' _ => refine zLd ?_)
                      all_goals first | (refine zY ?_; refine aops_call_v zRc (rz_con m.prep) rfl rfl ?_) | refine zU ?_ | refine zNt ?_ | (refine zGt (fun hg => ?_) fun hg => ?_; case' _ => refine aops_call_v zRc (rz_con m.prep) rfl rfl ?_)
                      all_goals first | (refine zY ?_; refine zNo ?_) | refine zU ?_ | refine zNt ?_ | (refine zGt (fun hg => ?_) fun hg => ?_; case' _ => refine zNo ?_)
                      all_goals first | (refine zY ?_; refine zMv ?_) | refine zU ?_ | refine zNt ?_ | (refine zGt (fun hg => ?_) fun hg => ?_; case' _ => refine zMv ?_)
                      all_goals first | (refine zY ?_; refine zF 11 2 true ?_) | refine zU ?_ | refine zNf ?_ | (refine zGf (fun hg => ?_) fun hg => ?_; case' _ => refine zF 11 2 true ?_)
                      all_goals first | (refine zY ?_; refine zLd ?_) | refine zU ?_ | refine zNf ?_ | (refine zGf (fun hg => ?_) fun hg => ?_; case' _ => refine zLd ?_)
                      all_goals first | (refine zY ?_; refine aops_call_v zRc (rz_con m.prime) rfl rfl ?_) | refine zU ?_ | refine zNf ?_ | (refine zGf (fun hg => ?_) fun hg => ?_; case' _ => refine aops_call_v zRc (rz_con m.prime) rfl rfl ?_)
                      all_goals first | (refine zY ?_; refine zNo ?_) | refine zU ?_ | refine zNf ?_ | (refine zGf (fun hg => ?_) fun hg => ?_; case' _ => refine zNo ?_)
                      all_goals (first | (refine aops_yes rfl rfl rfl rfl zDec ?_; refine zPk ?_) | refine aops_no_u rfl rfl rfl ?_ | refine aops_no_t rfl rfl rfl rfl zDec ?_ | (refine aops_guard_t rfl rfl rfl rfl (fun hg => ?_) (fun hg => ?_); case' _ => refine zPk ?_))
                      all_goals refine zPk ?_
                      all_goals refine zMv ?_
                      all_goals first | (refine zY ?_; refine zF 6 1 false ?_) | refine zU ?_ | refine zNf ?_ | (refine zGf (fun hg => ?_) fun hg => ?_; case' _ => refine zF 6 1 false ?_)
                      all_goals first | (refine zY ?_; refine zL1 ?_) | refine zU ?_ | refine zNf ?_ | (refine zGf (fun hg => ?_) fun hg => ?_; case' _ => refine zL1 ?_)
                      all_goals first | (refine zY ?_; refine zCm ?_) | refine zU ?_ | refine zNf ?_ | (refine zGf (fun hg => ?_) fun hg => ?_; case' _ => refine zCm ?_)
                      all_goals first | (refine zY ?_; refine zMv ?_) | refine zU ?_ | refine zNf ?_ | (refine zGf (fun hg => ?_) fun hg => ?_; case' _ => refine zMv ?_)
                      all_goals first | (refine zY ?_; refine zF 11 2 true ?_) | refine zU ?_ | refine zNt ?_ | (refine zGt (fun hg => ?_) fun hg => ?_; case' _ => refine zF 11 2 true ?_)
                      all_goals first | (refine zY ?_; refine zLd ?_) | refine zU ?_ | refine zNt ?_ | (refine zGt (fun hg => ?_) fun hg => ?_; case' _ => refine zLd ?_)
                      all_goals first | (refine zY ?_; refine aops_call_v zRc (rz_con m.prime) rfl rfl ?_) | refine zU ?_ | refine zNt ?_ | (refine zGt (fun hg => ?_) fun hg => ?_; case' _ => refine aops_call_v zRc (rz_con m.prime) rfl rfl ?_)
                      all_goals first | (refine zY ?_; refine zNo ?_) | refine zU ?_ | refine zNt ?_ | (refine zGt (fun hg => ?_) fun hg => ?_; case' _ => refine zNo ?_)
                      all_goals (first | (refine aops_yes rfl rfl rfl rfl zDec ?_; refine zPk ?_) | refine aops_no_u rfl rfl rfl ?_ | refine aops_no_f rfl rfl rfl rfl zDec ?_ | (refine aops_guard_f rfl rfl rfl rfl (fun hg => ?_) (fun hg => ?_); case' _ => refine zPk ?_))
                      all_goals refine zPk ?_
                      all_goals (
                        refine zN ?_
                        refine zC (fun hc => ?_) fun hc => ?_
                        · first
                          | (exact absurd hc (by decide))
                          | (refine awp_seq ?_
                             refine awp_region ?_; refine zAs ?_; refine zN ?_; refine awp_ret ?_; refine seqQ_r ?_
                             exact post_ret (.tmp rfl .nil) zKeep ⟨_, rfl, rfl⟩
                            )
                        · first
                          | (exact absurd hc (by decide))
                          | (refine awp_skip ?_
                             refine seqQ_n ?_; refine awp_seq ?_; refine zS ?_; refine zF 13 2 true ?_; refine zLd ?_
                             refine aops_call_v zRc (rz_con m.conf) rfl rfl ?_
                             refine zN ?_
                             refine zC (fun hc => ?_) fun hc => ?_
                             · refine awp_seq ?_
                               refine awp_region ?_; refine zAs ?_; refine zN ?_; refine awp_ret ?_; refine seqQ_r ?_
                               exact post_ret (.tmp rfl .nil) zKeep ⟨_, rfl, rfl⟩
                             · refine awp_skip ?_
                               refine seqQ_n ?_; refine awp_seq ?_; refine zS ?_; refine zF 13 2 true ?_; refine zLd ?_
                               refine aops_call_v zRc (rval_con m.conf) rfl rfl ?_
                               refine zNo ?_; refine zMv ?_
                               all_goals first | (refine zY ?_; refine zF 13 2 true ?_) | refine zU ?_ | refine zNf ?_ | (refine zGf (fun hg => ?_) fun hg => ?_; case' _ => refine zF 13 2 true ?_)
                               all_goals first | (refine zY ?_; refine zF 0 1 false ?_) | refine zU ?_ | refine zNf ?_ | (refine zGf (fun hg => ?_) fun hg => ?_; case' _ => refine zF 0 1 false ?_)
                               all_goals first | (refine zY ?_; refine zL1 ?_) | refine zU ?_ | refine zNf ?_ | (refine zGf (fun hg => ?_) fun hg => ?_; case' _ => refine zL1 ?_)
                               all_goals first | (refine zY ?_; refine zCm ?_) | refine zU ?_ | refine zNf ?_ | (refine zGf (fun hg => ?_) fun hg => ?_; case' _ => refine zCm ?_)
                               all_goals refine zPk ?_
                               all_goals (
                                 refine zN ?_
                                 refine zC (fun hc => ?_) fun hc => ?_
                                 · first
                                   | (exact absurd hc (by decide))
                                   | (refine awp_seq ?_
                                      refine awp_region ?_; refine zAs ?_; refine zN ?_; refine awp_ret ?_; refine seqQ_r ?_
                                      exact post_ret (.tmp rfl .nil) zKeep ⟨_, rfl, rfl⟩
                                     )
                                 · first
                                   | (exact absurd hc (by decide))
                                   | (refine awp_skip ?_
                                      refine seqQ_n ?_; refine awp_seq ?_; refine zS ?_; refine zF 6 1 false ?_; refine zL1 ?_; refine zCm ?_; refine zN ?_
                                      refine zC (fun hc => ?_) fun hc => ?_
                                      · refine awp_seq ?_
                                        refine awp_region ?_; refine zF 9 2 true ?_; refine zLd ?_; refine zF 11 2 true ?_; refine zLd ?_; refine zF 13 2 true ?_; refine zLd ?_
                                        refine aops_call_v zRc (rpr_con m.prep m.prime m.conf) rfl rfl ?_
                                        refine zAs ?_; refine zN ?_; refine awp_ret ?_; refine seqQ_r ?_
                                        exact post_ret (.tmp rfl .nil) zKeep ⟨_, rfl, rfl⟩
                                      · refine awp_skip ?_
                                        refine seqQ_n ?_; refine zS ?_; refine zF 13 2 true ?_; refine zLd ?_; refine zF 7 2 true ?_; refine zLd ?_
                                        refine aops_call_v zRc (rcp_con m.conf m.bal) rfl rfl ?_
                                        refine zAs ?_; refine zN ?_; refine awp_ret ?_
                                        exact post_ret (.tmp rfl .nil) zKeep ⟨_, rfl, rfl⟩
                                     )
                                 )
                            )
                        )
                     )
                 )
        )
    )
set_option maxHeartbeats 1000000 in
theorem rahead_con (m : Mach) (hlen : m.heard.length ≤ 40) (hs : sizeT m.t ≤ 200000) (hh : ∀ e ∈ m.heard, sizeT e.t ≤ 200000) (n : Int) : Con Tryz.prog 120 [mcv m, .i n] [] (fun d H => ∃ y : Bool, d = .b y ∧ H = []) := by
  have hcap : capB = 140737488355328 := rfl
  have hmlen : (m.heard.map ev).length = m.heard.length := by simp
  refine con_intro Tryz.func120 rfl Tryz.call120 rfl ?_
  refine zS ?_
  refine aops_box rfl zFlat rfl rfl (fun b2 => ?_)
  refine zAs ?_; refine zN (zS ?_); refine zAs ?_; refine zN ?_; refine awp_seq ?_; refine zS ?_; refine zF 18 1 false ?_; refine zL1 ?_
  first | refine aops_len rfl rfl rfl rfl (fun _ => ?_) | refine zP (ap_len_arr rfl zUpd rfl) ?_ | refine zP (ap_len_nil rfl rfl) ?_
  refine zMv ?_; refine zN ?_; refine awp_block ?_
  refine awp_loop3 [1, 2, 9, 10] [.box b2 _ _] (fun (k : Nat) (v : Value) (q : List Bool) r => (5, .v v) :: (11, .i (k : Int)) :: r) (fun (k : Nat) (v : Value) (q : List Bool) r => .arr v 4 1 (q.map bV) :: r) (fun (k : Nat) (v : Value) (q : List Bool) => k ≤ m.heard.length ∧ q.length = k) (fun (k : Nat) (v : Value) (q : List Bool) => m.heard.length - k) (0) (.slice none 0 0) ([]) zRc ⟨by omega, rfl⟩ ((wk_own 4 1 rfl).trans (wk zSub zKeep)) ?_
  intro k v q ⟨hk, hql⟩
  have hqm : (q.map bV).length = q.length := by simp
  refine zS ?_; refine zCm ?_; refine zN ?_; refine awp_seq ?_
  refine zC (fun hc => ?_) fun hc => ?_
  · have hlt := of_decide_eq_true hc
    obtain ⟨x, hx, hd⟩ := drop_cons (l := m.heard) (k := k) (by omega)
    have hx' := getMap ev hx
    have hxs := hh x (List.mem_of_getElem? hx)
    refine awp_skip ?_; refine seqQ_n ?_; refine awp_seq ?_; refine awp_block ?_; refine zS ?_
    first | refine zP (ap_index rfl rfl rfl rfl (by decide) rfl zAss) ?_ | refine zP (ap_index rfl rfl rfl rfl (by decide) (by omega) zAss) ?_ | refine zP (ap_index_own rfl rfl rfl rfl rfl (by first | omega | (simp only [List.length_map, List.length_set, avs_len]; omega))) ?_
    refine zLd ?_
    refine aops_alloc rfl zRc rfl rfl (fun b7 => ?_)
    refine zSt ?_; refine zN ?_; refine awp_region ?_; refine zMv ?_; refine zLd ?_
    refine aops_call_v zRc (rcount_con x (by omega)) rfl rfl ?_
    refine zMv ?_; refine zCm ?_
    refine aops_lit (e := 4) (sz := 1) (by_ := 1) rfl rfl zRc rfl rfl rfl rfl ?_
    first | refine aops_append (e := 4) (sz := 1) (by_ := 1) rfl zUpd rfl rfl rfl rfl rfl zLen (fun v21 hv21 => ?_) | refine aops_append_nil (e := 4) (sz := 1) (by_ := 1) rfl rfl rfl rfl rfl rfl zLen (fun v21 hv21 => ?_)
    refine zAs ?_; refine aops_nil ?_; refine blockQ_n ?_; refine seqQ_n ?_; refine awp_region ?_; refine zAr ?_; refine zMv ?_; refine zN ?_
    rw [bsn q]
    refine ⟨k + 1, _, q ++ [decide (cntR x > n)], ⟨by omega, by simp; omega⟩, by omega, wk zSub zKeep⟩
  · have hge := of_decide_eq_false hc
    refine awp_freeze v [2,5] zRem zSelC zHeapA ?_
    refine awp_exit ?_; refine seqQ_x ?_; refine seqQ_x ?_; refine blockQ_x rfl ?_; refine seqQ_n ?_; refine awp_seq ?_
    refine awp_draw (Hm := []) zKr zSplit ?_
    refine zTF 0 0 1 false ?_; refine zTL 1 ?_; refine zTF 2 3 3 true ?_; refine zTM 3 ?_; refine zTM 4 ?_; refine zTF 7 0 1 false ?_; refine zTL 8 ?_; refine zTF 9 18 1 false ?_; refine zTL 10 ?_
    refine zT 11 rfl (AP.ar (ap_move rfl)) ?_
    refine aany_one 5 zKr rfl (.none rfl) ?_
    (refine aops_call zRc (rall_con m hlen hs hh) zSplit rfl rfl ?_; rintro _ _ ⟨l, rfl, ⟨hl1, hl2⟩, rfl⟩)
    refine aops_nil ?_
    refine aany_one 6 zKr rfl (.none rfl) ?_
    refine aops_call_v zRc (rview_con m.node m.t l hl2) rfl rfl ?_
    refine aops_nil ?_
    refine aany_one 12 zKr rfl (.none rfl) ?_
    refine aops_call_v zRc (rset_con m.heard q (by omega)) rfl rfl ?_
    refine aops_nil ?_
    refine aany_one 13 zKr rfl (.none rfl) ?_
    refine aops_call_v zRc (rblocks11_con _ _ _) rfl rfl ?_
    refine aops_nil ?_
    refine zT 14 rfl (AP.ar (ap_assign rfl)) ?_
    refine aany_nil zKr ?_
    all_goals (
      refine seqQ_n ?_; refine awp_ret ?_
      exact post_ret (.tmp rfl .nil) zKeep ⟨_, rfl, rfl⟩
      )
theorem envR_high {m : Mach} (h : m.phase = 1) (hc : m.conf.n ≤ 1000) : (envR m).high ≤ 1000 := by
  unfold envR
  simp only [h, if_true]
  split <;> omega
set_option maxHeartbeats 4000000 in
theorem rprepared_con (m : Mach) (hI : InvM m) : Con Tryz.prog 92 [mcv m] [] (fun d H => ∃ m' : Mach, d = mcv m' ∧ StepR m m' ∧ H = []) := by
  have hcap : capB = 140737488355328 := rfl
  have hsz1 := hI.sz
  have hhl := hI.hl
  have hhs : ∀ e ∈ m.heard, sizeT e.t ≤ 200000 := fun e he => by have := (hI.hs e he).1; omega
  have hbn := hI.baln
  have hbn0 := hI.bal.n0
  have hlw := hI.low
  have hhg := hI.high
  have hmlen : (m.heard.map ev).length = m.heard.length := by simp
  refine con_intro Tryz.func92 rfl Tryz.call92 rfl ?_
  refine zS ?_
  refine aops_box rfl zFlat rfl rfl (fun b1 => ?_)
  refine aops_alloc rfl zRc rfl rfl (fun b2 => ?_)
  refine zN ?_; refine awp_seq ?_; refine zS ?_; refine zF 6 1 false ?_; refine zL1 ?_; refine zCm ?_; refine zMv ?_
  all_goals first | (refine zY ?_; refine zF 7 2 true ?_) | refine zU ?_ | refine zNf ?_ | (refine zGf (fun hg => ?_) fun hg => ?_; case' _ => refine zF 7 2 true ?_)
  all_goals first | (refine zY ?_; refine zLd ?_) | refine zU ?_ | refine zNf ?_ | (refine zGf (fun hg => ?_) fun hg => ?_; case' _ => refine zLd ?_)
  all_goals first | (refine zY ?_; refine aops_call_v zRc (rz_con m.bal) rfl rfl ?_) | refine zU ?_ | refine zNf ?_ | (refine zGf (fun hg => ?_) fun hg => ?_; case' _ => refine aops_call_v zRc (rz_con m.bal) rfl rfl ?_)
  all_goals refine zPk ?_
  all_goals (
    refine zN ?_
    refine zC (fun hc => ?_) fun hc => ?_
    · first
      | (exact absurd hc (by decide))
      | (refine awp_seq ?_
         refine awp_region ?_; refine zLd ?_; refine zSt ?_; refine zN ?_; refine awp_ret ?_; refine seqQ_r ?_
         exact post_ret (.cell rfl zUpd rfl rfl .nil) zKeep ⟨m, rfl, StepR.refl hI, rfl⟩
        )
    · first
      | (exact absurd hc (by decide))
      | (have hp3 : ¬ m.phase = 3 := of_decide_eq_false (by first | with_reducible assumption | exact hg)
         refine awp_skip ?_; refine seqQ_n ?_; refine zS ?_; refine zAs ?_; refine zN ?_; refine awp_seq ?_; refine zS ?_; refine zF 6 1 false ?_; refine zL1 ?_; refine zCm ?_; refine zN ?_
         refine zC (fun hc => ?_) fun hc => ?_
         · have hp2 : m.phase = 2 := of_decide_eq_true hc
           refine awp_region ?_; refine zF 7 2 true ?_; refine zF 1 1 false ?_; refine zL1 ?_; refine zAs ?_; refine zN ?_; refine awp_seq ?_
           refine awp_draw (Hm := []) zKr zSplit ?_
           refine zTF 0 0 1 false ?_; refine zTL 1 ?_; refine zTF 2 3 3 true ?_; refine zTM 3 ?_; refine zTM 4 ?_; refine zTF 6 9 2 true ?_; refine zTM 7 ?_; refine zTF 8 11 2 true ?_; refine zTM 9 ?_
           refine zT 10 rfl (AP.ar (ap_move rfl)) ?_
           refine aany_each2 5 13 zKr rfl (.none rfl) ?_ rfl (.none rfl) ?_
           rotate_left
           case' _ =>
             refine aops_alloc rfl zRc rfl rfl (fun b4 => ?_)
             refine aops_nil ?_
             refine aany_one 5 zKr rfl (.none rfl) ?_
             (refine aops_call zRc (rall_con m (by omega) (by omega) hhs) zSplit rfl rfl ?_; rintro _ _ ⟨l, rfl, ⟨hl1, hl2⟩, rfl⟩)
             refine aops_nil ?_
             refine aany_one 11 zKr rfl (.none rfl) ?_
             (refine aops_call zRc (rnext_con m.node m.t l (by omega) hl2 m.prep m.prime _) zSplit rfl rfl ?_; rintro _ _ ⟨nb, rfl, hnb, rfl⟩)
             refine aops_nil ?_
             refine aany_one 12 zKr rfl (.none rfl) ?_
             (refine aops_call zRc (rfinite_con nb hnb) zSplit rfl rfl ?_; rintro _ _ ⟨fb, rfl, hfb, rfl⟩; have hjr := joinV_rank hI.prep hI.prime hfb)
             refine aops_nil ?_
             refine aany_one 14 zKr rfl (.none rfl) ?_
             refine zSt ?_; refine aops_nil ?_; refine aany_nil zKr ?_
           rotate_right
           case' _ =>
             (refine aops_call zRc (rall_con m (by omega) (by omega) hhs) zSplit rfl rfl ?_; rintro _ _ ⟨l, rfl, ⟨hl1, hl2⟩, rfl⟩)
             refine aops_nil ?_
             refine aany_each2 11 13 zKr rfl (.none rfl) ?_ rfl (.none rfl) ?_
             rotate_left
             case' _ =>
               refine aops_alloc rfl zRc rfl rfl (fun b4 => ?_)
               refine aops_nil ?_
               refine aany_one 11 zKr rfl (.none rfl) ?_
               (refine aops_call zRc (rnext_con m.node m.t l (by omega) hl2 m.prep m.prime _) zSplit rfl rfl ?_; rintro _ _ ⟨nb, rfl, hnb, rfl⟩)
               refine aops_nil ?_
               refine aany_one 12 zKr rfl (.none rfl) ?_
               (refine aops_call zRc (rfinite_con nb hnb) zSplit rfl rfl ?_; rintro _ _ ⟨fb, rfl, hfb, rfl⟩; have hjr := joinV_rank hI.prep hI.prime hfb)
               refine aops_nil ?_
               refine aany_one 14 zKr rfl (.none rfl) ?_
               refine zSt ?_; refine aops_nil ?_; refine aany_nil zKr ?_
             rotate_right
             case' _ =>
               (refine aops_call zRc (rnext_con m.node m.t l (by omega) hl2 m.prep m.prime _) zSplit rfl rfl ?_; rintro _ _ ⟨nb, rfl, hnb, rfl⟩)
               refine aops_nil ?_
               refine aany_each2 12 13 zKr rfl (.none rfl) ?_ rfl (.none rfl) ?_
               rotate_left
               case' _ =>
                 refine aops_alloc rfl zRc rfl rfl (fun b4 => ?_)
                 refine aops_nil ?_
                 refine aany_one 12 zKr rfl (.none rfl) ?_
                 (refine aops_call zRc (rfinite_con nb hnb) zSplit rfl rfl ?_; rintro _ _ ⟨fb, rfl, hfb, rfl⟩; have hjr := joinV_rank hI.prep hI.prime hfb)
                 refine aops_nil ?_
                 refine aany_one 14 zKr rfl (.none rfl) ?_
                 refine zSt ?_; refine aops_nil ?_; refine aany_nil zKr ?_
               rotate_right
               case' _ =>
                 (refine aops_call zRc (rfinite_con nb hnb) zSplit rfl rfl ?_; rintro _ _ ⟨fb, rfl, hfb, rfl⟩; have hjr := joinV_rank hI.prep hI.prime hfb)
                 refine aops_nil ?_
                 refine aany_one 13 zKr rfl (.none rfl) ?_
                 refine aops_alloc rfl zRc rfl rfl (fun b4 => ?_)
                 refine aops_nil ?_
                 refine aany_one 14 zKr rfl (.none rfl) ?_
                 refine zSt ?_; refine aops_nil ?_; refine aany_nil zKr ?_
           all_goals (
             refine seqQ_n ?_; refine zS ?_; refine zF 9 2 true ?_; refine zLd ?_; refine zF 11 2 true ?_; refine zLd ?_; refine zLd ?_
             refine aops_call_v zRc (rjoin_con m.prep m.prime fb) rfl rfl ?_
             refine zMv ?_
             refine zP (ap_extract rfl rfl) ?_
             refine zP (ap_extract rfl rfl) ?_
             refine zF 9 2 true ?_; refine zSt ?_; refine zF 11 2 true ?_; refine zSt ?_; refine zN ?_; refine awp_seq ?_; refine zS ?_; refine zF 6 1 false ?_; refine zL1 ?_; refine zCm ?_; refine zMv ?_
             all_goals first | (refine zY ?_; refine zF 15 1 false ?_) | refine zU ?_ | refine zNt ?_ | (refine zGt (fun hg => ?_) fun hg => ?_; case' _ => refine zF 15 1 false ?_)
             all_goals first | (refine zY ?_; refine zL1 ?_) | refine zU ?_ | refine zNt ?_ | (refine zGt (fun hg => ?_) fun hg => ?_; case' _ => refine zL1 ?_)
             all_goals first | (refine zY ?_; refine zCm ?_) | refine zU ?_ | refine zNt ?_ | (refine zGt (fun hg => ?_) fun hg => ?_; case' _ => refine zCm ?_)
             all_goals refine zPk ?_
             all_goals (
               refine zN ?_
               refine zC (fun hc => ?_) fun hc => ?_
               · first
                 | (exact absurd hc (by decide))
                 | (have hph : m.phase = 1 := by first | exact hp1 | exact of_decide_eq_true (by first | with_reducible assumption | exact hg)
                    have hl0 : ¬ m.low = 0 := of_neq_true hc
                    have mk52t : True := trivial
                    have hhi := envR_high (m := { m with prep := (joinV m.prep m.prime fb).1, prime := (joinV m.prep m.prime fb).2 }) hph hI.confn
                    refine zS ?_; refine zLd ?_
                    refine aops_call_v zRc (renv_con { m with prep := (joinV m.prep m.prime fb).1, prime := (joinV m.prep m.prime fb).2 }) rfl rfl ?_
                    refine zP (ap_field (off := 14) (sz := 1) rfl rfl zRc) ?_
                    refine zAs ?_; refine zN (zS ?_); refine zF 7 2 true ?_; refine zF 1 1 false ?_; refine zL1 ?_; refine zF 15 1 false ?_; refine zL1 ?_; refine zF 9 2 true ?_; refine zLd ?_; refine zF 11 2 true ?_; refine zLd ?_
                    (refine aops_call zRc (rlow_con m.bal.v m.low (joinV m.prep m.prime fb).1 (joinV m.prep m.prime fb).2 hjr.1 hjr.2.1 (by omega)) zSplit rfl rfl ?_; rintro _ _ ⟨r, rfl, hr, rfl⟩)
                    refine zF 15 1 false ?_; refine zSt ?_; refine zN (zS ?_); refine zF 15 1 false ?_; refine zL1 ?_; refine zMv ?_; refine zCm ?_; refine zN ?_
                    refine zC (fun hc => ?_) fun hc => ?_
                    · have mk70t : True := trivial
                      refine awp_region ?_; refine zF 15 1 false ?_; refine zSt ?_; refine zN (zS ?_); refine zLd ?_; refine zSt ?_; refine zN ?_; refine awp_ret ?_
                      first
                      | (have := mk70t; exact post_ret (.cell rfl zUpd rfl rfl .nil) zKeep ⟨{ m with prep := (joinV m.prep m.prime fb).1, prime := (joinV m.prep m.prime fb).2, low := 0 }, rfl, stepR_prep1 hI hfb hph (by omega) (.inr (lowm_zero hl0 hI.low)), rfl⟩)
                      | (have := mk70f; exact post_ret (.cell rfl zUpd rfl rfl .nil) zKeep ⟨{ m with prep := (joinV m.prep m.prime fb).1, prime := (joinV m.prep m.prime fb).2, low := r }, rfl, stepR_prep1 hI hfb hph (by omega) (lowm_up hl0 hI.low (by omega) (by omega)), rfl⟩)
                      | (have h9 : m.phase = 2 := hp2; exact post_ret (.cell rfl zUpd rfl rfl .nil) zKeep ⟨{ m with prep := (joinV m.prep m.prime fb).1, prime := (joinV m.prep m.prime fb).2 }, rfl, stepR_prep2 hI hfb hp2, rfl⟩)
                      | (exact post_ret (.cell rfl zUpd rfl rfl .nil) zKeep ⟨{ m with prep := (joinV m.prep m.prime fb).1, prime := (joinV m.prep m.prime fb).2, low := m.low }, rfl, stepR_prep1 hI hfb hp1 hI.low (.inl rfl), rfl⟩)
                    · have mk70f : True := trivial
                      have hrh := of_decide_eq_false hc
                      refine awp_skip ?_; refine seqQ_n ?_; refine zS ?_; refine zLd ?_; refine zSt ?_; refine zN ?_; refine awp_ret ?_
                      first
                      | (have := mk70t; exact post_ret (.cell rfl zUpd rfl rfl .nil) zKeep ⟨{ m with prep := (joinV m.prep m.prime fb).1, prime := (joinV m.prep m.prime fb).2, low := 0 }, rfl, stepR_prep1 hI hfb hph (by omega) (.inr (lowm_zero hl0 hI.low)), rfl⟩)
                      | (have := mk70f; exact post_ret (.cell rfl zUpd rfl rfl .nil) zKeep ⟨{ m with prep := (joinV m.prep m.prime fb).1, prime := (joinV m.prep m.prime fb).2, low := r }, rfl, stepR_prep1 hI hfb hph (by omega) (lowm_up hl0 hI.low (by omega) (by omega)), rfl⟩)
                      | (have h9 : m.phase = 2 := hp2; exact post_ret (.cell rfl zUpd rfl rfl .nil) zKeep ⟨{ m with prep := (joinV m.prep m.prime fb).1, prime := (joinV m.prep m.prime fb).2 }, rfl, stepR_prep2 hI hfb hp2, rfl⟩)
                      | (exact post_ret (.cell rfl zUpd rfl rfl .nil) zKeep ⟨{ m with prep := (joinV m.prep m.prime fb).1, prime := (joinV m.prep m.prime fb).2, low := m.low }, rfl, stepR_prep1 hI hfb hp1 hI.low (.inl rfl), rfl⟩)
                   )
               · first
                 | (exact absurd hc (by decide))
                 | (have mk52f : True := trivial
                    refine awp_skip ?_; refine seqQ_n ?_; refine zS ?_; refine zLd ?_; refine zSt ?_; refine zN ?_; refine awp_ret ?_
                    first
                    | (have := mk70t; exact post_ret (.cell rfl zUpd rfl rfl .nil) zKeep ⟨{ m with prep := (joinV m.prep m.prime fb).1, prime := (joinV m.prep m.prime fb).2, low := 0 }, rfl, stepR_prep1 hI hfb hph (by omega) (.inr (lowm_zero hl0 hI.low)), rfl⟩)
                    | (have := mk70f; exact post_ret (.cell rfl zUpd rfl rfl .nil) zKeep ⟨{ m with prep := (joinV m.prep m.prime fb).1, prime := (joinV m.prep m.prime fb).2, low := r }, rfl, stepR_prep1 hI hfb hph (by omega) (lowm_up hl0 hI.low (by omega) (by omega)), rfl⟩)
                    | (have h9 : m.phase = 2 := hp2; exact post_ret (.cell rfl zUpd rfl rfl .nil) zKeep ⟨{ m with prep := (joinV m.prep m.prime fb).1, prime := (joinV m.prep m.prime fb).2 }, rfl, stepR_prep2 hI hfb hp2, rfl⟩)
                    | (exact post_ret (.cell rfl zUpd rfl rfl .nil) zKeep ⟨{ m with prep := (joinV m.prep m.prime fb).1, prime := (joinV m.prep m.prime fb).2, low := m.low }, rfl, stepR_prep1 hI hfb hp1 hI.low (.inl rfl), rfl⟩)
                   )
               )
             )
         · have hp2 : ¬ m.phase = 2 := of_decide_eq_false hc
           have hp1 : m.phase = 1 := by have := hI.ph; omega
           refine awp_skip ?_; refine seqQ_n ?_; refine awp_seq ?_
           refine awp_draw (Hm := []) zKr zSplit ?_
           refine zTF 0 0 1 false ?_; refine zTL 1 ?_; refine zTF 2 3 3 true ?_; refine zTM 3 ?_; refine zTM 4 ?_; refine zTF 6 9 2 true ?_; refine zTM 7 ?_; refine zTF 8 11 2 true ?_; refine zTM 9 ?_
           refine zT 10 rfl (AP.ar (ap_move rfl)) ?_
           refine aany_each2 5 13 zKr rfl (.none rfl) ?_ rfl (.none rfl) ?_
           rotate_left
           case' _ =>
             refine aops_alloc rfl zRc rfl rfl (fun b4 => ?_)
             refine aops_nil ?_
             refine aany_one 5 zKr rfl (.none rfl) ?_
             (refine aops_call zRc (rall_con m (by omega) (by omega) hhs) zSplit rfl rfl ?_; rintro _ _ ⟨l, rfl, ⟨hl1, hl2⟩, rfl⟩)
             refine aops_nil ?_
             refine aany_one 11 zKr rfl (.none rfl) ?_
             (refine aops_call zRc (rnext_con m.node m.t l (by omega) hl2 m.prep m.prime _) zSplit rfl rfl ?_; rintro _ _ ⟨nb, rfl, hnb, rfl⟩)
             refine aops_nil ?_
             refine aany_one 12 zKr rfl (.none rfl) ?_
             (refine aops_call zRc (rfinite_con nb hnb) zSplit rfl rfl ?_; rintro _ _ ⟨fb, rfl, hfb, rfl⟩; have hjr := joinV_rank hI.prep hI.prime hfb)
             refine aops_nil ?_
             refine aany_one 14 zKr rfl (.none rfl) ?_
             refine zSt ?_; refine aops_nil ?_; refine aany_nil zKr ?_
           rotate_right
           case' _ =>
             (refine aops_call zRc (rall_con m (by omega) (by omega) hhs) zSplit rfl rfl ?_; rintro _ _ ⟨l, rfl, ⟨hl1, hl2⟩, rfl⟩)
             refine aops_nil ?_
             refine aany_each2 11 13 zKr rfl (.none rfl) ?_ rfl (.none rfl) ?_
             rotate_left
             case' _ =>
               refine aops_alloc rfl zRc rfl rfl (fun b4 => ?_)
               refine aops_nil ?_
               refine aany_one 11 zKr rfl (.none rfl) ?_
               (refine aops_call zRc (rnext_con m.node m.t l (by omega) hl2 m.prep m.prime _) zSplit rfl rfl ?_; rintro _ _ ⟨nb, rfl, hnb, rfl⟩)
               refine aops_nil ?_
               refine aany_one 12 zKr rfl (.none rfl) ?_
               (refine aops_call zRc (rfinite_con nb hnb) zSplit rfl rfl ?_; rintro _ _ ⟨fb, rfl, hfb, rfl⟩; have hjr := joinV_rank hI.prep hI.prime hfb)
               refine aops_nil ?_
               refine aany_one 14 zKr rfl (.none rfl) ?_
               refine zSt ?_; refine aops_nil ?_; refine aany_nil zKr ?_
             rotate_right
             case' _ =>
               (refine aops_call zRc (rnext_con m.node m.t l (by omega) hl2 m.prep m.prime _) zSplit rfl rfl ?_; rintro _ _ ⟨nb, rfl, hnb, rfl⟩)
               refine aops_nil ?_
               refine aany_each2 12 13 zKr rfl (.none rfl) ?_ rfl (.none rfl) ?_
               rotate_left
               case' _ =>
                 refine aops_alloc rfl zRc rfl rfl (fun b4 => ?_)
                 refine aops_nil ?_
                 refine aany_one 12 zKr rfl (.none rfl) ?_
                 (refine aops_call zRc (rfinite_con nb hnb) zSplit rfl rfl ?_; rintro _ _ ⟨fb, rfl, hfb, rfl⟩; have hjr := joinV_rank hI.prep hI.prime hfb)
                 refine aops_nil ?_
                 refine aany_one 14 zKr rfl (.none rfl) ?_
                 refine zSt ?_; refine aops_nil ?_; refine aany_nil zKr ?_
               rotate_right
               case' _ =>
                 (refine aops_call zRc (rfinite_con nb hnb) zSplit rfl rfl ?_; rintro _ _ ⟨fb, rfl, hfb, rfl⟩; have hjr := joinV_rank hI.prep hI.prime hfb)
                 refine aops_nil ?_
                 refine aany_one 13 zKr rfl (.none rfl) ?_
                 refine aops_alloc rfl zRc rfl rfl (fun b4 => ?_)
                 refine aops_nil ?_
                 refine aany_one 14 zKr rfl (.none rfl) ?_
                 refine zSt ?_; refine aops_nil ?_; refine aany_nil zKr ?_
           all_goals (
             refine seqQ_n ?_; refine zS ?_; refine zF 9 2 true ?_; refine zLd ?_; refine zF 11 2 true ?_; refine zLd ?_; refine zLd ?_
             refine aops_call_v zRc (rjoin_con m.prep m.prime fb) rfl rfl ?_
             refine zMv ?_
             refine zP (ap_extract rfl rfl) ?_
             refine zP (ap_extract rfl rfl) ?_
             refine zF 9 2 true ?_; refine zSt ?_; refine zF 11 2 true ?_; refine zSt ?_; refine zN ?_; refine awp_seq ?_; refine zS ?_; refine zF 6 1 false ?_; refine zL1 ?_; refine zCm ?_; refine zMv ?_
             all_goals first | (refine zY ?_; refine zF 15 1 false ?_) | refine zU ?_ | refine zNt ?_ | (refine zGt (fun hg => ?_) fun hg => ?_; case' _ => refine zF 15 1 false ?_)
             all_goals first | (refine zY ?_; refine zL1 ?_) | refine zU ?_ | refine zNt ?_ | (refine zGt (fun hg => ?_) fun hg => ?_; case' _ => refine zL1 ?_)
             all_goals first | (refine zY ?_; refine zCm ?_) | refine zU ?_ | refine zNt ?_ | (refine zGt (fun hg => ?_) fun hg => ?_; case' _ => refine zCm ?_)
             all_goals refine zPk ?_
             all_goals (
               refine zN ?_
               refine zC (fun hc => ?_) fun hc => ?_
               · first
                 | (exact absurd hc (by decide))
                 | (have hph : m.phase = 1 := by first | exact hp1 | exact of_decide_eq_true (by first | with_reducible assumption | exact hg)
                    have hl0 : ¬ m.low = 0 := of_neq_true hc
                    have mk52t : True := trivial
                    have hhi := envR_high (m := { m with prep := (joinV m.prep m.prime fb).1, prime := (joinV m.prep m.prime fb).2 }) hph hI.confn
                    refine zS ?_; refine zLd ?_
                    refine aops_call_v zRc (renv_con { m with prep := (joinV m.prep m.prime fb).1, prime := (joinV m.prep m.prime fb).2 }) rfl rfl ?_
                    refine zP (ap_field (off := 14) (sz := 1) rfl rfl zRc) ?_
                    refine zAs ?_; refine zN (zS ?_); refine zF 7 2 true ?_; refine zF 1 1 false ?_; refine zL1 ?_; refine zF 15 1 false ?_; refine zL1 ?_; refine zF 9 2 true ?_; refine zLd ?_; refine zF 11 2 true ?_; refine zLd ?_
                    (refine aops_call zRc (rlow_con m.bal.v m.low (joinV m.prep m.prime fb).1 (joinV m.prep m.prime fb).2 hjr.1 hjr.2.1 (by omega)) zSplit rfl rfl ?_; rintro _ _ ⟨r, rfl, hr, rfl⟩)
                    refine zF 15 1 false ?_; refine zSt ?_; refine zN (zS ?_); refine zF 15 1 false ?_; refine zL1 ?_; refine zMv ?_; refine zCm ?_; refine zN ?_
                    refine zC (fun hc => ?_) fun hc => ?_
                    · have mk70t : True := trivial
                      refine awp_region ?_; refine zF 15 1 false ?_; refine zSt ?_; refine zN (zS ?_); refine zLd ?_; refine zSt ?_; refine zN ?_; refine awp_ret ?_
                      first
                      | (have := mk70t; exact post_ret (.cell rfl zUpd rfl rfl .nil) zKeep ⟨{ m with prep := (joinV m.prep m.prime fb).1, prime := (joinV m.prep m.prime fb).2, low := 0 }, rfl, stepR_prep1 hI hfb hph (by omega) (.inr (lowm_zero hl0 hI.low)), rfl⟩)
                      | (have := mk70f; exact post_ret (.cell rfl zUpd rfl rfl .nil) zKeep ⟨{ m with prep := (joinV m.prep m.prime fb).1, prime := (joinV m.prep m.prime fb).2, low := r }, rfl, stepR_prep1 hI hfb hph (by omega) (lowm_up hl0 hI.low (by omega) (by omega)), rfl⟩)
                      | (have h9 : m.phase = 2 := hp2; exact post_ret (.cell rfl zUpd rfl rfl .nil) zKeep ⟨{ m with prep := (joinV m.prep m.prime fb).1, prime := (joinV m.prep m.prime fb).2 }, rfl, stepR_prep2 hI hfb hp2, rfl⟩)
                      | (exact post_ret (.cell rfl zUpd rfl rfl .nil) zKeep ⟨{ m with prep := (joinV m.prep m.prime fb).1, prime := (joinV m.prep m.prime fb).2, low := m.low }, rfl, stepR_prep1 hI hfb hp1 hI.low (.inl rfl), rfl⟩)
                    · have mk70f : True := trivial
                      have hrh := of_decide_eq_false hc
                      refine awp_skip ?_; refine seqQ_n ?_; refine zS ?_; refine zLd ?_; refine zSt ?_; refine zN ?_; refine awp_ret ?_
                      first
                      | (have := mk70t; exact post_ret (.cell rfl zUpd rfl rfl .nil) zKeep ⟨{ m with prep := (joinV m.prep m.prime fb).1, prime := (joinV m.prep m.prime fb).2, low := 0 }, rfl, stepR_prep1 hI hfb hph (by omega) (.inr (lowm_zero hl0 hI.low)), rfl⟩)
                      | (have := mk70f; exact post_ret (.cell rfl zUpd rfl rfl .nil) zKeep ⟨{ m with prep := (joinV m.prep m.prime fb).1, prime := (joinV m.prep m.prime fb).2, low := r }, rfl, stepR_prep1 hI hfb hph (by omega) (lowm_up hl0 hI.low (by omega) (by omega)), rfl⟩)
                      | (have h9 : m.phase = 2 := hp2; exact post_ret (.cell rfl zUpd rfl rfl .nil) zKeep ⟨{ m with prep := (joinV m.prep m.prime fb).1, prime := (joinV m.prep m.prime fb).2 }, rfl, stepR_prep2 hI hfb hp2, rfl⟩)
                      | (exact post_ret (.cell rfl zUpd rfl rfl .nil) zKeep ⟨{ m with prep := (joinV m.prep m.prime fb).1, prime := (joinV m.prep m.prime fb).2, low := m.low }, rfl, stepR_prep1 hI hfb hp1 hI.low (.inl rfl), rfl⟩)
                   )
               · first
                 | (exact absurd hc (by decide))
                 | (have mk52f : True := trivial
                    refine awp_skip ?_; refine seqQ_n ?_; refine zS ?_; refine zLd ?_; refine zSt ?_; refine zN ?_; refine awp_ret ?_
                    first
                    | (have := mk70t; exact post_ret (.cell rfl zUpd rfl rfl .nil) zKeep ⟨{ m with prep := (joinV m.prep m.prime fb).1, prime := (joinV m.prep m.prime fb).2, low := 0 }, rfl, stepR_prep1 hI hfb hph (by omega) (.inr (lowm_zero hl0 hI.low)), rfl⟩)
                    | (have := mk70f; exact post_ret (.cell rfl zUpd rfl rfl .nil) zKeep ⟨{ m with prep := (joinV m.prep m.prime fb).1, prime := (joinV m.prep m.prime fb).2, low := r }, rfl, stepR_prep1 hI hfb hph (by omega) (lowm_up hl0 hI.low (by omega) (by omega)), rfl⟩)
                    | (have h9 : m.phase = 2 := hp2; exact post_ret (.cell rfl zUpd rfl rfl .nil) zKeep ⟨{ m with prep := (joinV m.prep m.prime fb).1, prime := (joinV m.prep m.prime fb).2 }, rfl, stepR_prep2 hI hfb hp2, rfl⟩)
                    | (exact post_ret (.cell rfl zUpd rfl rfl .nil) zKeep ⟨{ m with prep := (joinV m.prep m.prime fb).1, prime := (joinV m.prep m.prime fb).2, low := m.low }, rfl, stepR_prep1 hI hfb hp1 hI.low (.inl rfl), rfl⟩)
                   )
               )
             )
        )
    )
set_option maxHeartbeats 4000000 in
theorem rconfirmed_con (m : Mach) (hI : InvM m) : Con Tryz.prog 94 [mcv m] [] (fun d H => ∃ m' : Mach, d = mcv m' ∧ StepR m m' ∧ H = []) := by
  have hcap : capB = 140737488355328 := rfl
  have hsz1 := hI.sz
  have hhl := hI.hl
  have hhs : ∀ e ∈ m.heard, sizeT e.t ≤ 200000 := fun e he => by have := (hI.hs e he).1; omega
  have hbn := hI.baln
  have hbn0 := hI.bal.n0
  have hlw := hI.low
  have hhg := hI.high
  have hmlen : (m.heard.map ev).length = m.heard.length := by simp
  refine con_intro Tryz.func94 rfl Tryz.call94 rfl ?_
  refine zS ?_
  refine aops_box rfl zFlat rfl rfl (fun b1 => ?_)
  refine aops_alloc rfl zRc rfl rfl (fun b2 => ?_)
  refine zN ?_; refine awp_seq ?_; refine zS ?_; refine zF 6 1 false ?_; refine zL1 ?_; refine zCm ?_; refine zMv ?_
  all_goals first | (refine zY ?_; refine zF 7 2 true ?_) | refine zU ?_ | refine zNf ?_ | (refine zGf (fun hg => ?_) fun hg => ?_; case' _ => refine zF 7 2 true ?_)
  all_goals first | (refine zY ?_; refine zLd ?_) | refine zU ?_ | refine zNf ?_ | (refine zGf (fun hg => ?_) fun hg => ?_; case' _ => refine zLd ?_)
  all_goals first | (refine zY ?_; refine aops_call_v zRc (rz_con m.bal) rfl rfl ?_) | refine zU ?_ | refine zNf ?_ | (refine zGf (fun hg => ?_) fun hg => ?_; case' _ => refine aops_call_v zRc (rz_con m.bal) rfl rfl ?_)
  all_goals refine zPk ?_
  all_goals (
    refine zN ?_
    refine zC (fun hc => ?_) fun hc => ?_
    · first
      | (exact absurd hc (by decide))
      | (refine awp_seq ?_
         refine awp_region ?_; refine zLd ?_; refine zSt ?_; refine zN ?_; refine awp_ret ?_; refine seqQ_r ?_
         exact post_ret (.cell rfl zUpd rfl rfl .nil) zKeep ⟨m, rfl, StepR.refl hI, rfl⟩
        )
    · first
      | (exact absurd hc (by decide))
      | (have hp1 : m.phase = 1 := of_neq_false (by first | with_reducible assumption | exact hg)
         refine awp_skip ?_; refine seqQ_n ?_; refine awp_seq ?_
         refine awp_draw (Hm := []) zKr zSplit ?_
         refine zTF 0 0 1 false ?_; refine zTL 1 ?_; refine zTF 2 3 3 true ?_; refine zTM 3 ?_; refine zTM 4 ?_; refine zTF 6 13 2 true ?_; refine zTM 7 ?_
         refine aany_each2 5 9 zKr rfl (.none rfl) ?_ rfl (.none rfl) ?_
         rotate_left
         case' _ =>
           refine aops_alloc rfl zRc rfl rfl (fun b3 => ?_)
           refine aops_nil ?_
           refine aany_one 5 zKr rfl (.none rfl) ?_
           (refine aops_call zRc (rall_con m (by omega) (by omega) hhs) zSplit rfl rfl ?_; rintro _ _ ⟨l, rfl, ⟨hl1, hl2⟩, rfl⟩)
           refine aops_nil ?_
           refine aany_one 8 zKr rfl (.none rfl) ?_
           (refine aops_call zRc (rhigh_con m.node m.t l (by omega) hl2 m.conf) zSplit rfl rfl ?_; rintro _ _ ⟨b, rfl, hb, rfl⟩)
           refine aops_nil ?_
           refine aany_one 10 zKr rfl (.none rfl) ?_
           refine zSt ?_; refine aops_nil ?_; refine aany_nil zKr ?_
         rotate_right
         case' _ =>
           (refine aops_call zRc (rall_con m (by omega) (by omega) hhs) zSplit rfl rfl ?_; rintro _ _ ⟨l, rfl, ⟨hl1, hl2⟩, rfl⟩)
           refine aops_nil ?_
           refine aany_each2 8 9 zKr rfl (.none rfl) ?_ rfl (.none rfl) ?_
           rotate_left
           case' _ =>
             refine aops_alloc rfl zRc rfl rfl (fun b3 => ?_)
             refine aops_nil ?_
             refine aany_one 8 zKr rfl (.none rfl) ?_
             (refine aops_call zRc (rhigh_con m.node m.t l (by omega) hl2 m.conf) zSplit rfl rfl ?_; rintro _ _ ⟨b, rfl, hb, rfl⟩)
             refine aops_nil ?_
             refine aany_one 10 zKr rfl (.none rfl) ?_
             refine zSt ?_; refine aops_nil ?_; refine aany_nil zKr ?_
           rotate_right
           case' _ =>
             (refine aops_call zRc (rhigh_con m.node m.t l (by omega) hl2 m.conf) zSplit rfl rfl ?_; rintro _ _ ⟨b, rfl, hb, rfl⟩)
             refine aops_nil ?_
             refine aany_one 9 zKr rfl (.none rfl) ?_
             refine aops_alloc rfl zRc rfl rfl (fun b3 => ?_)
             refine aops_nil ?_
             refine aany_one 10 zKr rfl (.none rfl) ?_
             refine zSt ?_; refine aops_nil ?_; refine aany_nil zKr ?_
         all_goals (
           refine seqQ_n ?_; refine awp_seq ?_; refine zS ?_; refine zLd ?_
           refine aops_call_v zRc (rz_con b) rfl rfl ?_
           refine zN ?_
           refine zC (fun hc => ?_) fun hc => ?_
           · refine awp_seq ?_
             refine awp_region ?_; refine zLd ?_; refine zSt ?_; refine zN ?_; refine awp_ret ?_; refine seqQ_r ?_
             exact post_ret (.cell rfl zUpd rfl rfl .nil) zKeep ⟨m, rfl, StepR.refl hI, rfl⟩
           · have hb9 : BB b ∧ b.n ≤ 1000 ∧ lB m.conf b = true ∧ zB b = false := by rcases hb with rfl | hb; exact absurd hc (by decide); exact hb
             have hb92 := hb9.2.1
             refine awp_skip ?_; refine seqQ_n ?_; refine zS ?_; refine zLd ?_; refine zF 13 2 true ?_; refine zSt ?_; refine zN ?_; refine awp_seq ?_; refine zS ?_; refine zF 7 2 true ?_; refine zLd ?_; refine zLd ?_
             refine aops_call_v zRc (rl_con m.bal b) rfl rfl ?_
             refine zN ?_
             refine zC (fun hc => ?_) fun hc => ?_
             · have mk31t : True := trivial
               refine awp_seq ?_; refine zS ?_; refine zF 7 2 true ?_; refine zLd ?_; refine zLd ?_
               refine aops_call_v zRc (rcp_con m.bal b) rfl rfl ?_
               refine zNo ?_; refine zN ?_
               refine zC (fun hc => ?_) fun hc => ?_
               · have mk36t : True := trivial
                 refine awp_region ?_; refine zF 15 1 false ?_; refine zSt ?_; refine zN ?_; refine awp_region ?_; refine zLd ?_; refine zF 7 2 true ?_; refine zSt ?_; refine zN ?_; refine awp_seq ?_; refine zS ?_; refine zF 15 1 false ?_; refine zL1 ?_; refine zCm ?_; refine zMv ?_
                 all_goals first | (refine zY ?_; refine zF 7 2 true ?_) | refine zU ?_ | refine zNt ?_ | (refine zGt (fun hg => ?_) fun hg => ?_; case' _ => refine zF 7 2 true ?_)
                 all_goals first | (refine zY ?_; refine zLd ?_) | refine zU ?_ | refine zNt ?_ | (refine zGt (fun hg => ?_) fun hg => ?_; case' _ => refine zLd ?_)
                 all_goals first | (refine zY ?_; refine zLd ?_) | refine zU ?_ | refine zNt ?_ | (refine zGt (fun hg => ?_) fun hg => ?_; case' _ => refine zLd ?_)
                 all_goals first | (refine zY ?_; (refine aops_call zRc (rcp_con _ b) zSplit rfl rfl ?_; rintro _ _ ⟨rfl, rfl⟩)) | refine zU ?_ | refine zNt ?_ | (refine zGt (fun hg => ?_) fun hg => ?_; case' _ => (refine aops_call zRc (rcp_con _ b) zSplit rfl rfl ?_; rintro _ _ ⟨rfl, rfl⟩))
                 all_goals refine zPk ?_
                 all_goals (
                   refine zN ?_
                   refine zC (fun hc => ?_) fun hc => ?_
                   · first
                     | (exact absurd hc (by decide))
                     | (have mk48t : True := trivial
                        refine zS ?_; refine zF 1 1 false ?_; refine zL1 ?_; refine zF 7 2 true ?_; refine zF 0 1 false ?_; refine zL1 ?_; refine zF 9 2 true ?_; refine zLd ?_; refine zF 11 2 true ?_; refine zLd ?_
                        first | (have := mk31t; (refine aops_call zRc (rlow_con b.v b.n m.prep m.prime hI.prep hI.prime (by omega)) zSplit rfl rfl ?_; rintro _ _ ⟨r, rfl, hr, rfl⟩)) | (refine aops_call zRc (rlow_con b.v m.bal.n m.prep m.prime hI.prep hI.prime (by omega)) zSplit rfl rfl ?_; rintro _ _ ⟨r, rfl, hr, rfl⟩)
                        refine zAs ?_; refine zN (zS ?_); refine zMv ?_; refine zF 0 1 false ?_; refine zL1 ?_; refine zCm ?_; refine zN ?_
                        refine zC (fun hc => ?_) fun hc => ?_
                        · have mk62t : True := trivial
                          have hrb := of_decide_eq_true hc
                          refine awp_region ?_; refine zMv ?_; refine zF 15 1 false ?_; refine zSt ?_; refine zN (zS ?_); refine zLd ?_; refine zSt ?_; refine zN ?_; refine awp_ret ?_
                          first
                          | (have := mk31t; have := mk62t; exact post_ret (.cell rfl zUpd rfl rfl .nil) zKeep ⟨{ m with conf := b, bal := b, low := r }, rfl, stepR_conf hI hp1 hb9.1 hb9.2.1 hb9.2.2.1 (.inr rfl) (by omega), rfl⟩)
                          | (have := mk31f; have := mk62t; exact post_ret (.cell rfl zUpd rfl rfl .nil) zKeep ⟨{ m with conf := b, bal := m.bal, low := r }, rfl, stepR_conf hI hp1 hb9.1 hb9.2.1 hb9.2.2.1 (.inl rfl) (by omega), rfl⟩)
                          | (have := mk36t; exact post_ret (.cell rfl zUpd rfl rfl .nil) zKeep ⟨{ m with conf := b, bal := b, low := 0 }, rfl, stepR_conf hI hp1 hb9.1 hb9.2.1 hb9.2.2.1 (.inr rfl) (by omega), rfl⟩)
                          | (have := mk36f; exact post_ret (.cell rfl zUpd rfl rfl .nil) zKeep ⟨{ m with conf := b, bal := b, low := m.low }, rfl, stepR_conf hI hp1 hb9.1 hb9.2.1 hb9.2.2.1 (.inr rfl) (by omega), rfl⟩)
                          | (have := mk31f; exact post_ret (.cell rfl zUpd rfl rfl .nil) zKeep ⟨{ m with conf := b, bal := m.bal, low := m.low }, rfl, stepR_conf hI hp1 hb9.1 hb9.2.1 hb9.2.2.1 (.inl rfl) (by omega), rfl⟩)
                        · have mk62f : True := trivial
                          refine awp_skip ?_; refine seqQ_n ?_; refine zS ?_; refine zLd ?_; refine zSt ?_; refine zN ?_; refine awp_ret ?_
                          first
                          | (have := mk31t; have := mk62t; exact post_ret (.cell rfl zUpd rfl rfl .nil) zKeep ⟨{ m with conf := b, bal := b, low := r }, rfl, stepR_conf hI hp1 hb9.1 hb9.2.1 hb9.2.2.1 (.inr rfl) (by omega), rfl⟩)
                          | (have := mk31f; have := mk62t; exact post_ret (.cell rfl zUpd rfl rfl .nil) zKeep ⟨{ m with conf := b, bal := m.bal, low := r }, rfl, stepR_conf hI hp1 hb9.1 hb9.2.1 hb9.2.2.1 (.inl rfl) (by omega), rfl⟩)
                          | (have := mk36t; exact post_ret (.cell rfl zUpd rfl rfl .nil) zKeep ⟨{ m with conf := b, bal := b, low := 0 }, rfl, stepR_conf hI hp1 hb9.1 hb9.2.1 hb9.2.2.1 (.inr rfl) (by omega), rfl⟩)
                          | (have := mk36f; exact post_ret (.cell rfl zUpd rfl rfl .nil) zKeep ⟨{ m with conf := b, bal := b, low := m.low }, rfl, stepR_conf hI hp1 hb9.1 hb9.2.1 hb9.2.2.1 (.inr rfl) (by omega), rfl⟩)
                          | (have := mk31f; exact post_ret (.cell rfl zUpd rfl rfl .nil) zKeep ⟨{ m with conf := b, bal := m.bal, low := m.low }, rfl, stepR_conf hI hp1 hb9.1 hb9.2.1 hb9.2.2.1 (.inl rfl) (by omega), rfl⟩)
                       )
                   · first
                     | (exact absurd hc (by decide))
                     | (have mk48f : True := trivial
                        refine awp_skip ?_; refine seqQ_n ?_; refine zS ?_; refine zLd ?_; refine zSt ?_; refine zN ?_; refine awp_ret ?_
                        first
                        | (have := mk31t; have := mk62t; exact post_ret (.cell rfl zUpd rfl rfl .nil) zKeep ⟨{ m with conf := b, bal := b, low := r }, rfl, stepR_conf hI hp1 hb9.1 hb9.2.1 hb9.2.2.1 (.inr rfl) (by omega), rfl⟩)
                        | (have := mk31f; have := mk62t; exact post_ret (.cell rfl zUpd rfl rfl .nil) zKeep ⟨{ m with conf := b, bal := m.bal, low := r }, rfl, stepR_conf hI hp1 hb9.1 hb9.2.1 hb9.2.2.1 (.inl rfl) (by omega), rfl⟩)
                        | (have := mk36t; exact post_ret (.cell rfl zUpd rfl rfl .nil) zKeep ⟨{ m with conf := b, bal := b, low := 0 }, rfl, stepR_conf hI hp1 hb9.1 hb9.2.1 hb9.2.2.1 (.inr rfl) (by omega), rfl⟩)
                        | (have := mk36f; exact post_ret (.cell rfl zUpd rfl rfl .nil) zKeep ⟨{ m with conf := b, bal := b, low := m.low }, rfl, stepR_conf hI hp1 hb9.1 hb9.2.1 hb9.2.2.1 (.inr rfl) (by omega), rfl⟩)
                        | (have := mk31f; exact post_ret (.cell rfl zUpd rfl rfl .nil) zKeep ⟨{ m with conf := b, bal := m.bal, low := m.low }, rfl, stepR_conf hI hp1 hb9.1 hb9.2.1 hb9.2.2.1 (.inl rfl) (by omega), rfl⟩)
                       )
                   )
               · have mk36f : True := trivial
                 refine awp_skip ?_; refine seqQ_n ?_; refine awp_region ?_; refine zLd ?_; refine zF 7 2 true ?_; refine zSt ?_; refine zN ?_; refine awp_seq ?_; refine zS ?_; refine zF 15 1 false ?_; refine zL1 ?_; refine zCm ?_; refine zMv ?_
                 all_goals first | (refine zY ?_; refine zF 7 2 true ?_) | refine zU ?_ | refine zNt ?_ | (refine zGt (fun hg => ?_) fun hg => ?_; case' _ => refine zF 7 2 true ?_)
                 all_goals first | (refine zY ?_; refine zLd ?_) | refine zU ?_ | refine zNt ?_ | (refine zGt (fun hg => ?_) fun hg => ?_; case' _ => refine zLd ?_)
                 all_goals first | (refine zY ?_; refine zLd ?_) | refine zU ?_ | refine zNt ?_ | (refine zGt (fun hg => ?_) fun hg => ?_; case' _ => refine zLd ?_)
                 all_goals first | (refine zY ?_; (refine aops_call zRc (rcp_con _ b) zSplit rfl rfl ?_; rintro _ _ ⟨rfl, rfl⟩)) | refine zU ?_ | refine zNt ?_ | (refine zGt (fun hg => ?_) fun hg => ?_; case' _ => (refine aops_call zRc (rcp_con _ b) zSplit rfl rfl ?_; rintro _ _ ⟨rfl, rfl⟩))
                 all_goals refine zPk ?_
                 all_goals (
                   refine zN ?_
                   refine zC (fun hc => ?_) fun hc => ?_
                   · first
                     | (exact absurd hc (by decide))
                     | (have mk48t : True := trivial
                        refine zS ?_; refine zF 1 1 false ?_; refine zL1 ?_; refine zF 7 2 true ?_; refine zF 0 1 false ?_; refine zL1 ?_; refine zF 9 2 true ?_; refine zLd ?_; refine zF 11 2 true ?_; refine zLd ?_
                        first | (have := mk31t; (refine aops_call zRc (rlow_con b.v b.n m.prep m.prime hI.prep hI.prime (by omega)) zSplit rfl rfl ?_; rintro _ _ ⟨r, rfl, hr, rfl⟩)) | (refine aops_call zRc (rlow_con b.v m.bal.n m.prep m.prime hI.prep hI.prime (by omega)) zSplit rfl rfl ?_; rintro _ _ ⟨r, rfl, hr, rfl⟩)
                        refine zAs ?_; refine zN (zS ?_); refine zMv ?_; refine zF 0 1 false ?_; refine zL1 ?_; refine zCm ?_; refine zN ?_
                        refine zC (fun hc => ?_) fun hc => ?_
                        · have mk62t : True := trivial
                          have hrb := of_decide_eq_true hc
                          refine awp_region ?_; refine zMv ?_; refine zF 15 1 false ?_; refine zSt ?_; refine zN (zS ?_); refine zLd ?_; refine zSt ?_; refine zN ?_; refine awp_ret ?_
                          first
                          | (have := mk31t; have := mk62t; exact post_ret (.cell rfl zUpd rfl rfl .nil) zKeep ⟨{ m with conf := b, bal := b, low := r }, rfl, stepR_conf hI hp1 hb9.1 hb9.2.1 hb9.2.2.1 (.inr rfl) (by omega), rfl⟩)
                          | (have := mk31f; have := mk62t; exact post_ret (.cell rfl zUpd rfl rfl .nil) zKeep ⟨{ m with conf := b, bal := m.bal, low := r }, rfl, stepR_conf hI hp1 hb9.1 hb9.2.1 hb9.2.2.1 (.inl rfl) (by omega), rfl⟩)
                          | (have := mk36t; exact post_ret (.cell rfl zUpd rfl rfl .nil) zKeep ⟨{ m with conf := b, bal := b, low := 0 }, rfl, stepR_conf hI hp1 hb9.1 hb9.2.1 hb9.2.2.1 (.inr rfl) (by omega), rfl⟩)
                          | (have := mk36f; exact post_ret (.cell rfl zUpd rfl rfl .nil) zKeep ⟨{ m with conf := b, bal := b, low := m.low }, rfl, stepR_conf hI hp1 hb9.1 hb9.2.1 hb9.2.2.1 (.inr rfl) (by omega), rfl⟩)
                          | (have := mk31f; exact post_ret (.cell rfl zUpd rfl rfl .nil) zKeep ⟨{ m with conf := b, bal := m.bal, low := m.low }, rfl, stepR_conf hI hp1 hb9.1 hb9.2.1 hb9.2.2.1 (.inl rfl) (by omega), rfl⟩)
                        · have mk62f : True := trivial
                          refine awp_skip ?_; refine seqQ_n ?_; refine zS ?_; refine zLd ?_; refine zSt ?_; refine zN ?_; refine awp_ret ?_
                          first
                          | (have := mk31t; have := mk62t; exact post_ret (.cell rfl zUpd rfl rfl .nil) zKeep ⟨{ m with conf := b, bal := b, low := r }, rfl, stepR_conf hI hp1 hb9.1 hb9.2.1 hb9.2.2.1 (.inr rfl) (by omega), rfl⟩)
                          | (have := mk31f; have := mk62t; exact post_ret (.cell rfl zUpd rfl rfl .nil) zKeep ⟨{ m with conf := b, bal := m.bal, low := r }, rfl, stepR_conf hI hp1 hb9.1 hb9.2.1 hb9.2.2.1 (.inl rfl) (by omega), rfl⟩)
                          | (have := mk36t; exact post_ret (.cell rfl zUpd rfl rfl .nil) zKeep ⟨{ m with conf := b, bal := b, low := 0 }, rfl, stepR_conf hI hp1 hb9.1 hb9.2.1 hb9.2.2.1 (.inr rfl) (by omega), rfl⟩)
                          | (have := mk36f; exact post_ret (.cell rfl zUpd rfl rfl .nil) zKeep ⟨{ m with conf := b, bal := b, low := m.low }, rfl, stepR_conf hI hp1 hb9.1 hb9.2.1 hb9.2.2.1 (.inr rfl) (by omega), rfl⟩)
                          | (have := mk31f; exact post_ret (.cell rfl zUpd rfl rfl .nil) zKeep ⟨{ m with conf := b, bal := m.bal, low := m.low }, rfl, stepR_conf hI hp1 hb9.1 hb9.2.1 hb9.2.2.1 (.inl rfl) (by omega), rfl⟩)
                       )
                   · first
                     | (exact absurd hc (by decide))
                     | (have mk48f : True := trivial
                        refine awp_skip ?_; refine seqQ_n ?_; refine zS ?_; refine zLd ?_; refine zSt ?_; refine zN ?_; refine awp_ret ?_
                        first
                        | (have := mk31t; have := mk62t; exact post_ret (.cell rfl zUpd rfl rfl .nil) zKeep ⟨{ m with conf := b, bal := b, low := r }, rfl, stepR_conf hI hp1 hb9.1 hb9.2.1 hb9.2.2.1 (.inr rfl) (by omega), rfl⟩)
                        | (have := mk31f; have := mk62t; exact post_ret (.cell rfl zUpd rfl rfl .nil) zKeep ⟨{ m with conf := b, bal := m.bal, low := r }, rfl, stepR_conf hI hp1 hb9.1 hb9.2.1 hb9.2.2.1 (.inl rfl) (by omega), rfl⟩)
                        | (have := mk36t; exact post_ret (.cell rfl zUpd rfl rfl .nil) zKeep ⟨{ m with conf := b, bal := b, low := 0 }, rfl, stepR_conf hI hp1 hb9.1 hb9.2.1 hb9.2.2.1 (.inr rfl) (by omega), rfl⟩)
                        | (have := mk36f; exact post_ret (.cell rfl zUpd rfl rfl .nil) zKeep ⟨{ m with conf := b, bal := b, low := m.low }, rfl, stepR_conf hI hp1 hb9.1 hb9.2.1 hb9.2.2.1 (.inr rfl) (by omega), rfl⟩)
                        | (have := mk31f; exact post_ret (.cell rfl zUpd rfl rfl .nil) zKeep ⟨{ m with conf := b, bal := m.bal, low := m.low }, rfl, stepR_conf hI hp1 hb9.1 hb9.2.1 hb9.2.2.1 (.inl rfl) (by omega), rfl⟩)
                       )
                   )
             · have mk31f : True := trivial
               refine awp_skip ?_; refine seqQ_n ?_; refine awp_seq ?_; refine zS ?_; refine zF 15 1 false ?_; refine zL1 ?_; refine zCm ?_; refine zMv ?_
               all_goals first | (refine zY ?_; refine zF 7 2 true ?_) | refine zU ?_ | refine zNt ?_ | (refine zGt (fun hg => ?_) fun hg => ?_; case' _ => refine zF 7 2 true ?_)
               all_goals first | (refine zY ?_; refine zLd ?_) | refine zU ?_ | refine zNt ?_ | (refine zGt (fun hg => ?_) fun hg => ?_; case' _ => refine zLd ?_)
               all_goals first | (refine zY ?_; refine zLd ?_) | refine zU ?_ | refine zNt ?_ | (refine zGt (fun hg => ?_) fun hg => ?_; case' _ => refine zLd ?_)
               all_goals first | (refine zY ?_; (refine aops_call zRc (rcp_con _ b) zSplit rfl rfl ?_; rintro _ _ ⟨rfl, rfl⟩)) | refine zU ?_ | refine zNt ?_ | (refine zGt (fun hg => ?_) fun hg => ?_; case' _ => (refine aops_call zRc (rcp_con _ b) zSplit rfl rfl ?_; rintro _ _ ⟨rfl, rfl⟩))
               all_goals refine zPk ?_
               all_goals (
                 refine zN ?_
                 refine zC (fun hc => ?_) fun hc => ?_
                 · first
                   | (exact absurd hc (by decide))
                   | (have mk48t : True := trivial
                      refine zS ?_; refine zF 1 1 false ?_; refine zL1 ?_; refine zF 7 2 true ?_; refine zF 0 1 false ?_; refine zL1 ?_; refine zF 9 2 true ?_; refine zLd ?_; refine zF 11 2 true ?_; refine zLd ?_
                      first | (have := mk31t; (refine aops_call zRc (rlow_con b.v b.n m.prep m.prime hI.prep hI.prime (by omega)) zSplit rfl rfl ?_; rintro _ _ ⟨r, rfl, hr, rfl⟩)) | (refine aops_call zRc (rlow_con b.v m.bal.n m.prep m.prime hI.prep hI.prime (by omega)) zSplit rfl rfl ?_; rintro _ _ ⟨r, rfl, hr, rfl⟩)
                      refine zAs ?_; refine zN (zS ?_); refine zMv ?_; refine zF 0 1 false ?_; refine zL1 ?_; refine zCm ?_; refine zN ?_
                      refine zC (fun hc => ?_) fun hc => ?_
                      · have mk62t : True := trivial
                        have hrb := of_decide_eq_true hc
                        refine awp_region ?_; refine zMv ?_; refine zF 15 1 false ?_; refine zSt ?_; refine zN (zS ?_); refine zLd ?_; refine zSt ?_; refine zN ?_; refine awp_ret ?_
                        first
                        | (have := mk31t; have := mk62t; exact post_ret (.cell rfl zUpd rfl rfl .nil) zKeep ⟨{ m with conf := b, bal := b, low := r }, rfl, stepR_conf hI hp1 hb9.1 hb9.2.1 hb9.2.2.1 (.inr rfl) (by omega), rfl⟩)
                        | (have := mk31f; have := mk62t; exact post_ret (.cell rfl zUpd rfl rfl .nil) zKeep ⟨{ m with conf := b, bal := m.bal, low := r }, rfl, stepR_conf hI hp1 hb9.1 hb9.2.1 hb9.2.2.1 (.inl rfl) (by omega), rfl⟩)
                        | (have := mk36t; exact post_ret (.cell rfl zUpd rfl rfl .nil) zKeep ⟨{ m with conf := b, bal := b, low := 0 }, rfl, stepR_conf hI hp1 hb9.1 hb9.2.1 hb9.2.2.1 (.inr rfl) (by omega), rfl⟩)
                        | (have := mk36f; exact post_ret (.cell rfl zUpd rfl rfl .nil) zKeep ⟨{ m with conf := b, bal := b, low := m.low }, rfl, stepR_conf hI hp1 hb9.1 hb9.2.1 hb9.2.2.1 (.inr rfl) (by omega), rfl⟩)
                        | (have := mk31f; exact post_ret (.cell rfl zUpd rfl rfl .nil) zKeep ⟨{ m with conf := b, bal := m.bal, low := m.low }, rfl, stepR_conf hI hp1 hb9.1 hb9.2.1 hb9.2.2.1 (.inl rfl) (by omega), rfl⟩)
                      · have mk62f : True := trivial
                        refine awp_skip ?_; refine seqQ_n ?_; refine zS ?_; refine zLd ?_; refine zSt ?_; refine zN ?_; refine awp_ret ?_
                        first
                        | (have := mk31t; have := mk62t; exact post_ret (.cell rfl zUpd rfl rfl .nil) zKeep ⟨{ m with conf := b, bal := b, low := r }, rfl, stepR_conf hI hp1 hb9.1 hb9.2.1 hb9.2.2.1 (.inr rfl) (by omega), rfl⟩)
                        | (have := mk31f; have := mk62t; exact post_ret (.cell rfl zUpd rfl rfl .nil) zKeep ⟨{ m with conf := b, bal := m.bal, low := r }, rfl, stepR_conf hI hp1 hb9.1 hb9.2.1 hb9.2.2.1 (.inl rfl) (by omega), rfl⟩)
                        | (have := mk36t; exact post_ret (.cell rfl zUpd rfl rfl .nil) zKeep ⟨{ m with conf := b, bal := b, low := 0 }, rfl, stepR_conf hI hp1 hb9.1 hb9.2.1 hb9.2.2.1 (.inr rfl) (by omega), rfl⟩)
                        | (have := mk36f; exact post_ret (.cell rfl zUpd rfl rfl .nil) zKeep ⟨{ m with conf := b, bal := b, low := m.low }, rfl, stepR_conf hI hp1 hb9.1 hb9.2.1 hb9.2.2.1 (.inr rfl) (by omega), rfl⟩)
                        | (have := mk31f; exact post_ret (.cell rfl zUpd rfl rfl .nil) zKeep ⟨{ m with conf := b, bal := m.bal, low := m.low }, rfl, stepR_conf hI hp1 hb9.1 hb9.2.1 hb9.2.2.1 (.inl rfl) (by omega), rfl⟩)
                     )
                 · first
                   | (exact absurd hc (by decide))
                   | (have mk48f : True := trivial
                      refine awp_skip ?_; refine seqQ_n ?_; refine zS ?_; refine zLd ?_; refine zSt ?_; refine zN ?_; refine awp_ret ?_
                      first
                      | (have := mk31t; have := mk62t; exact post_ret (.cell rfl zUpd rfl rfl .nil) zKeep ⟨{ m with conf := b, bal := b, low := r }, rfl, stepR_conf hI hp1 hb9.1 hb9.2.1 hb9.2.2.1 (.inr rfl) (by omega), rfl⟩)
                      | (have := mk31f; have := mk62t; exact post_ret (.cell rfl zUpd rfl rfl .nil) zKeep ⟨{ m with conf := b, bal := m.bal, low := r }, rfl, stepR_conf hI hp1 hb9.1 hb9.2.1 hb9.2.2.1 (.inl rfl) (by omega), rfl⟩)
                      | (have := mk36t; exact post_ret (.cell rfl zUpd rfl rfl .nil) zKeep ⟨{ m with conf := b, bal := b, low := 0 }, rfl, stepR_conf hI hp1 hb9.1 hb9.2.1 hb9.2.2.1 (.inr rfl) (by omega), rfl⟩)
                      | (have := mk36f; exact post_ret (.cell rfl zUpd rfl rfl .nil) zKeep ⟨{ m with conf := b, bal := b, low := m.low }, rfl, stepR_conf hI hp1 hb9.1 hb9.2.1 hb9.2.2.1 (.inr rfl) (by omega), rfl⟩)
                      | (have := mk31f; exact post_ret (.cell rfl zUpd rfl rfl .nil) zKeep ⟨{ m with conf := b, bal := m.bal, low := m.low }, rfl, stepR_conf hI hp1 hb9.1 hb9.2.1 hb9.2.2.1 (.inl rfl) (by omega), rfl⟩)
                     )
                 )
           )
        )
    )
theorem sne_t {a b : Str} (h : (!decide (a = b)) = true) : ¬ a = b := by
  intro e
  rw [decide_eq_true e] at h
  cases h
theorem sne_f {a b : Str} (h : (!decide (a = b)) = false) : a = b := by
  by_cases e : a = b
  · exact e
  · rw [decide_eq_false e] at h; cases h
end Go.Proofs.YtegejdhkckndaaaGreat
