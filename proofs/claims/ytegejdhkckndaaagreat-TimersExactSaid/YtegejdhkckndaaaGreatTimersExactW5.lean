/- The walks of: rblocks11_con, raccepts_con, rset_con, rview_con, rsets_con, racc25_con, rcnf25_con, raised_con, rnext_con, rhigh_con, rjoin_con, rsets26_con, racc26_con, rcnf26_con, rfree_con, rdown_con, rextend_con, rfinal_con, rfirst_con, rgrt_con, rlow_con, renv_con. Each says what one function of the program answers, for the arguments that its statement names. No condition beyond what each theorem says. -/
import Derived.Test.YtegejdhkckndaaaGreatTimersExactW4
import Derived.Test.YtegejdhkckndaaaGreatProg
import Derived.KernelRfl
import Derived.Tactics
import Derived.Tactics2
import Derived.StillTactics
set_option linter.unusedVariables false
set_option linter.unusedSimpArgs false
set_option linter.unnecessarySimpa false
set_option maxRecDepth 4000
namespace Go.Proofs.YtegejdhkckndaaaGreat
open Go Go.Av Go.Tq
theorem rblocks11_con (c : List Mem) (v s : Int) : Con Tryz.prog 142 [cv c, .i v, .i s] [] (Is (.b (blocksC c v s)) []) := by
  have hcap : capB = 140737488355328 := rfl
  refine con_intro Tryz.func142 rfl Tryz.call142 rfl ?_
  refine zS ?_
  refine aops_box rfl zFlat rfl rfl (fun b3 => ?_)
  refine zAs ?_; refine zN ?_; refine awp_seq ?_; refine zS ?_; refine zMv ?_
  refine aops_call_b zRc (rvalid_con s) rfl rfl (fun c8 hc8 => ?_)
  refine zNo ?_; refine zMv ?_
  all_goals first | (refine zY ?_; refine zLd ?_) | refine zU ?_ | refine zNf ?_ | (refine zGf (fun hg => ?_) fun hg => ?_; case' _ => refine zLd ?_)
  all_goals first | (refine zY ?_; refine aops_call_v zRc (rdecl_con c) rfl rfl ?_) | refine zU ?_ | refine zNf ?_ | (refine zGf (fun hg => ?_) fun hg => ?_; case' _ => refine aops_call_v zRc (rdecl_con c) rfl rfl ?_)
  all_goals first | (refine zY ?_; refine zMv ?_) | refine zU ?_ | refine zNf ?_ | (refine zGf (fun hg => ?_) fun hg => ?_; case' _ => refine zMv ?_)
  all_goals first | (refine zY ?_; refine aops_call_b zRc (rhas_con (declC c) v) rfl rfl (fun c14 hc14 => ?_)) | refine zU ?_ | refine zNf ?_ | (refine zGf (fun hg => ?_) fun hg => ?_; case' _ => refine aops_call_b zRc (rhas_con (declC c) v) rfl rfl (fun c14 hc14 => ?_))
  all_goals first | (refine zY ?_; refine zNo ?_) | refine zU ?_ | refine zNf ?_ | (refine zGf (fun hg => ?_) fun hg => ?_; case' _ => refine zNo ?_)
  all_goals refine zPk ?_
  all_goals (
    refine zN ?_
    refine zC (fun hc => ?_) fun hc => ?_
    · first
      | (exact absurd hc (by decide))
      | (refine awp_seq ?_
         refine awp_region ?_; refine zAs ?_; refine zN ?_; refine awp_ret ?_; refine seqQ_r ?_
         refine post_is (.tmp rfl .nil) zKeep ?_
         first | (rw [blocks_f2 (hc14.trans (not_t (c := c14) (by with_reducible assumption)))]; rfl) | (rw [blocks_f1 (hc8.trans (not_t (c := c8) (by with_reducible assumption)))]; rfl)
        )
    · first
      | (exact absurd hc (by decide))
      | (have hv0 := hc8.trans (not_f (c := c8) (by with_reducible assumption))
         have hh0 := hc14.trans (not_f hc)
         obtain ⟨m, rfl, hm⟩ := valid_nat hv0
         obtain ⟨j, x, rfl, hj, hx, _⟩ := has_decl hh0
         have hx' := getMap mv hx
         have hp := pow_lt10 hj
         have hxt := tOf_get hx
         have hsub : (1023 : Int) - (m : Int) = ((1023 - m : Nat) : Int) := by omega
         have hand : 1023 - m < 1024 := by omega
         refine awp_skip ?_; refine seqQ_n ?_; refine awp_seq ?_
         refine awp_draw (Hm := []) zKr zSplit ?_
         refine zTF 0 0 1 false ?_; refine zTL 1 ?_
         refine zT 2 rfl (AP.ar (ap_move rfl)) ?_
         refine zT 3 rfl (AP.ar (ap_index (k := j) rfl rfl rfl rfl (by decide) rfl hx')) ?_
         refine zTF 4 1 3 true ?_; refine zTM 5 ?_
         refine zT 6 rfl (AP.ar (ap_move rfl)) ?_
         refine aany_take 7 rfl (.none rfl) zKr zKr zKr (AP.ar (ap_arith (m := ((1023 - m : Nat) : Int)) rfl rfl (by simp only [addI, Option.some.injEq]; omega) (by omega))) rfl rfl ?_
         refine zT 8 rfl (AP.ar (ap_move rfl)) ?_
         refine zT 9 rfl (AP.ar (ap_shl (p := 1) rfl rfl rfl (by omega) (by omega))) ?_
         refine zT 10 rfl (AP.ar (ap_bits rfl rfl rfl (by omega) (by omega))) ?_
         refine aany_one 11 zKr rfl (.none rfl) ?_
         refine aops_call_b zRc (rsat_con _ x.t) rfl rfl (fun c28 hc28 => ?_)
         refine aops_nil ?_
         refine zT 12 rfl (AP.ar (ap_not rfl)) ?_
         refine zT 13 rfl (AP.ar (ap_assign rfl)) ?_
         refine aany_nil zKr ?_
         all_goals (
           refine seqQ_n ?_; refine awp_ret ?_
           refine post_is (.tmp rfl .nil) zKeep ?_
           rw [blocks_t hv0 hh0 hxt, show (1023 &&& (2 ^ 63 - 1 - m)) = 1023 - m from co1023 (by omega), hc28]; rfl
           )
        )
    )
theorem raccepts_con (c : List Mem) (v a b : Int) : Con Tryz.prog 147 [cv c, .i v, .i a, .i b] [] (Is (.b (acceptsC c v a b)) []) := by
  have hcap : capB = 140737488355328 := rfl
  refine con_intro Tryz.func147 rfl Tryz.call147 rfl ?_
  refine zS ?_
  refine aops_box rfl zFlat rfl rfl (fun b4 => ?_)
  refine zAs ?_; refine zN ?_; refine awp_seq ?_; refine zS ?_; refine zMv ?_
  refine aops_call_b zRc (rvalid_con a) rfl rfl (fun c10 hc10 => ?_)
  refine zNo ?_; refine zMv ?_
  all_goals first | (refine zY ?_; refine zMv ?_) | refine zU ?_ | refine zNf ?_ | (refine zGf (fun hg => ?_) fun hg => ?_; case' _ => refine zMv ?_)
  all_goals first | (refine zY ?_; refine aops_call_b zRc (rvalid_con b) rfl rfl (fun c14 hc14 => ?_)) | refine zU ?_ | refine zNf ?_ | (refine zGf (fun hg => ?_) fun hg => ?_; case' _ => refine aops_call_b zRc (rvalid_con b) rfl rfl (fun c14 hc14 => ?_))
  all_goals first | (refine zY ?_; refine zNo ?_) | refine zU ?_ | refine zNf ?_ | (refine zGf (fun hg => ?_) fun hg => ?_; case' _ => refine zNo ?_)
  all_goals refine zPk ?_
  all_goals (
    refine zN ?_
    refine zC (fun hc => ?_) fun hc => ?_
    · first
      | (exact absurd hc (by decide))
      | (refine awp_seq ?_
         refine awp_region ?_; refine zAs ?_; refine zN ?_; refine awp_ret ?_; refine seqQ_r ?_
         refine post_is (.tmp rfl .nil) zKeep ?_
         first | (rw [accepts_f2 (hc14.trans (not_t (c := c14) (by with_reducible assumption)))]; rfl) | (rw [accepts_f1 (hc10.trans (not_t (c := c10) (by with_reducible assumption)))]; rfl)
        )
    · first
      | (exact absurd hc (by decide))
      | (have hv0 := hc10.trans (not_f (c := c10) (by with_reducible assumption))
         have hw0 := hc14.trans (not_f hc)
         obtain ⟨m, rfl, hm⟩ := valid_nat hv0
         obtain ⟨j, rfl, hj⟩ := valid_nat hw0
         refine awp_skip ?_; refine seqQ_n ?_; refine zS ?_; refine zLd ?_; refine zMv ?_; refine zMv ?_
         refine aops_call_b zRc (rblocks11_con c v _) rfl rfl (fun c20 hc20 => ?_)
         refine zMv ?_
         all_goals first | (refine zY ?_; refine zLd ?_) | refine zU ?_ | refine zNf ?_ | (refine zGf (fun hg => ?_) fun hg => ?_; case' _ => refine zLd ?_)
         all_goals first | (refine zY ?_; refine zMv ?_) | refine zU ?_ | refine zNf ?_ | (refine zGf (fun hg => ?_) fun hg => ?_; case' _ => refine zMv ?_)
         all_goals first | (refine zY ?_; refine zMv ?_) | refine zU ?_ | refine zNf ?_ | (refine zGf (fun hg => ?_) fun hg => ?_; case' _ => refine zMv ?_)
         all_goals first | (refine zY ?_; refine zP (ap_bits rfl rfl rfl (by omega) (by omega)) ?_) | refine zU ?_ | refine zNf ?_ | (refine zGf (fun hg => ?_) fun hg => ?_; case' _ => refine zP (ap_bits rfl rfl rfl (by omega) (by omega)) ?_)
         all_goals first | (refine zY ?_; refine aops_call_v zRc (rgreat_con c _) rfl rfl ?_) | refine zU ?_ | refine zNf ?_ | (refine zGf (fun hg => ?_) fun hg => ?_; case' _ => refine aops_call_v zRc (rgreat_con c _) rfl rfl ?_)
         all_goals first | (refine zY ?_; refine zMv ?_) | refine zU ?_ | refine zNf ?_ | (refine zGf (fun hg => ?_) fun hg => ?_; case' _ => refine zMv ?_)
         all_goals first | (refine zY ?_; refine aops_call_b zRc (rhas_con _ _) rfl rfl (fun c28 hc28 => ?_)) | refine zU ?_ | refine zNf ?_ | (refine zGf (fun hg => ?_) fun hg => ?_; case' _ => refine aops_call_b zRc (rhas_con _ _) rfl rfl (fun c28 hc28 => ?_))
         all_goals refine zPk ?_
         all_goals refine zAs ?_
         all_goals (
           refine zN ?_; refine awp_ret ?_
           refine post_is (.tmp rfl .nil) zKeep ?_
           rw [accepts_t hv0 hw0, hc20]
           first | (rw [hc28, show c20 = false by with_reducible assumption]; rfl) | (rw [show c20 = true by with_reducible assumption]; rfl)
           )
        )
    )
/-- What r24.Set answers. -/
def setR : Nat → List Evp → List Bool → Nat
  | s, [], _ => s
  | s, e :: r, [] => setR s r []
  | s, e :: r, o :: os => setR (if (o && (decide (0 ≤ e.node) && decide (e.node ≤ 9))) = true then s ||| 1 * 2 ^ e.node.toNat else s) r os
theorem setR_t {s n : Nat} {e : Evp} {r : List Evp} {o : Bool} {os : List Bool} (h : o = true) (hn : e.node = n) (h9 : n ≤ 9) : setR s (e :: r) (o :: os) = setR (s ||| 1 * 2 ^ n) r os := by
  simp only [setR]
  rw [if_pos (by rw [h, hn]; simp; omega), hn, Int.toNat_natCast]
theorem setR_f {s : Nat} {e : Evp} {r : List Evp} {o : Bool} {os : List Bool} (h : o = false ∨ ¬ (0 ≤ e.node ∧ e.node ≤ 9)) : setR s (e :: r) (o :: os) = setR s r os := by
  simp only [setR]
  rw [if_neg]
  intro h2
  simp only [Bool.and_eq_true, decide_eq_true_eq] at h2
  rcases h with h | h
  · rw [h] at h2; cases h2.1
  · exact h h2.2
theorem wrap64n {n : Nat} (h : n ≤ 9) : IntKind.u64.wrap (n : Int) = (n : Int) := by
  have : n = 0 ∨ n = 1 ∨ n = 2 ∨ n = 3 ∨ n = 4 ∨ n = 5 ∨ n = 6 ∨ n = 7 ∨ n = 8 ∨ n = 9 := by omega
  rcases this with h | h | h | h | h | h | h | h | h | h <;> subst h <;> decide
def bV (b : Bool) : D := .b b
set_option maxHeartbeats 1000000 in
theorem rset_con (l : List Evp) (os : List Bool) (hlo : l.length = os.length) : Con Tryz.prog 43 [.sl 15 (l.map ev), .sl 1 (os.map bV)] [] (Is (.i (setR 0 l os : Nat)) []) := by
  have hcap : capB = 140737488355328 := rfl
  have hml : (l.map ev).length = l.length := by simp
  have hmo : (os.map bV).length = os.length := by simp
  refine con_intro Tryz.func43 rfl Tryz.call43 rfl ?_
  refine zS ?_; refine zAs ?_; refine zN (zS ?_); refine zAs ?_; refine zN ?_; refine awp_seq ?_; refine zS ?_; refine zMv ?_
  first | refine aops_len rfl rfl rfl rfl (fun _ => ?_) | refine zP (ap_len_arr rfl zUpd rfl) ?_ | refine zP (ap_len_nil rfl rfl) ?_
  refine zMv ?_; refine zN ?_; refine awp_block ?_
  refine awp_loop2 [1, 8, 9] [] (fun (k : Nat) (s : Nat) r => (5, .i (s : Int)) :: (10, .i (k : Int)) :: r) (fun (k : Nat) (s : Nat) r => r) (fun (k : Nat) (s : Nat) => k ≤ l.length ∧ s < 1024 ∧ setR s (l.drop k) (os.drop k) = setR 0 l os) (fun (k : Nat) (s : Nat) => l.length - k) (0) (0) zRc ⟨by omega, by omega, by simp⟩ (wk zSub zKeep) ?_
  intro k s ⟨hk, hs, hI⟩
  refine zS ?_; refine zCm ?_; refine zN ?_; refine awp_seq ?_
  refine zC (fun hc => ?_) fun hc => ?_
  · have hlt := of_decide_eq_true hc
    obtain ⟨x, hx, hd⟩ := drop_cons (l := l) (k := k) (by omega)
    have hx' := getMap ev hx
    obtain ⟨o, ho, hd2⟩ := drop_cons (l := os) (k := k) (by omega)
    have ho' := getMap bV ho
    refine awp_skip ?_; refine seqQ_n ?_; refine awp_seq ?_; refine awp_block ?_; refine zS ?_; refine zMv ?_
    first | refine zP (ap_index rfl rfl rfl rfl (by decide) rfl zAss) ?_ | refine zP (ap_index rfl rfl rfl rfl (by decide) (by omega) zAss) ?_ | refine zP (ap_index_own rfl rfl rfl rfl rfl (by first | omega | (simp only [List.length_map, List.length_set, avs_len]; omega))) ?_
    refine zLd ?_
    refine aops_alloc rfl zRc rfl rfl (fun b7 => ?_)
    refine zAs ?_; refine zSt ?_; refine zN (zS ?_); refine zMv ?_; refine zMv ?_
    first | refine aops_len rfl rfl rfl rfl (fun _ => ?_) | refine zP (ap_len_arr rfl zUpd rfl) ?_ | refine zP (ap_len_nil rfl rfl) ?_
    refine zCm ?_; refine zMv ?_
    all_goals first | (refine zY ?_; refine zMv ?_) | refine zU ?_ | refine zNt ?_ | (refine zGt (fun hg => ?_) fun hg => ?_; case' _ => refine zMv ?_)
    all_goals first | (refine zY ?_; refine zMv ?_) | refine zU ?_ | refine zNt ?_ | (refine zGt (fun hg => ?_) fun hg => ?_; case' _ => refine zMv ?_)
    all_goals first | (refine zY ?_; refine zP (ap_index (k := k) rfl rfl rfl rfl (by decide) rfl ho') ?_) | refine zU ?_ | refine zNt ?_ | (refine zGt (fun hg => ?_) fun hg => ?_; case' _ => refine zP (ap_index (k := k) rfl rfl rfl rfl (by decide) rfl ho') ?_)
    all_goals first | (refine zY ?_; refine zL1 ?_) | refine zU ?_ | refine zNt ?_ | (refine zGt (fun hg => ?_) fun hg => ?_; case' _ => refine zL1 ?_)
    all_goals refine zPk ?_
    all_goals refine zMv ?_
    all_goals first | (refine zY ?_; refine zF 0 1 false ?_) | refine zU ?_ | refine zNt ?_ | (refine zGt (fun hg => ?_) fun hg => ?_; case' _ => refine zF 0 1 false ?_)
    all_goals first | (refine zY ?_; refine zL1 ?_) | refine zU ?_ | refine zNt ?_ | (refine zGt (fun hg => ?_) fun hg => ?_; case' _ => refine zL1 ?_)
    all_goals first | (refine zY ?_; refine zCm ?_) | refine zU ?_ | refine zNt ?_ | (refine zGt (fun hg => ?_) fun hg => ?_; case' _ => refine zCm ?_)
    all_goals refine zPk ?_
    all_goals refine zMv ?_
    all_goals first | (refine zY ?_; refine zF 0 1 false ?_) | refine zU ?_ | refine zNt ?_ | (refine zGt (fun hg => ?_) fun hg => ?_; case' _ => refine zF 0 1 false ?_)
    all_goals first | (refine zY ?_; refine zL1 ?_) | refine zU ?_ | refine zNt ?_ | (refine zGt (fun hg => ?_) fun hg => ?_; case' _ => refine zL1 ?_)
    all_goals first | (refine zY ?_; refine zCm ?_) | refine zU ?_ | refine zNt ?_ | (refine zGt (fun hg => ?_) fun hg => ?_; case' _ => refine zCm ?_)
    all_goals refine zPk ?_
    all_goals (
      refine zN ?_
      refine zC (fun hc => ?_) fun hc => ?_
      · first
        | (exact absurd hc (by decide))
        | (obtain ⟨n9, hn9, hn99⟩ : ∃ n : Nat, x.node = n ∧ n ≤ 9 := by have h1 := of_decide_eq_true (show decide (x.node ≤ 9) = true by first | with_reducible assumption | exact hc); have h2 := of_decide_eq_true (show decide (x.node ≥ 0) = true by first | with_reducible assumption | exact hg); exact ⟨x.node.toNat, by omega, by omega⟩
           rw [hn9]
           have hpn := pow_lt10 (k := n9) (by omega)
           refine awp_region ?_; refine zMv ?_; refine zF 0 1 false ?_; refine zL1 ?_
           refine zP (ap_convi rfl rfl rfl) ?_
           (rw [wrap64n (by omega : n9 ≤ 9)]; refine zP (ap_shl (p := 1) rfl rfl rfl (by omega) (by omega)) ?_)
           refine zP (ap_bits rfl rfl rfl (by omega) (by omega)) ?_
           refine zAs ?_; refine aops_nil ?_; refine blockQ_n ?_; refine seqQ_n ?_; refine awp_region ?_; refine zAr ?_; refine zMv ?_; refine zN ?_
           rw [hd, hd2] at hI
           first
           | (have h9 : Nat := n9; rw [setR_t (by with_reducible assumption) hn9 hn99] at hI; refine ⟨k + 1, s ||| 1 * 2 ^ n9, ⟨by omega, or_lt10 hs (by omega), hI⟩, by omega, wk zSub zKeep⟩)
           | (have hff : o = false ∨ ¬ (0 ≤ x.node ∧ x.node ≤ 9) := (by first | exact .inl (by with_reducible assumption) | exact .inr (by have := of_decide_eq_false (show decide (x.node ≤ 9) = false by with_reducible assumption); omega) | exact .inr (by have := of_decide_eq_false (show decide (x.node ≥ 0) = false by with_reducible assumption); omega)); rw [setR_f hff] at hI; refine ⟨k + 1, s, ⟨by omega, hs, hI⟩, by omega, wk zSub zKeep⟩)
          )
      · first
        | (exact absurd hc (by decide))
        | (refine awp_skip ?_
           refine blockQ_n ?_; refine seqQ_n ?_; refine awp_region ?_; refine zAr ?_; refine zMv ?_; refine zN ?_
           rw [hd, hd2] at hI
           first
           | (have h9 : Nat := n9; rw [setR_t (by with_reducible assumption) hn9 hn99] at hI; refine ⟨k + 1, s ||| 1 * 2 ^ n9, ⟨by omega, or_lt10 hs (by omega), hI⟩, by omega, wk zSub zKeep⟩)
           | (have hff : o = false ∨ ¬ (0 ≤ x.node ∧ x.node ≤ 9) := (by first | exact .inl (by with_reducible assumption) | exact .inr (by have := of_decide_eq_false (show decide (x.node ≤ 9) = false by with_reducible assumption); omega) | exact .inr (by have := of_decide_eq_false (show decide (x.node ≥ 0) = false by with_reducible assumption); omega)); rw [setR_f hff] at hI; refine ⟨k + 1, s, ⟨by omega, hs, hI⟩, by omega, wk zSub zKeep⟩)
          )
      )
  · have hge := of_decide_eq_false hc
    rw [drop_nil (by omega)] at hI
    refine awp_exit ?_; refine seqQ_x ?_; refine seqQ_x ?_; refine blockQ_x rfl ?_; refine seqQ_n ?_; refine zS ?_; refine zMv ?_; refine zAs ?_; refine zN ?_; refine awp_ret ?_
    refine post_is (.tmp rfl .nil) zKeep ?_
    rw [← hI]; cases os.drop k <;> rfl
abbrev BP := List Bool × List Bool
theorem bsn (q : List Bool) (y : Bool) : List.map bV q ++ [D.b y] = List.map bV (q ++ [y]) := by rw [List.map_append]; rfl
theorem mem_made3 : tmade Tryz.prog 106 (10 * 4) = some (List.replicate 10 zeroMem.cells.toList).flatten := by kernel_rfl
set_option maxHeartbeats 2000000 in
theorem rview_con (node : Int) (t : Trust) (l : List Evp) (hl : ∀ e ∈ l, sizeT e.t ≤ 1000000000) : Con Tryz.prog 42 [.i node, av t, .sl 15 (l.map ev)] [] (Is (cv (viewE node t l)) []) := by
  have hcap : capB = 140737488355328 := rfl
  have hml : (l.map ev).length = l.length := by simp
  refine con_intro Tryz.func42 rfl Tryz.call42 rfl ?_
  refine zS ?_
  refine aops_box rfl zFlat rfl rfl (fun b4 => ?_)
  refine aops_alloc rfl zRc rfl rfl (fun b6 => ?_)
  refine zN (zS ?_)
  refine aops_make (N := 10) (l := (List.replicate 10 noMem).map mv) rfl rfl rfl rfl mem_made3 (by simp) mem_zero ⟨by decide, by decide⟩ rfl rfl (fun g => ?_)
  refine zP (ap_build zKr rfl zRc zFill) ?_
  refine aops_alloc rfl zRc rfl rfl (fun b7 => ?_)
  refine zSt ?_; refine zN ?_; refine awp_seq ?_; refine zS ?_; refine zMv ?_; refine zCm ?_; refine zMv ?_
  all_goals first | (refine zY ?_; refine zMv ?_) | refine zU ?_ | refine zNf ?_ | (refine zGf (fun hg => ?_) fun hg => ?_; case' _ => refine zMv ?_)
  all_goals first | (refine zY ?_; refine zCm ?_) | refine zU ?_ | refine zNf ?_ | (refine zGf (fun hg => ?_) fun hg => ?_; case' _ => refine zCm ?_)
  all_goals refine zPk ?_
  all_goals (
    refine zN ?_
    refine zC (fun hc => ?_) fun hc => ?_
    · first
      | (exact absurd hc (by decide))
      | (have hbad : node < 0 ∨ 10 ≤ node := by first | (have := of_decide_eq_true hg; omega) | (have := of_decide_eq_true hc; omega)
         refine zS ?_; refine zLd ?_; refine zSt ?_; refine zN ?_
         refine awp_freeze (.slice (some ⟨g, 0, none⟩) 10 10) [6] zRem zSelC zHeapA ?_
         refine awp_ret ?_; refine seqQ_r ?_
         refine post_is (.cell rfl zUpd rfl rfl .nil) zKeep ?_
         rw [viewE_bad hbad]; rfl
        )
    · first
      | (exact absurd hc (by decide))
      | (have hgood : ¬ (node < 0 ∨ 10 ≤ node) := by have h1 := of_decide_eq_false hc; have h2 := of_decide_eq_false (by first | with_reducible assumption | exact hg : decide (node < 0) = false); omega
         refine awp_skip ?_; refine seqQ_n ?_; refine awp_seq ?_
         obtain ⟨n0, rfl, hn10⟩ : ∃ n : Nat, node = n ∧ n < 10 := ⟨node.toNat, by omega, by omega⟩
         obtain ⟨y0, hy0, _⟩ := drop_cons (l := List.replicate 10 noMem) (k := n0) (by simp; omega)
         have hyy0 := getMap mv hy0
         refine awp_region ?_; refine zF 0 1 false ?_; refine zL1 ?_; refine zMv ?_; refine zLd ?_
         refine zP (ap_build zKr rfl zRc zFill) ?_
         refine zP (ap_index_own (k := n0) rfl rfl rfl rfl rfl (by omega)) ?_
         refine aops_store_ownF (off := 0) rfl rfl zFlat zUpd rfl hyy0 zRc ?_
         refine zN ?_; refine awp_seq ?_; refine zS ?_; refine zMv ?_
         first | refine aops_len rfl rfl rfl rfl (fun _ => ?_) | refine zP (ap_len_arr rfl zUpd rfl) ?_ | refine zP (ap_len_nil rfl rfl) ?_
         refine zMv ?_; refine zN ?_; refine awp_block ?_
         refine awp_loop2 [6, 7, 25, 26] [.box b7 _ _, .box b6 _ _, .box b4 _ _] (fun (k : Nat) (q : List Mem) r => (27, .i (k : Int)) :: r) (fun (k : Nat) (q : List Mem) r => .arr (.slice (some ⟨g, 0, none⟩) 10 10) 106 4 (q.map mv) :: r) (fun (k : Nat) (q : List Mem) => k ≤ l.length ∧ q.length = 10 ∧ putsE (l.drop k) q = putsE l (nobody.set n0 ⟨true, t⟩)) (fun (k : Nat) (q : List Mem) => l.length - k) (0) (((List.replicate 10 noMem).set n0 ⟨true, t⟩)) zRc ⟨by omega, by simp, by rw [nobody_eq]; simp⟩ (by rw [show D.agg [.b true, .i t.th, .sl 1 (t.nodes.map .i), .sl 3 (avs t.inner)] = mv ⟨true, t⟩ from rfl, ← List.map_set]; exact (wk zSub zKeep)) ?_
         intro k q ⟨hk, hql, hI⟩
         refine zS ?_; refine zCm ?_; refine zN ?_; refine awp_seq ?_
         refine zC (fun hc => ?_) fun hc => ?_
         · have hlt := of_decide_eq_true hc
           obtain ⟨x, hx, hd⟩ := drop_cons (l := l) (k := k) (by omega)
           have hx' := getMap ev hx
           have hxs := hl x (List.mem_of_getElem? hx)
           obtain ⟨n, hn⟩ : ∃ n, n = x.node.toNat := ⟨_, rfl⟩
           have hnn : vE x = true → x.node = (n : Int) ∧ n < 10 := fun h => by have := vE_node h; omega
           obtain ⟨y, hy⟩ := get_ex (n := n) hql
           refine awp_skip ?_; refine seqQ_n ?_; refine awp_seq ?_; refine awp_block ?_; refine zS ?_
           first | refine zP (ap_index rfl rfl rfl rfl (by decide) rfl zAss) ?_ | refine zP (ap_index rfl rfl rfl rfl (by decide) (by omega) zAss) ?_ | refine zP (ap_index_own rfl rfl rfl rfl rfl (by first | omega | (simp only [List.length_map, List.length_set, avs_len]; omega))) ?_
           refine zLd ?_
           refine aops_alloc rfl zRc rfl rfl (fun b9 => ?_)
           refine zSt ?_; refine zN (zS ?_); refine zLd ?_
           refine aops_call_v zRc (rvalid24_con x hxs) rfl rfl ?_
           refine zMv ?_
           all_goals first | (refine zY ?_; refine zF 0 1 false ?_) | refine zU ?_ | refine zNt ?_ | (refine zGt (fun hg => ?_) fun hg => ?_; case' _ => refine zF 0 1 false ?_)
           all_goals first | (refine zY ?_; refine zL1 ?_) | refine zU ?_ | refine zNt ?_ | (refine zGt (fun hg => ?_) fun hg => ?_; case' _ => refine zL1 ?_)
           all_goals first | (refine zY ?_; refine zF 0 1 false ?_) | refine zU ?_ | refine zNt ?_ | (refine zGt (fun hg => ?_) fun hg => ?_; case' _ => refine zF 0 1 false ?_)
           all_goals first | (refine zY ?_; refine zL1 ?_) | refine zU ?_ | refine zNt ?_ | (refine zGt (fun hg => ?_) fun hg => ?_; case' _ => refine zL1 ?_)
           all_goals first | (refine zY ?_; (rw [(hnn (by first | with_reducible assumption | exact hg)).1]; refine zP (ap_index_own (k := n) rfl rfl rfl rfl rfl (hnn (by first | with_reducible assumption | exact hg)).2) ?_)) | refine zU ?_ | refine zNt ?_ | (refine zGt (fun hg => ?_) fun hg => ?_; case' _ => (rw [(hnn (by first | with_reducible assumption | exact hg)).1]; refine zP (ap_index_own (k := n) rfl rfl rfl rfl rfl (hnn (by first | with_reducible assumption | exact hg)).2) ?_))
           all_goals first | (refine zY ?_; refine zF 0 1 false ?_) | refine zU ?_ | refine zNt ?_ | (refine zGt (fun hg => ?_) fun hg => ?_; case' _ => refine zF 0 1 false ?_)
           all_goals first | (refine zY ?_; (refine aops_q (aq_load_ownF1 (off := 0) rfl zUpd List.not_mem_nil rfl (getMap mv (hy (hnn (by first | with_reducible assumption | exact hg)).2)) zRc) rfl rfl rfl ?_)) | refine zU ?_ | refine zNt ?_ | (refine zGt (fun hg => ?_) fun hg => ?_; case' _ => (refine aops_q (aq_load_ownF1 (off := 0) rfl zUpd List.not_mem_nil rfl (getMap mv (hy (hnn (by first | with_reducible assumption | exact hg)).2)) zRc) rfl rfl rfl ?_))
           all_goals first | (refine zY ?_; refine zNo ?_) | refine zU ?_ | refine zNt ?_ | (refine zGt (fun hg => ?_) fun hg => ?_; case' _ => refine zNo ?_)
           all_goals refine zPk ?_
           all_goals (
             refine zN ?_
             refine zC (fun hc => ?_) fun hc => ?_
             · first
               | (exact absurd hc (by decide))
               | (have hve : vE x = true := by first | with_reducible assumption | assumption
                  have hn1 := hnn hve
                  have hy1 := hy hn1.2
                  have hyd : y.decl = false := not_t (by with_reducible assumption)
                  have hyy1 := getMap mv hy1
                  refine awp_region ?_; refine zF 0 1 false ?_; refine zL1 ?_; refine zF 0 1 false ?_; refine zL1 ?_; refine zF 3 3 true ?_; refine zLd ?_
                  refine zP (ap_build zKr rfl zRc zFill) ?_
                  refine zP (ap_index_own (k := n) rfl rfl rfl rfl rfl (by omega)) ?_
                  refine aops_store_ownF (off := 0) rfl rfl zFlat zUpd rfl hyy1 zRc ?_
                  refine aops_nil ?_; refine blockQ_n ?_; refine seqQ_n ?_; refine awp_region ?_; refine zAr ?_; refine zMv ?_; refine zN ?_
                  rw [hd] at hI
                  simp only [putsE] at hI
                  first
                  | (rw [putE_t hve hn hy1 hyd] at hI; refine ⟨k + 1, q.set n ⟨true, x.t⟩, ⟨by omega, by rw [List.length_set]; exact hql, hI⟩, by omega, ?_⟩; rw [List.map_set]; exact (wk zSub zKeep))
                  | (rw [putE_f1 (by with_reducible assumption)] at hI; refine ⟨k + 1, q, ⟨by omega, hql, hI⟩, by omega, wk zSub zKeep⟩)
                  | (rw [putE_f2 (by first | with_reducible assumption | exact hg) hn (hy (hnn (by first | with_reducible assumption | exact hg)).2) (not_f (by with_reducible assumption))] at hI; refine ⟨k + 1, q, ⟨by omega, hql, hI⟩, by omega, wk zSub zKeep⟩)
                 )
             · first
               | (exact absurd hc (by decide))
               | (refine awp_skip ?_
                  refine blockQ_n ?_; refine seqQ_n ?_; refine awp_region ?_; refine zAr ?_; refine zMv ?_; refine zN ?_
                  rw [hd] at hI
                  simp only [putsE] at hI
                  first
                  | (rw [putE_t hve hn hy1 hyd] at hI; refine ⟨k + 1, q.set n ⟨true, x.t⟩, ⟨by omega, by rw [List.length_set]; exact hql, hI⟩, by omega, ?_⟩; rw [List.map_set]; exact (wk zSub zKeep))
                  | (rw [putE_f1 (by with_reducible assumption)] at hI; refine ⟨k + 1, q, ⟨by omega, hql, hI⟩, by omega, wk zSub zKeep⟩)
                  | (rw [putE_f2 (by first | with_reducible assumption | exact hg) hn (hy (hnn (by first | with_reducible assumption | exact hg)).2) (not_f (by with_reducible assumption))] at hI; refine ⟨k + 1, q, ⟨by omega, hql, hI⟩, by omega, wk zSub zKeep⟩)
                 )
             )
         · have hge := of_decide_eq_false hc
           rw [drop_nil (by omega)] at hI; simp only [putsE] at hI
           refine awp_freeze (.slice (some ⟨g, 0, none⟩) 10 10) [6,7] zRem zSelC zHeapA ?_
           refine awp_exit ?_; refine seqQ_x ?_; refine seqQ_x ?_; refine blockQ_x rfl ?_; refine seqQ_n ?_; refine zS ?_; refine zLd ?_; refine zSt ?_; refine zN ?_; refine awp_ret ?_
           refine post_is (.cell rfl zUpd rfl rfl .nil) zKeep ?_
           rw [viewE_ok hn10, ← hI]; rfl
        )
    )
theorem rsets_con (l : List Evp) (hlen : l.length ≤ 100) (hl : ∀ e ∈ l, sizeT e.t ≤ 1000000000) (b : Bal) : Con Tryz.prog 146 [.sl 15 (l.map ev), bv b] [] (fun d H => ∃ a c : Int, d = .tup [.i a, .i c] ∧ H = []) := by
  have hcap : capB = 140737488355328 := rfl
  have hml : (l.map ev).length = l.length := by simp
  refine con_intro Tryz.func146 rfl Tryz.call146 rfl ?_
  refine zS ?_
  refine aops_box rfl zFlat rfl rfl (fun b3 => ?_)
  refine zAs ?_; refine zAs ?_; refine zN (zS ?_); refine zAs ?_; refine zAs ?_; refine zN ?_; refine awp_seq ?_; refine zS ?_; refine zMv ?_
  first | refine aops_len rfl rfl rfl rfl (fun _ => ?_) | refine zP (ap_len_arr rfl zUpd rfl) ?_ | refine zP (ap_len_nil rfl rfl) ?_
  refine zMv ?_; refine zN ?_; refine awp_block ?_
  refine awp_loop4 [0, 3, 11, 12] [.box b3 _ _] (fun (k : Nat) (v : Value) (w : Value) (q : BP) r => (6, .v v) :: (7, .v w) :: (13, .i (k : Int)) :: r) (fun (k : Nat) (v : Value) (w : Value) (q : BP) r => .arr v 4 1 (q.1.map bV) :: .arr w 4 1 (q.2.map bV) :: r) (fun (k : Nat) (v : Value) (w : Value) (q : BP) => k ≤ l.length ∧ q.1.length = k ∧ q.2.length = k) (fun (k : Nat) (v : Value) (w : Value) (q : BP) => l.length - k) (0) (.slice none 0 0) (.slice none 0 0) (([], [])) zRc ⟨by omega, rfl, rfl⟩ ((wk_own 4 1 rfl).trans ((wk_own 4 1 rfl).trans (wk zSub zKeep))) ?_
  intro k v w ⟨q1, q2⟩ ⟨hk, h1, h2⟩
  simp only at h1 h2
  have hm1 : (q1.map bV).length = q1.length := by simp
  have hm2 : (q2.map bV).length = q2.length := by simp
  refine zS ?_; refine zCm ?_; refine zN ?_; refine awp_seq ?_
  refine zC (fun hc => ?_) fun hc => ?_
  · have hlt := of_decide_eq_true hc
    obtain ⟨x, hx, hd⟩ := drop_cons (l := l) (k := k) (by omega)
    have hx' := getMap ev hx
    have hxs := hl x (List.mem_of_getElem? hx)
    refine awp_skip ?_; refine seqQ_n ?_; refine awp_seq ?_; refine awp_block ?_; refine zS ?_
    first | refine zP (ap_index rfl rfl rfl rfl (by decide) rfl zAss) ?_ | refine zP (ap_index rfl rfl rfl rfl (by decide) (by omega) zAss) ?_ | refine zP (ap_index_own rfl rfl rfl rfl rfl (by first | omega | (simp only [List.length_map, List.length_set, avs_len]; omega))) ?_
    refine zLd ?_
    refine aops_alloc rfl zRc rfl rfl (fun b9 => ?_)
    refine zSt ?_; refine zN (zS ?_); refine zLd ?_; refine zLd ?_
    (refine aops_call zRc (rap_con x hxs b) zSplit rfl rfl ?_; rintro _ _ ⟨y19, rfl, rfl⟩)
    refine zAs ?_; refine zN ?_; refine awp_region ?_; refine zMv ?_; refine zMv ?_; refine zMv ?_
    all_goals first | (refine zY ?_; refine zLd ?_) | refine zU ?_ | refine zNf ?_ | (refine zGf (fun hg => ?_) fun hg => ?_; case' _ => refine zLd ?_)
    all_goals first | (refine zY ?_; refine zLd ?_) | refine zU ?_ | refine zNf ?_ | (refine zGf (fun hg => ?_) fun hg => ?_; case' _ => refine zLd ?_)
    all_goals first | (refine zY ?_; (refine aops_call zRc (rvp_con x hxs b) zSplit rfl rfl ?_; rintro _ _ ⟨y25, rfl, rfl⟩)) | refine zU ?_ | refine zNf ?_ | (refine zGf (fun hg => ?_) fun hg => ?_; case' _ => (refine aops_call zRc (rvp_con x hxs b) zSplit rfl rfl ?_; rintro _ _ ⟨y25, rfl, rfl⟩))
    all_goals refine zPk ?_
    all_goals (refine aops_lit (e := 4) (sz := 1) (by_ := 1) rfl rfl zRc rfl rfl rfl rfl ?_)
    all_goals (first | refine aops_append (e := 4) (sz := 1) (by_ := 1) rfl zUpd rfl rfl rfl rfl rfl zLen (fun v28 hv28 => ?_) | refine aops_append_nil (e := 4) (sz := 1) (by_ := 1) rfl rfl rfl rfl rfl rfl zLen (fun v28 hv28 => ?_))
    all_goals refine zMv ?_
    all_goals refine zMv ?_
    all_goals (refine aops_lit (e := 4) (sz := 1) (by_ := 1) rfl rfl zRc rfl rfl rfl rfl ?_)
    all_goals (first | refine aops_append (e := 4) (sz := 1) (by_ := 1) rfl zUpd rfl rfl rfl rfl rfl zLen (fun v32 hv32 => ?_) | refine aops_append_nil (e := 4) (sz := 1) (by_ := 1) rfl rfl rfl rfl rfl rfl zLen (fun v32 hv32 => ?_))
    all_goals refine zAs ?_
    all_goals refine zAs ?_
    all_goals (
      refine aops_nil ?_; refine blockQ_n ?_; refine seqQ_n ?_; refine awp_region ?_; refine zAr ?_; refine zMv ?_; refine zN ?_
      rw [bsn q1, bsn q2]
      first
      | (have h0 : y19 = true := (by first | with_reducible assumption | exact hg); refine ⟨k + 1, _, _, (q1 ++ [true], q2 ++ [y19]), ⟨by omega, by simp; omega, by simp; omega⟩, by omega, wk zSub zKeep⟩)
      | (refine ⟨k + 1, _, _, (q1 ++ [y25], q2 ++ [y19]), ⟨by omega, by simp; omega, by simp; omega⟩, by omega, wk zSub zKeep⟩)
      )
  · have hge := of_decide_eq_false hc
    refine awp_freeze v [0,6,7] zRem zSelC zHeapA ?_
    refine awp_freeze w [0,6,7] zRem zSelC zHeapA ?_
    refine awp_exit ?_; refine seqQ_x ?_; refine seqQ_x ?_; refine blockQ_x rfl ?_; refine seqQ_n ?_; refine zS ?_; refine zMv ?_; refine zMv ?_
    refine aops_call_v zRc (rset_con l q1 (by omega)) rfl rfl ?_
    refine zMv ?_; refine zMv ?_
    refine aops_call_v zRc (rset_con l q2 (by omega)) rfl rfl ?_
    refine zAs ?_; refine zAs ?_; refine zN ?_; refine awp_ret ?_
    exact post_ret (.tmp rfl (.tmp rfl .nil)) zKeep ⟨_, _, rfl, rfl⟩
theorem racc25_con (node : Int) (t : Trust) (l : List Evp) (hlen : l.length ≤ 100) (hl : ∀ e ∈ l, sizeT e.t ≤ 1000000000) (b : Bal) : Con Tryz.prog 134 [.i node, av t, .sl 15 (l.map ev), bv b] [] (fun d H => ∃ y : Bool, d = .b y ∧ H = []) := by
  have hcap : capB = 140737488355328 := rfl
  refine con_intro Tryz.func134 rfl Tryz.call134 rfl ?_
  refine zS ?_
  refine aops_box rfl zFlat rfl rfl (fun b5 => ?_)
  refine aops_box rfl zFlat rfl rfl (fun b7 => ?_)
  refine zAs ?_; refine zN (zS ?_); refine zMv ?_; refine zLd ?_
  (refine aops_call zRc (rsets_con l hlen hl b) zSplit rfl rfl ?_; rintro _ _ ⟨za, zc, rfl, rfl⟩)
  refine zMv ?_
  refine zP (ap_extract rfl rfl) ?_
  refine zP (ap_extract rfl rfl) ?_
  refine zAs ?_; refine zAs ?_; refine zN (zS ?_); refine zMv ?_; refine zLd ?_; refine zMv ?_
  refine aops_call_v zRc (rview_con node t l hl) rfl rfl ?_
  refine zMv ?_; refine zMv ?_; refine zMv ?_
  refine aops_call_v zRc (raccepts_con _ _ _ _) rfl rfl ?_
  refine zAs ?_; refine zN ?_; refine awp_ret ?_
  exact post_ret (.tmp rfl .nil) zKeep ⟨_, rfl, rfl⟩
theorem rcnf25_con (node : Int) (t : Trust) (l : List Evp) (hlen : l.length ≤ 100) (hl : ∀ e ∈ l, sizeT e.t ≤ 1000000000) (b : Bal) : Con Tryz.prog 135 [.i node, av t, .sl 15 (l.map ev), bv b] [] (fun d H => ∃ y : Bool, d = .b y ∧ H = []) := by
  have hcap : capB = 140737488355328 := rfl
  refine con_intro Tryz.func135 rfl Tryz.call135 rfl ?_
  refine zS ?_
  refine aops_box rfl zFlat rfl rfl (fun b5 => ?_)
  refine aops_box rfl zFlat rfl rfl (fun b7 => ?_)
  refine zAs ?_; refine zN (zS ?_); refine zMv ?_; refine zLd ?_
  (refine aops_call zRc (rsets_con l hlen hl b) zSplit rfl rfl ?_; rintro _ _ ⟨za, zc, rfl, rfl⟩)
  refine zMv ?_
  refine zP (ap_extract rfl rfl) ?_
  refine zP (ap_extract rfl rfl) ?_
  refine zAs ?_; refine zAs ?_; refine zN (zS ?_); refine zMv ?_; refine zLd ?_; refine zMv ?_
  refine aops_call_v zRc (rview_con node t l hl) rfl rfl ?_
  refine zMv ?_; refine zMv ?_
  refine aops_call_v zRc (rconfirms_con _ _ _) rfl rfl ?_
  refine zAs ?_; refine zN ?_; refine awp_ret ?_
  exact post_ret (.tmp rfl .nil) zKeep ⟨_, rfl, rfl⟩
theorem raised_con (b : Bal) : Con Tryz.prog 133 [bv b] [] (Is (bv ⟨if 1000 ≤ b.n then 1000000 else b.n, b.v⟩) []) := by
  have hcap : capB = 140737488355328 := rfl
  refine con_intro Tryz.func133 rfl Tryz.call133 rfl ?_
  refine zS ?_
  refine aops_box rfl zFlat rfl rfl (fun b1 => ?_)
  refine aops_alloc rfl zRc rfl rfl (fun b2 => ?_)
  refine zN ?_; refine awp_seq ?_; refine zS ?_; refine zF 0 1 false ?_; refine zL1 ?_; refine zCm ?_; refine zN ?_
  refine zC (fun hc => ?_) fun hc => ?_
  · have h1 := of_decide_eq_true hc
    refine awp_region ?_; refine zF 0 1 false ?_; refine zSt ?_; refine zN (zS ?_); refine zLd ?_; refine zSt ?_; refine zN ?_; refine awp_ret ?_
    refine post_is (.cell rfl zUpd rfl rfl .nil) zKeep ?_
    unfold bv
    first | (rw [if_pos h1]; rfl) | (rw [if_neg h1]; rfl)
  · have h1 := of_decide_eq_false hc
    refine awp_skip ?_; refine seqQ_n ?_; refine zS ?_; refine zLd ?_; refine zSt ?_; refine zN ?_; refine awp_ret ?_
    refine post_is (.cell rfl zUpd rfl rfl .nil) zKeep ?_
    unfold bv
    first | (rw [if_pos h1]; rfl) | (rw [if_neg h1]; rfl)
set_option maxHeartbeats 2000000 in
theorem rnext_con (node : Int) (t : Trust) (l : List Evp) (hlen : l.length ≤ 100) (hl : ∀ e ∈ l, sizeT e.t ≤ 1000000000) (p q : Bal) (v : Str) : Con Tryz.prog 112 [.i node, av t, .sl 15 (l.map ev), bv p, bv q, .v (.string v)] [] (fun d H => ∃ b : Bal, d = bv b ∧ BB b ∧ H = []) := by
  have hcap : capB = 140737488355328 := rfl
  refine con_intro Tryz.func112 rfl Tryz.call112 rfl ?_
  refine zS ?_
  refine aops_box rfl zFlat rfl rfl (fun b7 => ?_)
  refine aops_box rfl zFlat rfl rfl (fun b9 => ?_)
  refine aops_box rfl zFlat rfl rfl (fun b10 => ?_)
  refine aops_alloc rfl zRc rfl rfl (fun b12 => ?_)
  refine zN ?_; refine awp_seq ?_; refine zS ?_; refine zMv ?_
  (refine aops_call zRc (rballots_con l hlen hl) zSplit rfl rfl ?_; rintro _ _ ⟨bs, rfl, hbs, rfl⟩; have hbm : (bs.map bv).length = bs.length := (by simp))
  first | refine aops_len rfl rfl rfl rfl (fun _ => ?_) | refine zP (ap_len_arr rfl zUpd rfl) ?_ | refine zP (ap_len_nil rfl rfl) ?_
  refine zMv ?_; refine zN ?_; refine awp_block ?_
  refine awp_loop1 [0, 2, 5, 7, 9, 10, 12, 16, 17] [.box b12 _ _, .box b10 _ _, .box b9 _ _, .box b7 _ _] (fun (k : Nat) r => (18, .i (k : Int)) :: r) (fun (k : Nat) r => r) (fun (k : Nat) => k ≤ bs.length) (fun (k : Nat) => bs.length - k) (0) zRc (by omega) (wk zSub zKeep) ?_
  intro k hk
  refine zS ?_; refine zCm ?_; refine zN ?_; refine awp_seq ?_
  refine zC (fun hc => ?_) fun hc => ?_
  · have hlt := of_decide_eq_true hc
    obtain ⟨x, hx, hd⟩ := drop_cons (l := bs) (k := k) (by omega)
    have hx' := getMap bv hx
    refine awp_skip ?_; refine seqQ_n ?_; refine awp_seq ?_; refine awp_block ?_; refine zS ?_
    first | refine zP (ap_index rfl rfl rfl rfl (by decide) rfl zAss) ?_ | refine zP (ap_index rfl rfl rfl rfl (by decide) (by omega) zAss) ?_ | refine zP (ap_index_own rfl rfl rfl rfl rfl (by first | omega | (simp only [List.length_map, List.length_set, avs_len]; omega))) ?_
    refine zLd ?_
    refine aops_alloc rfl zRc rfl rfl (fun b14 => ?_)
    refine zSt ?_; refine zN ?_; refine awp_seq ?_; refine awp_seq ?_
    refine awp_draw (Hm := []) zKr zSplit ?_
    refine zT 0 rfl (AP.ar (ap_move rfl)) ?_
    refine zT 1 rfl (AP.ar (ap_scmp rfl rfl rfl)) ?_
    refine zT 2 rfl (AP.ar (ap_move rfl)) ?_
    refine aany_guard 2 rfl (fun hg => ?_) (fun hg => ?_)
    rotate_left
    case' _ =>
      refine zK 3 ?_; refine zK 4 ?_; refine zK 5 ?_; refine zK 6 ?_; refine zTp 7 ?_
      refine zT 8 rfl (AP.ar (ap_move rfl)) ?_
      refine zTM 9 ?_; refine zTM 11 ?_; refine zTM 13 ?_
      refine aany_one 10 zKr rfl (.yes rfl rfl zDec) ?_
      refine aops_call_v zRc (raised_con p) rfl rfl ?_
      refine aops_nil ?_
      refine aany_one 12 zKr rfl (.yes rfl rfl zDec) ?_
      refine aops_call_v zRc (raised_con q) rfl rfl ?_
      refine aops_nil ?_
      refine aany_one 14 zKr rfl (.yes rfl rfl zDec) ?_
      refine aops_call_v zRc (rpr_con _ _ x) rfl rfl ?_
      refine aops_nil ?_; refine zTp 15 ?_; refine aany_nil zKr ?_
    rotate_right
    case' _ =>
      refine zTF 3 1 1 false ?_; refine zTL 4 ?_
      refine zT 5 rfl (AP.ar (ap_move rfl)) ?_
      refine zT 6 rfl (AP.ar (ap_scmp rfl rfl rfl)) ?_
      refine zTp 7 ?_
      refine zT 8 rfl (AP.ar (ap_move rfl)) ?_
      refine aany_guard 8 rfl (fun hg => ?_) (fun hg => ?_)
      rotate_left
      case' _ =>
        refine zTM 9 ?_; refine zTM 11 ?_; refine zTM 13 ?_
        refine aany_one 10 zKr rfl (.yes rfl rfl zDec) ?_
        refine aops_call_v zRc (raised_con p) rfl rfl ?_
        refine aops_nil ?_
        refine aany_one 12 zKr rfl (.yes rfl rfl zDec) ?_
        refine aops_call_v zRc (raised_con q) rfl rfl ?_
        refine aops_nil ?_
        refine aany_one 14 zKr rfl (.yes rfl rfl zDec) ?_
        refine aops_call_v zRc (rpr_con _ _ x) rfl rfl ?_
        refine aops_nil ?_; refine zTp 15 ?_; refine aany_nil zKr ?_
      rotate_right
      case' _ =>
        refine zK 9 ?_; refine zK 10 ?_; refine zK 11 ?_; refine zK 12 ?_; refine zK 13 ?_; refine zK 14 ?_; refine zTp 15 ?_; refine aany_nil zKr ?_
    all_goals (
      refine seqQ_n ?_
      refine zC (fun hc => ?_) fun hc => ?_
      · first
        | (exact absurd hc (by decide))
        | (refine awp_exit ?_
           refine seqQ_x ?_; refine blockQ_x rfl ?_; refine seqQ_n ?_; refine awp_region ?_; refine zAr ?_; refine zMv ?_; refine zN ?_
           refine ⟨k + 1, by omega, by omega, wk zSub zKeep⟩
          )
      · first
        | (exact absurd hc (by decide))
        | (refine awp_skip ?_
           refine seqQ_n ?_; refine zS ?_; refine zMv ?_; refine zLd ?_; refine zMv ?_; refine zLd ?_
           (refine aops_call zRc (racc25_con node t l hlen hl x) zSplit rfl rfl ?_; rintro _ _ ⟨y42, rfl, rfl⟩)
           refine zN ?_
           refine zC (fun hc => ?_) fun hc => ?_
           · refine awp_seq ?_
             refine awp_region ?_; refine zLd ?_; refine zSt ?_; refine zN ?_; refine awp_ret ?_; refine blockQ_r ?_; refine seqQ_r ?_; refine seqQ_r ?_; refine blockQ_r ?_; refine seqQ_r ?_
             exact post_ret (.cell rfl zUpd rfl rfl .nil) zKeep ⟨x, rfl, (hbs x (List.mem_of_getElem? hx)).1, rfl⟩
           · refine awp_skip ?_
             refine blockQ_n ?_; refine seqQ_n ?_; refine awp_region ?_; refine zAr ?_; refine zMv ?_; refine zN ?_
             refine ⟨k + 1, by omega, by omega, wk zSub zKeep⟩
          )
      )
  · refine awp_exit ?_
    refine seqQ_x ?_; refine seqQ_x ?_; refine blockQ_x rfl ?_; refine seqQ_n ?_; refine zS ?_
    refine zP (ap_build zKr rfl zRc zFill) ?_
    refine zSt ?_; refine zN ?_; refine awp_ret ?_
    first | exact post_ret (.cell rfl zUpd rfl rfl .nil) zKeep ⟨Bal.none, rfl, BB_none, rfl⟩ | exact post_ret (.cell rfl zUpd rfl rfl .nil) zKeep ⟨x, rfl, (hbs x (List.mem_of_getElem? hx)).1, rfl⟩
set_option maxHeartbeats 2000000 in
theorem rhigh_con (node : Int) (t : Trust) (l : List Evp) (hlen : l.length ≤ 100) (hl : ∀ e ∈ l, sizeT e.t ≤ 1000000000) (a : Bal) : Con Tryz.prog 116 [.i node, av t, .sl 15 (l.map ev), bv a] [] (fun d H => ∃ b : Bal, d = bv b ∧ (b = Bal.none ∨ (BB b ∧ b.n ≤ 1000 ∧ lB a b = true ∧ zB b = false)) ∧ H = []) := by
  have hcap : capB = 140737488355328 := rfl
  refine con_intro Tryz.func116 rfl Tryz.call116 rfl ?_
  refine zS ?_
  refine aops_box rfl zFlat rfl rfl (fun b5 => ?_)
  refine aops_box rfl zFlat rfl rfl (fun b7 => ?_)
  refine aops_alloc rfl zRc rfl rfl (fun b8 => ?_)
  refine zN ?_; refine awp_seq ?_; refine zS ?_; refine zMv ?_
  (refine aops_call zRc (rballots_con l hlen hl) zSplit rfl rfl ?_; rintro _ _ ⟨bs, rfl, hbs, rfl⟩; have hbm : (bs.map bv).length = bs.length := (by simp))
  first | refine aops_len rfl rfl rfl rfl (fun _ => ?_) | refine zP (ap_len_arr rfl zUpd rfl) ?_ | refine zP (ap_len_nil rfl rfl) ?_
  refine zMv ?_; refine zN ?_; refine awp_block ?_
  refine awp_loop1 [0, 2, 5, 7, 8, 12, 13] [.box b8 _ _, .box b7 _ _, .box b5 _ _] (fun (k : Nat) r => (14, .i (k : Int)) :: r) (fun (k : Nat) r => r) (fun (k : Nat) => k ≤ bs.length) (fun (k : Nat) => bs.length - k) (0) zRc (by omega) (wk zSub zKeep) ?_
  intro k hk
  refine zS ?_; refine zCm ?_; refine zN ?_; refine awp_seq ?_
  refine zC (fun hc => ?_) fun hc => ?_
  · have hlt := of_decide_eq_true hc
    obtain ⟨x, hx, hd⟩ := drop_cons (l := bs) (k := k) (by omega)
    have hx' := getMap bv hx
    refine awp_skip ?_; refine seqQ_n ?_; refine awp_seq ?_; refine awp_block ?_; refine zS ?_
    first | refine zP (ap_index rfl rfl rfl rfl (by decide) rfl zAss) ?_ | refine zP (ap_index rfl rfl rfl rfl (by decide) (by omega) zAss) ?_ | refine zP (ap_index_own rfl rfl rfl rfl rfl (by first | omega | (simp only [List.length_map, List.length_set, avs_len]; omega))) ?_
    refine zLd ?_
    refine aops_alloc rfl zRc rfl rfl (fun b10 => ?_)
    refine zSt ?_; refine zN (zS ?_); refine zF 0 1 false ?_; refine zL1 ?_; refine zCm ?_; refine zMv ?_
    all_goals first | (refine zY ?_; refine zLd ?_) | refine zU ?_ | refine zNt ?_ | (refine zGt (fun hg => ?_) fun hg => ?_; case' _ => refine zLd ?_)
    all_goals first | (refine zY ?_; refine zLd ?_) | refine zU ?_ | refine zNt ?_ | (refine zGt (fun hg => ?_) fun hg => ?_; case' _ => refine zLd ?_)
    all_goals first | (refine zY ?_; refine aops_call_v zRc (rl_con a x) rfl rfl ?_) | refine zU ?_ | refine zNt ?_ | (refine zGt (fun hg => ?_) fun hg => ?_; case' _ => refine aops_call_v zRc (rl_con a x) rfl rfl ?_)
    all_goals refine zPk ?_
    all_goals refine zMv ?_
    all_goals first | (refine zY ?_; refine zMv ?_) | refine zU ?_ | refine zNt ?_ | (refine zGt (fun hg => ?_) fun hg => ?_; case' _ => refine zMv ?_)
    all_goals first | (refine zY ?_; refine zLd ?_) | refine zU ?_ | refine zNt ?_ | (refine zGt (fun hg => ?_) fun hg => ?_; case' _ => refine zLd ?_)
    all_goals first | (refine zY ?_; refine zMv ?_) | refine zU ?_ | refine zNt ?_ | (refine zGt (fun hg => ?_) fun hg => ?_; case' _ => refine zMv ?_)
    all_goals first | (refine zY ?_; refine zLd ?_) | refine zU ?_ | refine zNt ?_ | (refine zGt (fun hg => ?_) fun hg => ?_; case' _ => refine zLd ?_)
    all_goals first | (refine zY ?_; (refine aops_call zRc (rcnf25_con node t l hlen hl x) zSplit rfl rfl ?_; rintro _ _ ⟨y31, rfl, rfl⟩)) | refine zU ?_ | refine zNt ?_ | (refine zGt (fun hg => ?_) fun hg => ?_; case' _ => (refine aops_call zRc (rcnf25_con node t l hlen hl x) zSplit rfl rfl ?_; rintro _ _ ⟨y31, rfl, rfl⟩))
    all_goals refine zPk ?_
    all_goals (
      refine zN ?_
      refine zC (fun hc => ?_) fun hc => ?_
      · first
        | (exact absurd hc (by decide))
        | (refine awp_seq ?_
           refine awp_region ?_; refine zLd ?_; refine zSt ?_; refine zN ?_; refine awp_ret ?_; refine blockQ_r ?_; refine seqQ_r ?_; refine seqQ_r ?_; refine blockQ_r ?_; refine seqQ_r ?_
           have h1 := of_decide_eq_true (show decide (x.n ≤ 1000) = true by first | with_reducible assumption | exact hg)
           have h2 : lB a x = true := by first | with_reducible assumption | exact hg
           exact post_ret (.cell rfl zUpd rfl rfl .nil) zKeep ⟨x, rfl, .inr ⟨(hbs x (List.mem_of_getElem? hx)).1, h1, h2, (hbs x (List.mem_of_getElem? hx)).2⟩, rfl⟩
          )
      · first
        | (exact absurd hc (by decide))
        | (refine awp_skip ?_
           refine blockQ_n ?_; refine seqQ_n ?_; refine awp_region ?_; refine zAr ?_; refine zMv ?_; refine zN ?_
           refine ⟨k + 1, by omega, by omega, wk zSub zKeep⟩
          )
      )
  · refine awp_exit ?_
    refine seqQ_x ?_; refine seqQ_x ?_; refine blockQ_x rfl ?_; refine seqQ_n ?_; refine zS ?_
    refine zP (ap_build zKr rfl zRc zFill) ?_
    refine zSt ?_; refine zN ?_; refine awp_ret ?_
    exact post_ret (.cell rfl zUpd rfl rfl .nil) zKeep ⟨Bal.none, rfl, .inl rfl, rfl⟩
set_option maxHeartbeats 2000000 in
theorem rjoin_con (p q b : Bal) : Con Tryz.prog 114 [bv p, bv q, bv b] [] (Is (.tup [bv (joinV p q b).1, bv (joinV p q b).2]) []) := by
  have hcap : capB = 140737488355328 := rfl
  refine con_intro Tryz.func114 rfl Tryz.call114 rfl ?_
  refine zS ?_
  refine aops_box rfl zFlat rfl rfl (fun b3 => ?_)
  refine aops_box rfl zFlat rfl rfl (fun b4 => ?_)
  refine aops_box rfl zFlat rfl rfl (fun b5 => ?_)
  refine aops_alloc rfl zRc rfl rfl (fun b6 => ?_)
  refine aops_alloc rfl zRc rfl rfl (fun b7 => ?_)
  refine zN ?_; refine awp_seq ?_; refine awp_block ?_; refine zS ?_; refine zLd ?_
  refine aops_call_v zRc (rz_con b) rfl rfl ?_
  refine zAs ?_; refine zN ?_
  refine zC (fun hc => ?_) fun hc => ?_
  · refine awp_seq ?_
    refine awp_draw (Hm := [.box b7 _ _, .box b6 _ _]) zKr zSplit ?_
    refine zTM 0 ?_; refine zTM 1 ?_
    refine aany_one 2 zKr rfl (.none rfl) ?_
    refine zSt ?_; refine aops_nil ?_
    refine aany_one 3 zKr rfl (.none rfl) ?_
    refine zSt ?_; refine aops_nil ?_; refine aany_nil zKr ?_
    all_goals (
      refine seqQ_n ?_; refine awp_ret ?_; refine blockQ_r ?_; refine seqQ_r ?_
      refine post_is (.cell rfl zUpd rfl rfl (.cell rfl zUpd rfl rfl .nil)) zKeep ?_
      unfold joinV
      first | (simp [*]; done) | (simp [*]; rfl) | (simp_all; done) | (simp_all; rfl)
      )
  · refine awp_seq ?_
    refine awp_region ?_; refine zLd ?_
    refine aops_call_v zRc (rz_con p) rfl rfl ?_
    refine zAs ?_; refine zN ?_
    refine zC (fun hc => ?_) fun hc => ?_
    · refine awp_seq ?_
      refine awp_draw (Hm := [.box b7 _ _, .box b6 _ _]) zKr zSplit ?_
      refine zTM 0 ?_; refine zTM 1 ?_
      refine aany_one 2 zKr rfl (.none rfl) ?_
      refine zSt ?_; refine aops_nil ?_
      refine aany_one 3 zKr rfl (.none rfl) ?_
      refine zSt ?_; refine aops_nil ?_; refine aany_nil zKr ?_
      all_goals (
        refine seqQ_n ?_; refine awp_ret ?_; refine blockQ_r ?_; refine seqQ_r ?_
        refine post_is (.cell rfl zUpd rfl rfl (.cell rfl zUpd rfl rfl .nil)) zKeep ?_
        unfold joinV
        first | (simp [*]; done) | (simp [*]; rfl) | (simp_all; done) | (simp_all; rfl)
        )
    · refine awp_seq ?_
      refine awp_region ?_; refine zLd ?_; refine zLd ?_
      refine aops_call_v zRc (rl_con p b) rfl rfl ?_
      refine zAs ?_; refine zN ?_
      refine zC (fun hc => ?_) fun hc => ?_
      · refine awp_seq ?_
        refine zS ?_; refine zLd ?_; refine zLd ?_
        refine aops_call_v zRc (rcp_con p b) rfl rfl ?_
        refine zNo ?_; refine zN ?_
        refine zC (fun hc => ?_) fun hc => ?_
        · refine awp_seq ?_
          refine awp_draw (Hm := [.box b7 _ _, .box b6 _ _]) zKr zSplit ?_
          refine zTM 0 ?_; refine zTM 1 ?_
          refine aany_one 2 zKr rfl (.none rfl) ?_
          refine zSt ?_; refine aops_nil ?_
          refine aany_one 3 zKr rfl (.none rfl) ?_
          refine zSt ?_; refine aops_nil ?_; refine aany_nil zKr ?_
          all_goals (
            refine seqQ_n ?_; refine awp_ret ?_; refine seqQ_r ?_; refine blockQ_r ?_; refine seqQ_r ?_
            refine post_is (.cell rfl zUpd rfl rfl (.cell rfl zUpd rfl rfl .nil)) zKeep ?_
            unfold joinV
            first | (simp [*]; done) | (simp [*]; rfl) | (simp_all; done) | (simp_all; rfl)
            )
        · refine awp_skip ?_
          refine seqQ_n ?_; refine awp_seq ?_; refine zS ?_; refine zLd ?_; refine zLd ?_
          refine aops_call_v zRc (rcp_con q b) rfl rfl ?_
          refine zN ?_
          refine zC (fun hc => ?_) fun hc => ?_
          · refine awp_region ?_
            refine zP (ap_build zKr rfl zRc zFill) ?_
            refine zSt ?_; refine zN ?_; refine awp_seq ?_
            refine awp_draw (Hm := [.box b7 _ _, .box b6 _ _]) zKr zSplit ?_
            refine zTM 0 ?_; refine zTM 1 ?_
            refine aany_one 2 zKr rfl (.none rfl) ?_
            refine zSt ?_; refine aops_nil ?_
            refine aany_one 3 zKr rfl (.none rfl) ?_
            refine zSt ?_; refine aops_nil ?_; refine aany_nil zKr ?_
            all_goals (
              refine seqQ_n ?_; refine awp_ret ?_; refine blockQ_r ?_; refine seqQ_r ?_
              refine post_is (.cell rfl zUpd rfl rfl (.cell rfl zUpd rfl rfl .nil)) zKeep ?_
              unfold joinV
              first | (simp [*]; done) | (simp [*]; rfl) | (simp_all; done) | (simp_all; rfl)
              )
          · refine awp_skip ?_
            refine seqQ_n ?_; refine awp_seq ?_
            refine awp_draw (Hm := [.box b7 _ _, .box b6 _ _]) zKr zSplit ?_
            refine zTM 0 ?_; refine zTM 1 ?_
            refine aany_one 2 zKr rfl (.none rfl) ?_
            refine zSt ?_; refine aops_nil ?_
            refine aany_one 3 zKr rfl (.none rfl) ?_
            refine zSt ?_; refine aops_nil ?_; refine aany_nil zKr ?_
            all_goals (
              refine seqQ_n ?_; refine awp_ret ?_; refine blockQ_r ?_; refine seqQ_r ?_
              refine post_is (.cell rfl zUpd rfl rfl (.cell rfl zUpd rfl rfl .nil)) zKeep ?_
              unfold joinV
              first | (simp [*]; done) | (simp [*]; rfl) | (simp_all; done) | (simp_all; rfl)
              )
      · refine awp_seq ?_
        refine awp_region ?_; refine zLd ?_; refine zLd ?_
        refine aops_call_v zRc (rl_con b p) rfl rfl ?_
        refine zMv ?_
        all_goals first | (refine zY ?_; refine zLd ?_) | refine zU ?_ | refine zNt ?_ | (refine zGt (fun hg => ?_) fun hg => ?_; case' _ => refine zLd ?_)
        all_goals first | (refine zY ?_; refine zLd ?_) | refine zU ?_ | refine zNt ?_ | (refine zGt (fun hg => ?_) fun hg => ?_; case' _ => refine zLd ?_)
        all_goals first | (refine zY ?_; refine aops_call_v zRc (rcp_con b p) rfl rfl ?_) | refine zU ?_ | refine zNt ?_ | (refine zGt (fun hg => ?_) fun hg => ?_; case' _ => refine aops_call_v zRc (rcp_con b p) rfl rfl ?_)
        all_goals first | (refine zY ?_; refine zNo ?_) | refine zU ?_ | refine zNt ?_ | (refine zGt (fun hg => ?_) fun hg => ?_; case' _ => refine zNo ?_)
        all_goals refine zPk ?_
        all_goals refine zMv ?_
        all_goals first | (refine zY ?_; refine zLd ?_) | refine zU ?_ | refine zNt ?_ | (refine zGt (fun hg => ?_) fun hg => ?_; case' _ => refine zLd ?_)
        all_goals first | (refine zY ?_; refine aops_call_v zRc (rz_con q) rfl rfl ?_) | refine zU ?_ | refine zNt ?_ | (refine zGt (fun hg => ?_) fun hg => ?_; case' _ => refine aops_call_v zRc (rz_con q) rfl rfl ?_)
        all_goals first | (refine zY ?_; refine zMv ?_) | refine zU ?_ | refine zNt ?_ | (refine zGt (fun hg => ?_) fun hg => ?_; case' _ => refine zMv ?_)
        all_goals first | (refine zY ?_; refine zLd ?_) | refine zU ?_ | refine zNf ?_ | (refine zGf (fun hg => ?_) fun hg => ?_; case' _ => refine zLd ?_)
        all_goals first | (refine zY ?_; refine zLd ?_) | refine zU ?_ | refine zNf ?_ | (refine zGf (fun hg => ?_) fun hg => ?_; case' _ => refine zLd ?_)
        all_goals first | (refine zY ?_; refine aops_call_v zRc (rl_con q b) rfl rfl ?_) | refine zU ?_ | refine zNf ?_ | (refine zGf (fun hg => ?_) fun hg => ?_; case' _ => refine aops_call_v zRc (rl_con q b) rfl rfl ?_)
        all_goals (first | (refine aops_yes rfl rfl rfl rfl zDec ?_; refine zPk ?_) | refine aops_no_u rfl rfl rfl ?_ | refine aops_no_t rfl rfl rfl rfl zDec ?_ | (refine aops_guard_t rfl rfl rfl rfl (fun hg => ?_) (fun hg => ?_); case' _ => refine zPk ?_))
        all_goals refine zPk ?_
        all_goals refine zAs ?_
        all_goals (
          refine zN ?_
          refine zC (fun hc => ?_) fun hc => ?_
          · refine awp_seq ?_
            refine awp_draw (Hm := [.box b7 _ _, .box b6 _ _]) zKr zSplit ?_
            refine zTM 0 ?_; refine zTM 1 ?_
            refine aany_one 2 zKr rfl (.none rfl) ?_
            refine zSt ?_; refine aops_nil ?_
            refine aany_one 3 zKr rfl (.none rfl) ?_
            refine zSt ?_; refine aops_nil ?_; refine aany_nil zKr ?_
            all_goals (
              refine seqQ_n ?_; refine awp_ret ?_; refine blockQ_r ?_; refine seqQ_r ?_
              refine post_is (.cell rfl zUpd rfl rfl (.cell rfl zUpd rfl rfl .nil)) zKeep ?_
              unfold joinV
              first | (simp [*]; done) | (simp [*]; rfl) | (simp_all; done) | (simp_all; rfl)
              )
          · refine awp_skip ?_
            refine blockQ_n ?_; refine seqQ_n ?_; refine awp_seq ?_
            refine awp_draw (Hm := [.box b7 _ _, .box b6 _ _]) zKr zSplit ?_
            refine zTM 0 ?_; refine zTM 1 ?_
            refine aany_one 2 zKr rfl (.none rfl) ?_
            refine zSt ?_; refine aops_nil ?_
            refine aany_one 3 zKr rfl (.none rfl) ?_
            refine zSt ?_; refine aops_nil ?_; refine aany_nil zKr ?_
            all_goals (
              refine seqQ_n ?_; refine awp_ret ?_
              refine post_is (.cell rfl zUpd rfl rfl (.cell rfl zUpd rfl rfl .nil)) zKeep ?_
              unfold joinV
              first | (simp [*]; done) | (simp [*]; rfl) | (simp_all; done) | (simp_all; rfl)
              )
          )
theorem rsets26_con (l : List Evp) (hlen : l.length ≤ 100) (hl : ∀ e ∈ l, sizeT e.t ≤ 1000000000) (sv : Str) (lo hi : Int) : Con Tryz.prog 149 [.sl 15 (l.map ev), .v (.string sv), .i lo, .i hi] [] (fun d H => ∃ a c : Int, d = .tup [.i a, .i c] ∧ H = []) := by
  have hcap : capB = 140737488355328 := rfl
  have hml : (l.map ev).length = l.length := by simp
  refine con_intro Tryz.func149 rfl Tryz.call149 rfl ?_
  refine zS ?_; refine zAs ?_; refine zAs ?_; refine zN (zS ?_); refine zAs ?_; refine zAs ?_; refine zN ?_; refine awp_seq ?_; refine zS ?_; refine zMv ?_
  first | refine aops_len rfl rfl rfl rfl (fun _ => ?_) | refine zP (ap_len_arr rfl zUpd rfl) ?_ | refine zP (ap_len_nil rfl rfl) ?_
  refine zMv ?_; refine zN ?_; refine awp_block ?_
  refine awp_loop4 [0, 1, 2, 3, 15, 16] [] (fun (k : Nat) (v : Value) (w : Value) (q : BP) r => (10, .v v) :: (11, .v w) :: (17, .i (k : Int)) :: r) (fun (k : Nat) (v : Value) (w : Value) (q : BP) r => .arr v 4 1 (q.1.map bV) :: .arr w 4 1 (q.2.map bV) :: r) (fun (k : Nat) (v : Value) (w : Value) (q : BP) => k ≤ l.length ∧ q.1.length = k ∧ q.2.length = k) (fun (k : Nat) (v : Value) (w : Value) (q : BP) => l.length - k) (0) (.slice none 0 0) (.slice none 0 0) (([], [])) zRc ⟨by omega, rfl, rfl⟩ ((wk_own 4 1 rfl).trans ((wk_own 4 1 rfl).trans (wk zSub zKeep))) ?_
  intro k v w ⟨q1, q2⟩ ⟨hk, h1, h2⟩
  simp only at h1 h2
  have hm1 : (q1.map bV).length = q1.length := by simp
  have hm2 : (q2.map bV).length = q2.length := by simp
  refine zS ?_; refine zCm ?_; refine zN ?_; refine awp_seq ?_
  refine zC (fun hc => ?_) fun hc => ?_
  · have hlt := of_decide_eq_true hc
    obtain ⟨x, hx, hd⟩ := drop_cons (l := l) (k := k) (by omega)
    have hx' := getMap ev hx
    have hxs := hl x (List.mem_of_getElem? hx)
    refine awp_skip ?_; refine seqQ_n ?_; refine awp_seq ?_; refine awp_block ?_; refine zS ?_
    first | refine zP (ap_index rfl rfl rfl rfl (by decide) rfl zAss) ?_ | refine zP (ap_index rfl rfl rfl rfl (by decide) (by omega) zAss) ?_ | refine zP (ap_index_own rfl rfl rfl rfl rfl (by first | omega | (simp only [List.length_map, List.length_set, avs_len]; omega))) ?_
    refine zLd ?_
    refine aops_alloc rfl zRc rfl rfl (fun b13 => ?_)
    refine zSt ?_; refine zN (zS ?_); refine zLd ?_; refine zMv ?_; refine zMv ?_; refine zMv ?_
    (refine aops_call zRc (rac_con x hxs sv lo hi) zSplit rfl rfl ?_; rintro _ _ ⟨ya, rfl, rfl⟩)
    refine zAs ?_; refine zN ?_; refine awp_region ?_; refine zMv ?_; refine zMv ?_; refine zMv ?_
    all_goals first | (refine zY ?_; refine zLd ?_) | refine zU ?_ | refine zNf ?_ | (refine zGf (fun hg => ?_) fun hg => ?_; case' _ => refine zLd ?_)
    all_goals first | (refine zY ?_; refine zMv ?_) | refine zU ?_ | refine zNf ?_ | (refine zGf (fun hg => ?_) fun hg => ?_; case' _ => refine zMv ?_)
    all_goals first | (refine zY ?_; refine zMv ?_) | refine zU ?_ | refine zNf ?_ | (refine zGf (fun hg => ?_) fun hg => ?_; case' _ => refine zMv ?_)
    all_goals first | (refine zY ?_; refine zMv ?_) | refine zU ?_ | refine zNf ?_ | (refine zGf (fun hg => ?_) fun hg => ?_; case' _ => refine zMv ?_)
    all_goals first | (refine zY ?_; (refine aops_call zRc (rvc_con x hxs sv lo hi) zSplit rfl rfl ?_; rintro _ _ ⟨yv, rfl, rfl⟩)) | refine zU ?_ | refine zNf ?_ | (refine zGf (fun hg => ?_) fun hg => ?_; case' _ => (refine aops_call zRc (rvc_con x hxs sv lo hi) zSplit rfl rfl ?_; rintro _ _ ⟨yv, rfl, rfl⟩))
    all_goals refine zPk ?_
    all_goals (refine aops_lit (e := 4) (sz := 1) (by_ := 1) rfl rfl zRc rfl rfl rfl rfl ?_)
    all_goals (first | refine aops_append (e := 4) (sz := 1) (by_ := 1) rfl zUpd rfl rfl rfl rfl rfl zLen (fun v36 hv36 => ?_) | refine aops_append_nil (e := 4) (sz := 1) (by_ := 1) rfl rfl rfl rfl rfl rfl zLen (fun v36 hv36 => ?_))
    all_goals refine zMv ?_
    all_goals refine zMv ?_
    all_goals (refine aops_lit (e := 4) (sz := 1) (by_ := 1) rfl rfl zRc rfl rfl rfl rfl ?_)
    all_goals (first | refine aops_append (e := 4) (sz := 1) (by_ := 1) rfl zUpd rfl rfl rfl rfl rfl zLen (fun v40 hv40 => ?_) | refine aops_append_nil (e := 4) (sz := 1) (by_ := 1) rfl rfl rfl rfl rfl rfl zLen (fun v40 hv40 => ?_))
    all_goals refine zAs ?_
    all_goals refine zAs ?_
    all_goals (
      refine aops_nil ?_; refine blockQ_n ?_; refine seqQ_n ?_; refine awp_region ?_; refine zAr ?_; refine zMv ?_; refine zN ?_
      rw [bsn q1, bsn q2]
      first
      | (have h0 : ya = true := (by first | with_reducible assumption | exact hg); refine ⟨k + 1, _, _, (q1 ++ [true], q2 ++ [ya]), ⟨by omega, by simp; omega, by simp; omega⟩, by omega, wk zSub zKeep⟩)
      | (refine ⟨k + 1, _, _, (q1 ++ [yv], q2 ++ [ya]), ⟨by omega, by simp; omega, by simp; omega⟩, by omega, wk zSub zKeep⟩)
      )
  · have hge := of_decide_eq_false hc
    refine awp_freeze v [0,10,11] zRem zSelC zHeapA ?_
    refine awp_freeze w [0,10,11] zRem zSelC zHeapA ?_
    refine awp_exit ?_; refine seqQ_x ?_; refine seqQ_x ?_; refine blockQ_x rfl ?_; refine seqQ_n ?_; refine zS ?_; refine zMv ?_; refine zMv ?_
    refine aops_call_v zRc (rset_con l q1 (by omega)) rfl rfl ?_
    refine zMv ?_; refine zMv ?_
    refine aops_call_v zRc (rset_con l q2 (by omega)) rfl rfl ?_
    refine zAs ?_; refine zAs ?_; refine zN ?_; refine awp_ret ?_
    exact post_ret (.tmp rfl (.tmp rfl .nil)) zKeep ⟨_, _, rfl, rfl⟩
theorem racc26_con (node : Int) (t : Trust) (l : List Evp) (hlen : l.length ≤ 100) (hl : ∀ e ∈ l, sizeT e.t ≤ 1000000000) (sv : Str) (lo hi : Int) : Con Tryz.prog 139 [.i node, av t, .sl 15 (l.map ev), .v (.string sv), .i lo, .i hi] [] (fun d H => ∃ y : Bool, d = .b y ∧ H = []) := by
  have hcap : capB = 140737488355328 := rfl
  refine con_intro Tryz.func139 rfl Tryz.call139 rfl ?_
  refine zS ?_
  refine aops_box rfl zFlat rfl rfl (fun b7 => ?_)
  refine zAs ?_; refine zN (zS ?_); refine zMv ?_; refine zMv ?_; refine zMv ?_; refine zMv ?_
  (refine aops_call zRc (rsets26_con l hlen hl sv lo hi) zSplit rfl rfl ?_; rintro _ _ ⟨za, zc, rfl, rfl⟩)
  refine zMv ?_
  refine zP (ap_extract rfl rfl) ?_
  refine zP (ap_extract rfl rfl) ?_
  refine zAs ?_; refine zAs ?_; refine zN (zS ?_); refine zMv ?_; refine zLd ?_; refine zMv ?_
  refine aops_call_v zRc (rview_con node t l hl) rfl rfl ?_
  refine zMv ?_; refine zMv ?_; refine zMv ?_
  refine aops_call_v zRc (raccepts_con _ _ _ _) rfl rfl ?_
  refine zAs ?_; refine zN ?_; refine awp_ret ?_
  exact post_ret (.tmp rfl .nil) zKeep ⟨_, rfl, rfl⟩
theorem rcnf26_con (node : Int) (t : Trust) (l : List Evp) (hlen : l.length ≤ 100) (hl : ∀ e ∈ l, sizeT e.t ≤ 1000000000) (sv : Str) (lo hi : Int) : Con Tryz.prog 141 [.i node, av t, .sl 15 (l.map ev), .v (.string sv), .i lo, .i hi] [] (fun d H => ∃ y : Bool, d = .b y ∧ H = []) := by
  have hcap : capB = 140737488355328 := rfl
  refine con_intro Tryz.func141 rfl Tryz.call141 rfl ?_
  refine zS ?_
  refine aops_box rfl zFlat rfl rfl (fun b7 => ?_)
  refine zAs ?_; refine zN (zS ?_); refine zMv ?_; refine zMv ?_; refine zMv ?_; refine zMv ?_
  (refine aops_call zRc (rsets26_con l hlen hl sv lo hi) zSplit rfl rfl ?_; rintro _ _ ⟨za, zc, rfl, rfl⟩)
  refine zMv ?_
  refine zP (ap_extract rfl rfl) ?_
  refine zP (ap_extract rfl rfl) ?_
  refine zAs ?_; refine zAs ?_; refine zN (zS ?_); refine zMv ?_; refine zLd ?_; refine zMv ?_
  refine aops_call_v zRc (rview_con node t l hl) rfl rfl ?_
  refine zMv ?_; refine zMv ?_
  refine aops_call_v zRc (rconfirms_con _ _ _) rfl rfl ?_
  refine zAs ?_; refine zN ?_; refine awp_ret ?_
  exact post_ret (.tmp rfl .nil) zKeep ⟨_, rfl, rfl⟩
theorem rfree_con (p q : Bal) (n : Int) (sv : Str) : Con Tryz.prog 138 [bv p, bv q, .i n, .v (.string sv)] [] (fun d H => ∃ y : Bool, d = .b y ∧ H = []) := by
  have hcap : capB = 140737488355328 := rfl
  refine con_intro Tryz.func138 rfl Tryz.call138 rfl ?_
  refine zS ?_
  refine aops_box rfl zFlat rfl rfl (fun b4 => ?_)
  refine aops_box rfl zFlat rfl rfl (fun b5 => ?_)
  refine zAs ?_; refine zN (zS ?_); refine zMv ?_; refine zMv ?_
  refine zP (ap_build zKr rfl zRc zFill) ?_
  refine aops_alloc rfl zRc rfl rfl (fun b9 => ?_)
  refine zSt ?_; refine zN (zS ?_); refine zLd ?_; refine zLd ?_
  refine aops_call_v zRc (rab_con p ⟨n, sv⟩) rfl rfl ?_
  refine zNo ?_; refine zMv ?_
  all_goals first | (refine zY ?_; refine zLd ?_) | refine zU ?_ | refine zNt ?_ | (refine zGt (fun hg => ?_) fun hg => ?_; case' _ => refine zLd ?_)
  all_goals first | (refine zY ?_; refine zLd ?_) | refine zU ?_ | refine zNt ?_ | (refine zGt (fun hg => ?_) fun hg => ?_; case' _ => refine zLd ?_)
  all_goals first | (refine zY ?_; refine aops_call_v zRc (rab_con q ⟨n, sv⟩) rfl rfl ?_) | refine zU ?_ | refine zNt ?_ | (refine zGt (fun hg => ?_) fun hg => ?_; case' _ => refine aops_call_v zRc (rab_con q ⟨n, sv⟩) rfl rfl ?_)
  all_goals first | (refine zY ?_; refine zNo ?_) | refine zU ?_ | refine zNt ?_ | (refine zGt (fun hg => ?_) fun hg => ?_; case' _ => refine zNo ?_)
  all_goals refine zPk ?_
  all_goals refine zAs ?_
  all_goals (
    refine zN ?_; refine awp_ret ?_
    exact post_ret (.tmp rfl .nil) zKeep ⟨_, rfl, rfl⟩
    )
set_option maxHeartbeats 1000000 in
theorem rdown_con (node : Int) (t : Trust) (l : List Evp) (hlen : l.length ≤ 100) (hl : ∀ e ∈ l, sizeT e.t ≤ 1000000000) (sv : Str) (fr hi : Int) : Con Tryz.prog 140 [.i node, av t, .sl 15 (l.map ev), .v (.string sv), .i fr, .i hi] [] (fun d H => ∃ r : Int, d = .i r ∧ (r ≤ fr ∧ (r = fr ∨ (1 ≤ r ∧ r ≤ 1000))) ∧ H = []) := by
  have hcap : capB = 140737488355328 := rfl
  refine con_intro Tryz.func140 rfl Tryz.call140 rfl ?_
  refine zS ?_
  refine aops_box rfl zFlat rfl rfl (fun b7 => ?_)
  refine zAs ?_; refine zN (zS ?_); refine zMv ?_; refine zMv ?_
  (refine aops_call zRc (rbounds_con l hlen hl sv) zSplit rfl rfl ?_; rintro _ _ ⟨q, rfl, hq, rfl⟩; have hqm : (q.map D.i).length = q.length := (by simp))
  refine zAs ?_; refine zN ?_; refine awp_seq ?_; refine zS ?_; refine zMv ?_
  first | refine aops_len rfl rfl rfl rfl (fun _ => ?_) | refine zP (ap_len_arr rfl zUpd rfl) ?_ | refine zP (ap_len_nil rfl rfl) ?_
  refine zAr ?_; refine zAs ?_; refine zN ?_; refine awp_block ?_
  refine awp_loop2 [0, 2, 3, 5, 7, 13] [.box b7 _ _] (fun (i : Int) (f : Int) r => (4, .i f) :: (14, .i i) :: r) (fun (i : Int) (f : Int) r => r) (fun (i : Int) (f : Int) => (-1 ≤ i ∧ i < (q.length : Int)) ∧ f ≤ fr ∧ (f = fr ∨ (1 ≤ f ∧ f ≤ 1000))) (fun (i : Int) (f : Int) => (i + 1).toNat) (((q.length : Int) - 1)) (fr) zRc ⟨by omega, by omega, .inl rfl⟩ (by rw [hqm]; exact (wk zSub zKeep)) ?_
  intro i f ⟨hi0, hf, hf2⟩
  refine awp_seq ?_; refine zS ?_; refine zMv ?_; refine zCm ?_; refine zN ?_
  refine zC (fun hc => ?_) fun hc => ?_
  · obtain ⟨n, rfl⟩ := Int.eq_ofNat_of_zero_le (show 0 ≤ i from of_decide_eq_true (hc))
    obtain ⟨x, hx, _⟩ := drop_cons (l := q) (k := n) (by omega)
    have hx' := getMap D.i hx
    have hxb := hq x (List.mem_of_getElem? hx)
    refine awp_skip ?_; refine seqQ_n ?_; refine awp_seq ?_; refine awp_block ?_; refine awp_seq ?_; refine zS ?_; refine zMv ?_; refine zMv ?_
    first | refine zP (ap_index rfl rfl rfl rfl (by decide) rfl zAss) ?_ | refine zP (ap_index rfl rfl rfl rfl (by decide) (by omega) zAss) ?_ | refine zP (ap_index_own rfl rfl rfl rfl rfl (by first | omega | (simp only [List.length_map, List.length_set, avs_len]; omega))) ?_
    refine zL1 ?_; refine zMv ?_; refine zCm ?_; refine zN ?_
    refine zC (fun hc => ?_) fun hc => ?_
    · refine awp_exit ?_
      refine seqQ_x ?_; refine blockQ_x rfl ?_; refine seqQ_n ?_; refine awp_region ?_; refine zMv ?_; refine zAr ?_; refine zAs ?_; refine zN ?_
      first
      | (have hlt : ¬ x ≥ f := of_decide_eq_false (by with_reducible assumption); have hya : (!ya) = false := (by with_reducible assumption); refine ⟨(n : Int) - 1, x, ⟨by omega, by omega, .inr hxb⟩, by omega, wk zSub zKeep⟩)
      | (refine ⟨(n : Int) - 1, f, ⟨by omega, hf, hf2⟩, by omega, wk zSub zKeep⟩)
    · refine awp_skip ?_
      refine seqQ_n ?_; refine awp_seq ?_; refine awp_seq ?_
      refine awp_draw (Hm := []) zKr zSplit ?_
      refine zT 0 rfl (AP.ar (ap_move rfl)) ?_
      refine zTM 1 ?_
      refine zT 2 rfl (AP.ar (ap_move rfl)) ?_
      refine zT 3 rfl (AP.ar (ap_move rfl)) ?_
      refine zT 4 rfl (AP.ar (ap_move rfl)) ?_
      refine zT 5 rfl (AP.ar (ap_move rfl)) ?_
      first | refine zT 6 rfl (AP.ar (ap_index rfl rfl rfl rfl (by decide) rfl zAss)) ?_ | refine zT 6 rfl (AP.ar (ap_index rfl rfl rfl rfl (by decide) (by omega) zAss)) ?_ | refine zT 6 rfl (AP.ar (ap_index_own rfl rfl rfl rfl rfl (by first | omega | (simp only [List.length_map, List.length_set, avs_len]; omega)))) ?_
      refine zTL 7 ?_
      refine zT 8 rfl (AP.ar (ap_move rfl)) ?_
      refine aany_one 9 zKr rfl (.none rfl) ?_
      (refine aops_call zRc (racc26_con node t l hlen hl sv x hi) zSplit rfl rfl ?_; rintro _ _ ⟨ya, rfl, rfl⟩)
      refine aops_nil ?_
      refine zT 10 rfl (AP.ar (ap_not rfl)) ?_
      refine aany_nil zKr ?_
      all_goals (
        refine seqQ_n ?_
        refine zC (fun hc => ?_) fun hc => ?_
        · refine awp_exit ?_
          refine seqQ_x ?_; refine blockQ_y rfl ?_; refine seqQ_x ?_; refine seqQ_x ?_; refine blockQ_x rfl ?_; refine seqQ_n ?_; refine zS ?_; refine zMv ?_; refine zAs ?_; refine zN ?_; refine awp_ret ?_
          exact post_ret (.tmp rfl .nil) zKeep ⟨f, rfl, ⟨hf, hf2⟩, rfl⟩
        · refine awp_skip ?_
          refine seqQ_n ?_; refine awp_region ?_; refine zMv ?_; refine zMv ?_
          first | refine zP (ap_index rfl rfl rfl rfl (by decide) rfl zAss) ?_ | refine zP (ap_index rfl rfl rfl rfl (by decide) (by omega) zAss) ?_ | refine zP (ap_index_own rfl rfl rfl rfl rfl (by first | omega | (simp only [List.length_map, List.length_set, avs_len]; omega))) ?_
          refine zL1 ?_; refine zAs ?_; refine aops_nil ?_; refine blockQ_n ?_; refine seqQ_n ?_; refine awp_region ?_; refine zMv ?_; refine zAr ?_; refine zAs ?_; refine zN ?_
          first
          | (have hlt : ¬ x ≥ f := of_decide_eq_false (by with_reducible assumption); have hya : (!ya) = false := (by with_reducible assumption); refine ⟨(n : Int) - 1, x, ⟨by omega, by omega, .inr hxb⟩, by omega, wk zSub zKeep⟩)
          | (refine ⟨(n : Int) - 1, f, ⟨by omega, hf, hf2⟩, by omega, wk zSub zKeep⟩)
        )
  · refine awp_exit ?_
    refine seqQ_x ?_; refine seqQ_x ?_; refine blockQ_x rfl ?_; refine seqQ_n ?_; refine zS ?_; refine zMv ?_; refine zAs ?_; refine zN ?_; refine awp_ret ?_
    exact post_ret (.tmp rfl .nil) zKeep ⟨f, rfl, ⟨hf, hf2⟩, rfl⟩
theorem at_exi (l : List Int) (i : Int) : ∃ y, 0 ≤ i → i < (l.length : Int) → l[i.toNat]? = some y := by
  by_cases h : i.toNat < l.length
  · exact ⟨l[i.toNat], fun _ _ => List.getElem?_eq_getElem h⟩
  · exact ⟨0, fun h0 h1 => absurd (by omega) h⟩
set_option maxHeartbeats 2000000 in
theorem rextend_con (node : Int) (t : Trust) (l : List Evp) (hlen : l.length ≤ 100) (hl : ∀ e ∈ l, sizeT e.t ≤ 1000000000) (sv : Str) (lo hi : Int) (hlo : 0 ≤ lo ∧ lo ≤ 1000) (hhi : 0 ≤ hi ∧ hi ≤ 1000) : Con Tryz.prog 118 [.i node, av t, .sl 15 (l.map ev), .v (.string sv), .i lo, .i hi] [] (fun d H => ∃ r k : Int, d = .tup [.i r, .i k] ∧ ((0 ≤ r ∧ r ≤ 1000) ∧ (0 ≤ k ∧ k ≤ 1000) ∧ ((k = hi ∧ r ≤ lo) ∨ hi < k)) ∧ H = []) := by
  have hcap : capB = 140737488355328 := rfl
  refine con_intro Tryz.func118 rfl Tryz.call118 rfl ?_
  refine zS ?_
  refine aops_box rfl zFlat rfl rfl (fun b7 => ?_)
  refine zAs ?_; refine zAs ?_; refine zN (zS ?_); refine zMv ?_; refine zMv ?_
  (refine aops_call zRc (rbounds_con l hlen hl sv) zSplit rfl rfl ?_; rintro _ _ ⟨q, rfl, hq, rfl⟩; have hqm : (q.map D.i).length = q.length := (by simp))
  refine zAs ?_; refine zN ?_; refine awp_seq ?_; refine zS ?_; refine zMv ?_
  first | refine aops_len rfl rfl rfl rfl (fun _ => ?_) | refine zP (ap_len_arr rfl zUpd rfl) ?_ | refine zP (ap_len_nil rfl rfl) ?_
  refine zAr ?_; refine zAs ?_; refine zN ?_; refine awp_block ?_
  refine awp_loop1 [0, 2, 3, 7, 14] [.box b7 _ _] (fun (i : Int) r => (4, .i lo) :: (5, .i hi) :: (15, .i i) :: r) (fun (i : Int) r => r) (fun (i : Int) => -1 ≤ i ∧ i < (q.length : Int)) (fun (i : Int) => (i + 1).toNat) (((q.length : Int) - 1)) zRc ⟨by omega, by omega⟩ (by rw [hqm]; exact (wk zSub zKeep)) ?_
  intro i ⟨hi1, hi2⟩
  obtain ⟨y, hy⟩ := at_exi q i
  refine awp_seq ?_; refine zS ?_; refine zMv ?_; refine zCm ?_; refine zMv ?_
  all_goals first | (refine zY ?_; refine zMv ?_) | refine zU ?_ | refine zNt ?_ | (refine zGt (fun hg => ?_) fun hg => ?_; case' _ => refine zMv ?_)
  all_goals first | (refine zY ?_; refine zMv ?_) | refine zU ?_ | refine zNt ?_ | (refine zGt (fun hg => ?_) fun hg => ?_; case' _ => refine zMv ?_)
  all_goals first | (refine zY ?_; (refine aops_p (ap_index (k := i.toNat) rfl rfl rfl rfl (by decide) (by have h9 : decide (i ≥ 0) = true := (by first | with_reducible assumption | exact hg | exact hc); have := of_decide_eq_true h9; omega) (getMap D.i (hy (by have h9 : decide (i ≥ 0) = true := (by first | with_reducible assumption | exact hg | exact hc); have := of_decide_eq_true h9; omega) (by omega)))) rfl rfl rfl ?_)) | refine zU ?_ | refine zNt ?_ | (refine zGt (fun hg => ?_) fun hg => ?_; case' _ => (refine aops_p (ap_index (k := i.toNat) rfl rfl rfl rfl (by decide) (by have h9 : decide (i ≥ 0) = true := (by first | with_reducible assumption | exact hg | exact hc); have := of_decide_eq_true h9; omega) (getMap D.i (hy (by have h9 : decide (i ≥ 0) = true := (by first | with_reducible assumption | exact hg | exact hc); have := of_decide_eq_true h9; omega) (by omega)))) rfl rfl rfl ?_))
  all_goals first | (refine zY ?_; refine zL1 ?_) | refine zU ?_ | refine zNt ?_ | (refine zGt (fun hg => ?_) fun hg => ?_; case' _ => refine zL1 ?_)
  all_goals first | (refine zY ?_; refine zMv ?_) | refine zU ?_ | refine zNt ?_ | (refine zGt (fun hg => ?_) fun hg => ?_; case' _ => refine zMv ?_)
  all_goals first | (refine zY ?_; refine zCm ?_) | refine zU ?_ | refine zNt ?_ | (refine zGt (fun hg => ?_) fun hg => ?_; case' _ => refine zCm ?_)
  all_goals refine zPk ?_
  all_goals (
    refine zN ?_
    refine zC (fun hc => ?_) fun hc => ?_
    · first
      | (exact absurd hc (by decide))
      | (have hyg := of_decide_eq_true hc
         obtain ⟨n, rfl⟩ := Int.eq_ofNat_of_zero_le (show 0 ≤ i from of_decide_eq_true (by first | with_reducible assumption | exact hg : decide (i ≥ 0) = true))
         obtain ⟨x, hx, _⟩ := drop_cons (l := q) (k := n) (by omega)
         have hx' := getMap D.i hx
         have hxb := hq x (List.mem_of_getElem? hx)
         have hxy : x = y := by have := hy (by omega) (by omega); rw [Int.toNat_natCast, hx] at this; exact Option.some.inj this
         refine awp_skip ?_; refine seqQ_n ?_; refine awp_seq ?_; refine awp_block ?_; refine zS ?_; refine zMv ?_; refine zMv ?_
         first | refine zP (ap_index rfl rfl rfl rfl (by decide) rfl zAss) ?_ | refine zP (ap_index rfl rfl rfl rfl (by decide) (by omega) zAss) ?_ | refine zP (ap_index_own rfl rfl rfl rfl rfl (by first | omega | (simp only [List.length_map, List.length_set, avs_len]; omega))) ?_
         refine zL1 ?_; refine zAs ?_; refine zN ?_; refine awp_seq ?_; refine zS ?_; refine zMv ?_; refine zLd ?_; refine zMv ?_; refine zMv ?_; refine zMv ?_; refine zMv ?_
         (refine aops_call zRc (racc26_con node t l hlen hl sv x x) zSplit rfl rfl ?_; rintro _ _ ⟨ya, rfl, rfl⟩)
         refine zNo ?_; refine zN ?_
         refine zC (fun hc => ?_) fun hc => ?_
         · refine awp_exit ?_
           refine seqQ_x ?_; refine blockQ_x rfl ?_; refine seqQ_n ?_; refine awp_region ?_; refine zMv ?_; refine zAr ?_; refine zAs ?_; refine zN ?_
           refine ⟨(n : Int) - 1, ⟨by omega, by omega⟩, by omega, wk zSub zKeep⟩
         · refine awp_skip ?_
           refine seqQ_n ?_; refine zS ?_; refine zMv ?_; refine zLd ?_; refine zMv ?_; refine zMv ?_; refine zMv ?_; refine zMv ?_
           (refine aops_call zRc (rdown_con node t l hlen hl sv x x) zSplit rfl rfl ?_; rintro _ _ ⟨m, rfl, ⟨hm1, hm2⟩, rfl⟩)
           refine zAs ?_; refine zN ?_; refine awp_seq ?_; refine zS ?_; refine zMv ?_; refine zAr ?_; refine zMv ?_; refine zCm ?_; refine zN ?_
           refine zC (fun hc => ?_) fun hc => ?_
           · have hml := of_decide_eq_true hc
             refine awp_region ?_; refine zMv ?_; refine zAs ?_; refine zN (zS ?_); refine zMv ?_; refine zAs ?_; refine zN ?_; refine awp_exit ?_; refine blockQ_y rfl ?_; refine seqQ_x ?_; refine seqQ_x ?_; refine blockQ_x rfl ?_; refine seqQ_n ?_; refine zS ?_; refine zMv ?_; refine zLd ?_; refine zMv ?_; refine zMv ?_; refine zMv ?_; refine zMv ?_
             (refine aops_call zRc (rdown_con node t l hlen hl sv _ _) zSplit rfl rfl ?_; rintro _ _ ⟨r, rfl, ⟨hr1, hr2⟩, rfl⟩)
             refine zMv ?_; refine zAs ?_; refine zAs ?_; refine zN ?_; refine awp_ret ?_
             refine post_ret (.tmp rfl (.tmp rfl .nil)) zKeep ⟨r, _, rfl, ?_, rfl⟩
             first | omega | (refine ⟨?_, ?_, ?_⟩ <;> omega)
           · have hml := of_decide_eq_false hc
             refine awp_region ?_; refine zMv ?_; refine zMv ?_
             refine zP (ap_min rfl rfl) ?_
             refine zAs ?_; refine zN (zS ?_); refine zMv ?_; refine zAs ?_; refine zN ?_; refine awp_exit ?_; refine blockQ_y rfl ?_; refine seqQ_x ?_; refine seqQ_x ?_; refine blockQ_x rfl ?_; refine seqQ_n ?_; refine zS ?_; refine zMv ?_; refine zLd ?_; refine zMv ?_; refine zMv ?_; refine zMv ?_; refine zMv ?_
             (refine aops_call zRc (rdown_con node t l hlen hl sv _ _) zSplit rfl rfl ?_; rintro _ _ ⟨r, rfl, ⟨hr1, hr2⟩, rfl⟩)
             refine zMv ?_; refine zAs ?_; refine zAs ?_; refine zN ?_; refine awp_ret ?_
             refine post_ret (.tmp rfl (.tmp rfl .nil)) zKeep ⟨r, _, rfl, ?_, rfl⟩
             first | omega | (refine ⟨?_, ?_, ?_⟩ <;> omega)
        )
    · first
      | (exact absurd hc (by decide))
      | (refine awp_exit ?_
         refine seqQ_x ?_; refine seqQ_x ?_; refine blockQ_x rfl ?_; refine seqQ_n ?_; refine zS ?_; refine zMv ?_; refine zLd ?_; refine zMv ?_; refine zMv ?_; refine zMv ?_; refine zMv ?_
         (refine aops_call zRc (rdown_con node t l hlen hl sv _ _) zSplit rfl rfl ?_; rintro _ _ ⟨r, rfl, ⟨hr1, hr2⟩, rfl⟩)
         refine zMv ?_; refine zAs ?_; refine zAs ?_; refine zN ?_; refine awp_ret ?_
         refine post_ret (.tmp rfl (.tmp rfl .nil)) zKeep ⟨r, _, rfl, ?_, rfl⟩
         first | omega | (refine ⟨?_, ?_, ?_⟩ <;> omega)
        )
    )
set_option maxHeartbeats 2000000 in
theorem rfinal_con (node : Int) (t : Trust) (l : List Evp) (hlen : l.length ≤ 100) (hl : ∀ e ∈ l, sizeT e.t ≤ 1000000000) (sv : Str) : Con Tryz.prog 119 [.i node, av t, .sl 15 (l.map ev), .v (.string sv)] [] (fun d H => ∃ (r k : Int) (y : Bool), d = .tup [.i r, .i k, .b y] ∧ (y = true → (1 ≤ r ∧ r ≤ 1000) ∧ (1 ≤ k ∧ k ≤ 1000)) ∧ H = []) := by
  have hcap : capB = 140737488355328 := rfl
  refine con_intro Tryz.func119 rfl Tryz.call119 rfl ?_
  refine zS ?_
  refine aops_box rfl zFlat rfl rfl (fun b5 => ?_)
  refine zAs ?_; refine zAs ?_; refine zAs ?_; refine zN (zS ?_); refine zMv ?_; refine zMv ?_
  (refine aops_call zRc (rbounds_con l hlen hl sv) zSplit rfl rfl ?_; rintro _ _ ⟨q, rfl, hq, rfl⟩; have hqm : (q.map D.i).length = q.length := (by simp))
  refine zAs ?_; refine zN ?_; refine awp_seq ?_; refine zS ?_; refine zMv ?_
  first | refine aops_len rfl rfl rfl rfl (fun _ => ?_) | refine zP (ap_len_arr rfl zUpd rfl) ?_ | refine zP (ap_len_nil rfl rfl) ?_
  refine zAr ?_; refine zAs ?_; refine zN ?_; refine awp_block ?_
  refine awp_loop1 [0, 2, 3, 5, 11] [.box b5 _ _] (fun (j : Int) r => (12, .i j) :: r) (fun (j : Int) r => r) (fun (j : Int) => -1 ≤ j ∧ j < (q.length : Int)) (fun (j : Int) => (j + 1).toNat) (((q.length : Int) - 1)) zRc ⟨by omega, by omega⟩ (by rw [hqm]; exact (wk zSub zKeep)) ?_
  intro j ⟨hj1, hj2⟩
  refine awp_seq ?_; refine zS ?_; refine zMv ?_; refine zCm ?_; refine zN ?_
  refine zC (fun hc => ?_) fun hc => ?_
  · obtain ⟨n, rfl⟩ := Int.eq_ofNat_of_zero_le (show 0 ≤ j from of_decide_eq_true (hc))
    obtain ⟨x, hx, _⟩ := drop_cons (l := q) (k := n) (by omega)
    have hx' := getMap D.i hx
    have hxb := hq x (List.mem_of_getElem? hx)
    refine awp_skip ?_; refine seqQ_n ?_; refine awp_seq ?_; refine awp_block ?_; refine zS ?_; refine zMv ?_; refine zMv ?_
    first | refine zP (ap_index rfl rfl rfl rfl (by decide) rfl zAss) ?_ | refine zP (ap_index rfl rfl rfl rfl (by decide) (by omega) zAss) ?_ | refine zP (ap_index_own rfl rfl rfl rfl rfl (by first | omega | (simp only [List.length_map, List.length_set, avs_len]; omega))) ?_
    refine zL1 ?_; refine zAs ?_; refine zN ?_; refine awp_seq ?_; refine zS ?_; refine zMv ?_; refine zLd ?_; refine zMv ?_; refine zMv ?_; refine zMv ?_; refine zMv ?_
    (refine aops_call zRc (rcnf26_con node t l hlen hl sv x x) zSplit rfl rfl ?_; rintro _ _ ⟨ya, rfl, rfl⟩)
    refine zNo ?_; refine zN ?_
    refine zC (fun hc => ?_) fun hc => ?_
    · refine awp_exit ?_
      refine seqQ_x ?_; refine blockQ_x rfl ?_; refine seqQ_n ?_; refine awp_region ?_; refine zMv ?_; refine zAr ?_; refine zAs ?_; refine zN ?_
      refine ⟨(n : Int) - 1, ⟨by omega, by omega⟩, by omega, wk zSub zKeep⟩
    · refine awp_skip ?_
      refine seqQ_n ?_; refine zS ?_; refine zMv ?_; refine zAs ?_; refine zN ?_; refine awp_seq ?_; refine zS ?_; refine zMv ?_; refine zAr ?_; refine zAs ?_; refine zN ?_; refine awp_block ?_
      refine awp_loop2 [0, 2, 3, 5, 11, 13] [.box b5 _ _] (fun (i : Int) (f : Int) r => (14, .i f) :: (15, .i i) :: r) (fun (i : Int) (f : Int) r => r) (fun (i : Int) (f : Int) => (-1 ≤ i ∧ i < (q.length : Int)) ∧ (1 ≤ f ∧ f ≤ 1000)) (fun (i : Int) (f : Int) => (i + 1).toNat) (((n : Int) - 1)) (x) zRc ⟨by omega, hxb⟩ (wk zSub zKeep) ?_
      intro i f ⟨⟨hi1, hi2⟩, hfb⟩
      obtain ⟨y, hy⟩ := at_exi q i
      refine awp_seq ?_; refine awp_seq ?_
      refine awp_draw (Hm := []) zKr zSplit ?_
      refine zT 0 rfl (AP.ar (ap_move rfl)) ?_
      refine zT 1 rfl (AP.ar (ap_cmp rfl rfl rfl)) ?_
      refine zT 2 rfl (AP.ar (ap_move rfl)) ?_
      refine aany_guard 2 rfl (fun hg => ?_) (fun hg => ?_)
      rotate_left
      case' _ =>
        refine zK 3 ?_; refine zK 4 ?_; refine zK 5 ?_; refine zK 6 ?_; refine zK 7 ?_; refine zK 8 ?_; refine zK 9 ?_; refine zK 10 ?_; refine zK 11 ?_; refine zK 12 ?_; refine zTp 13 ?_; refine aany_nil zKr ?_
      rotate_right
      case' _ =>
        refine zT 3 rfl (AP.ar (ap_move rfl)) ?_
        refine zTM 4 ?_
        refine zT 5 rfl (AP.ar (ap_move rfl)) ?_
        refine zT 6 rfl (AP.ar (ap_move rfl)) ?_
        refine zT 7 rfl (AP.ar (ap_move rfl)) ?_
        refine zT 8 rfl (AP.ar (ap_move rfl)) ?_
        refine aany_take 9 rfl (.yes rfl rfl zDec) zKr zKr zKr (AP.ar (ap_index (k := i.toNat) rfl rfl rfl rfl (by decide) (by have h9 : decide (i ≥ 0) = true := (by first | with_reducible assumption | exact hg | exact hc); have := of_decide_eq_true h9; omega) (getMap D.i (hy (by have h9 : decide (i ≥ 0) = true := (by first | with_reducible assumption | exact hg | exact hc); have := of_decide_eq_true h9; omega) (by omega))))) rfl rfl ?_
        refine zTL 10 ?_
        refine zT 11 rfl (AP.ar (ap_move rfl)) ?_
        refine aany_one 12 zKr rfl (.yes rfl rfl zDec) ?_
        (refine aops_call zRc (rcnf26_con node t l hlen hl sv y x) zSplit rfl rfl ?_; rintro _ _ ⟨yb, rfl, rfl⟩)
        refine aops_nil ?_; refine zTp 13 ?_; refine aany_nil zKr ?_
      all_goals (
        refine seqQ_n ?_
        refine zC (fun hc => ?_) fun hc => ?_
        · first
          | (exact absurd hc (by decide))
          | (have hi0 : 0 ≤ i := of_decide_eq_true (by first | with_reducible assumption | exact hg : decide (i ≥ 0) = true)
             obtain ⟨n2, hn2⟩ := Int.eq_ofNat_of_zero_le hi0
             have hyy : q[i.toNat]? = some y := hy hi0 (by omega)
             have hyb := hq y (List.mem_of_getElem? hyy)
             refine awp_skip ?_; refine seqQ_n ?_; refine awp_seq ?_; refine awp_block ?_; refine awp_region ?_; refine zMv ?_; refine zMv ?_
             refine zP (ap_index (k := i.toNat) rfl rfl rfl rfl (by decide) (by omega) (getMap D.i hyy)) ?_
             refine zL1 ?_; refine zAs ?_; refine aops_nil ?_; refine blockQ_n ?_; refine seqQ_n ?_; refine awp_region ?_; refine zMv ?_; refine zAr ?_; refine zAs ?_; refine zN ?_
             refine ⟨i - 1, y, ⟨by omega, hyb⟩, by omega, wk zSub zKeep⟩
            )
        · first
          | (exact absurd hc (by decide))
          | (refine awp_exit ?_
             refine seqQ_x ?_; refine seqQ_x ?_; refine blockQ_x rfl ?_; refine seqQ_n ?_; refine zS ?_; refine zMv ?_; refine zMv ?_; refine zAs ?_; refine zAs ?_; refine zAs ?_; refine zN ?_; refine awp_ret ?_; refine blockQ_r ?_; refine seqQ_r ?_; refine seqQ_r ?_; refine blockQ_r ?_; refine seqQ_r ?_
             refine post_ret (.tmp rfl (.tmp rfl (.tmp rfl .nil))) zKeep ⟨f, x, true, rfl, fun _ => ⟨hfb, hxb⟩, rfl⟩
            )
        )
  · refine awp_exit ?_
    refine seqQ_x ?_; refine seqQ_x ?_; refine blockQ_x rfl ?_; refine seqQ_n ?_; refine zS ?_; refine zAs ?_; refine zAs ?_; refine zAs ?_; refine zN ?_; refine awp_ret ?_
    first | refine post_ret (.tmp rfl (.tmp rfl (.tmp rfl .nil))) zKeep ⟨0, 0, false, rfl, fun h => (by cases h), rfl⟩ | refine post_ret (.tmp rfl (.tmp rfl (.tmp rfl .nil))) zKeep ⟨f, x, true, rfl, fun _ => ⟨hfb, hxb⟩, rfl⟩
set_option maxHeartbeats 4000000 in
theorem rfirst_con (node : Int) (t : Trust) (l : List Evp) (hlen : l.length ≤ 100) (hl : ∀ e ∈ l, sizeT e.t ≤ 1000000000) (p p2 : Bal) : Con Tryz.prog 117 [.i node, av t, .sl 15 (l.map ev), bv p, bv p2] [] (fun d H => ∃ (sv : Str) (r k : Int) (y : Bool), d = .tup [.v (.string sv), .i r, .i k, .b y] ∧ (y = true → sv.size ≤ 200 ∧ (1 ≤ r ∧ r ≤ 1000) ∧ (1 ≤ k ∧ k ≤ 1000)) ∧ H = []) := by
  have hcap : capB = 140737488355328 := rfl
  refine con_intro Tryz.func117 rfl Tryz.call117 rfl ?_
  refine zS ?_
  refine aops_box rfl zFlat rfl rfl (fun b6 => ?_)
  refine aops_box rfl zFlat rfl rfl (fun b8 => ?_)
  refine aops_box rfl zFlat rfl rfl (fun b9 => ?_)
  refine zAs ?_; refine zAs ?_; refine zAs ?_; refine zAs ?_; refine zN (zS ?_)
  refine aops_alloc rfl zRc rfl rfl (fun b14 => ?_)
  refine zN ?_; refine awp_seq ?_; refine zS ?_; refine zMv ?_
  (refine aops_call zRc (rvalues_con l hlen hl) zSplit rfl rfl ?_; rintro _ _ ⟨vs, rfl, hvs, rfl⟩; have hvm : (vs.map strv).length = vs.length := (by simp))
  first | refine aops_len rfl rfl rfl rfl (fun _ => ?_) | refine zP (ap_len_arr rfl zUpd rfl) ?_ | refine zP (ap_len_nil rfl rfl) ?_
  refine zMv ?_; refine zN ?_; refine awp_block ?_
  refine awp_loop2 [0, 2, 6, 8, 9, 14, 25, 26] [.box b9 _ _, .box b8 _ _, .box b6 _ _] (fun (k : Nat) (b : Bal) r => (27, .i (k : Int)) :: r) (fun (k : Nat) (b : Bal) r => .box b14 29 [.i b.n, .v (.string b.v)] :: r) (fun (k : Nat) (b : Bal) => k ≤ vs.length ∧ (b = Bal.none ∨ (1 ≤ b.n ∧ b.n ≤ 1000 ∧ b.v.size ≤ 200))) (fun (k : Nat) (b : Bal) => vs.length - k) (0) (Bal.none) zRc ⟨by omega, .inl rfl⟩ (wk zSub zKeep) ?_
  intro k b ⟨hk, hb⟩
  refine zS ?_; refine zCm ?_; refine zN ?_; refine awp_seq ?_
  refine zC (fun hc => ?_) fun hc => ?_
  · have hlt := of_decide_eq_true hc
    obtain ⟨s, hs, _⟩ := drop_cons (l := vs) (k := k) (by omega)
    have hs' := getMap strv hs
    refine awp_skip ?_; refine seqQ_n ?_; refine awp_seq ?_; refine awp_block ?_; refine zS ?_
    first | refine zP (ap_index rfl rfl rfl rfl (by decide) rfl zAss) ?_ | refine zP (ap_index rfl rfl rfl rfl (by decide) (by omega) zAss) ?_ | refine zP (ap_index_own rfl rfl rfl rfl rfl (by first | omega | (simp only [List.length_map, List.length_set, avs_len]; omega))) ?_
    refine zL1 ?_; refine zAs ?_; refine zN (zS ?_); refine zMv ?_; refine zMv ?_
    (refine aops_call zRc (rbounds_con l hlen hl s) zSplit rfl rfl ?_; rintro _ _ ⟨q, rfl, hq, rfl⟩; have hqm : (q.map D.i).length = q.length := (by simp))
    first | refine aops_len rfl rfl rfl rfl (fun _ => ?_) | refine zP (ap_len_arr rfl zUpd rfl) ?_ | refine zP (ap_len_nil rfl rfl) ?_
    refine zMv ?_; refine zN ?_; refine awp_block ?_
    refine awp_loop2 [0, 2, 6, 8, 9, 14, 16, 25, 26, 27, 33, 34] [.box b9 _ _, .box b8 _ _, .box b6 _ _] (fun (j : Nat) (b : Bal) r => (35, .i (j : Int)) :: r) (fun (j : Nat) (b : Bal) r => .box b14 29 [.i b.n, .v (.string b.v)] :: r) (fun (j : Nat) (b : Bal) => j ≤ q.length ∧ (b = Bal.none ∨ (1 ≤ b.n ∧ b.n ≤ 1000 ∧ b.v.size ≤ 200))) (fun (j : Nat) (b : Bal) => q.length - j) (0) (b) zRc ⟨by omega, hb⟩ (wk zSub zKeep) ?_
    intro j b ⟨hj, hb⟩
    refine zS ?_; refine zCm ?_; refine zN ?_; refine awp_seq ?_
    refine zC (fun hc => ?_) fun hc => ?_
    · have hlt2 := of_decide_eq_true hc
      obtain ⟨x, hx, _⟩ := drop_cons (l := q) (k := j) (by omega)
      have hx' := getMap D.i hx
      have hxb := hq x (List.mem_of_getElem? hx)
      refine awp_skip ?_; refine seqQ_n ?_; refine awp_seq ?_; refine awp_block ?_; refine zS ?_
      first | refine zP (ap_index rfl rfl rfl rfl (by decide) rfl zAss) ?_ | refine zP (ap_index rfl rfl rfl rfl (by decide) (by omega) zAss) ?_ | refine zP (ap_index_own rfl rfl rfl rfl rfl (by first | omega | (simp only [List.length_map, List.length_set, avs_len]; omega))) ?_
      refine zL1 ?_; refine zAs ?_; refine zN (zS ?_); refine zMv ?_; refine zMv ?_
      refine zP (ap_build zKr rfl zRc zFill) ?_
      refine aops_alloc rfl zRc rfl rfl (fun b19 => ?_)
      refine zSt ?_; refine zN (zS ?_); refine zLd ?_; refine zLd ?_
      refine aops_call_v zRc (rl_con b ⟨x, s⟩) rfl rfl ?_
      refine zMv ?_
      all_goals first | (refine zY ?_; refine zLd ?_) | refine zU ?_ | refine zNt ?_ | (refine zGt (fun hg => ?_) fun hg => ?_; case' _ => refine zLd ?_)
      all_goals first | (refine zY ?_; refine zLd ?_) | refine zU ?_ | refine zNt ?_ | (refine zGt (fun hg => ?_) fun hg => ?_; case' _ => refine zLd ?_)
      all_goals first | (refine zY ?_; refine zMv ?_) | refine zU ?_ | refine zNt ?_ | (refine zGt (fun hg => ?_) fun hg => ?_; case' _ => refine zMv ?_)
      all_goals first | (refine zY ?_; refine zMv ?_) | refine zU ?_ | refine zNt ?_ | (refine zGt (fun hg => ?_) fun hg => ?_; case' _ => refine zMv ?_)
      all_goals first | (refine zY ?_; (refine aops_call zRc (rfree_con p p2 x s) zSplit rfl rfl ?_; rintro _ _ ⟨yf, rfl, rfl⟩)) | refine zU ?_ | refine zNt ?_ | (refine zGt (fun hg => ?_) fun hg => ?_; case' _ => (refine aops_call zRc (rfree_con p p2 x s) zSplit rfl rfl ?_; rintro _ _ ⟨yf, rfl, rfl⟩))
      all_goals refine zPk ?_
      all_goals refine zMv ?_
      all_goals first | (refine zY ?_; refine zMv ?_) | refine zU ?_ | refine zNt ?_ | (refine zGt (fun hg => ?_) fun hg => ?_; case' _ => refine zMv ?_)
      all_goals first | (refine zY ?_; refine zLd ?_) | refine zU ?_ | refine zNt ?_ | (refine zGt (fun hg => ?_) fun hg => ?_; case' _ => refine zLd ?_)
      all_goals first | (refine zY ?_; refine zMv ?_) | refine zU ?_ | refine zNt ?_ | (refine zGt (fun hg => ?_) fun hg => ?_; case' _ => refine zMv ?_)
      all_goals first | (refine zY ?_; refine zMv ?_) | refine zU ?_ | refine zNt ?_ | (refine zGt (fun hg => ?_) fun hg => ?_; case' _ => refine zMv ?_)
      all_goals first | (refine zY ?_; refine zMv ?_) | refine zU ?_ | refine zNt ?_ | (refine zGt (fun hg => ?_) fun hg => ?_; case' _ => refine zMv ?_)
      all_goals first | (refine zY ?_; refine zMv ?_) | refine zU ?_ | refine zNt ?_ | (refine zGt (fun hg => ?_) fun hg => ?_; case' _ => refine zMv ?_)
      all_goals first | (refine zY ?_; (refine aops_call zRc (racc26_con node t l hlen hl s x x) zSplit rfl rfl ?_; rintro _ _ ⟨ya, rfl, rfl⟩)) | refine zU ?_ | refine zNt ?_ | (refine zGt (fun hg => ?_) fun hg => ?_; case' _ => (refine aops_call zRc (racc26_con node t l hlen hl s x x) zSplit rfl rfl ?_; rintro _ _ ⟨ya, rfl, rfl⟩))
      all_goals refine zPk ?_
      all_goals (
        refine zN ?_
        refine zC (fun hc => ?_) fun hc => ?_
        · first
          | (exact absurd hc (by decide))
          | (refine awp_region ?_
             refine zLd ?_; refine zSt ?_; refine aops_nil ?_; refine blockQ_n ?_; refine seqQ_n ?_; refine awp_region ?_; refine zAr ?_; refine zMv ?_; refine zN ?_
             first
             | (have hy0 : ya = true := (by first | with_reducible assumption | exact hc); refine ⟨j + 1, ⟨x, s⟩, ⟨by omega, .inr ⟨hxb.1, hxb.2, hvs s (List.mem_of_getElem? hs)⟩⟩, by omega, wk zSub zKeep⟩)
             | (refine ⟨j + 1, b, ⟨by omega, hb⟩, by omega, wk zSub zKeep⟩)
            )
        · first
          | (exact absurd hc (by decide))
          | (refine awp_skip ?_
             refine blockQ_n ?_; refine seqQ_n ?_; refine awp_region ?_; refine zAr ?_; refine zMv ?_; refine zN ?_
             first
             | (have hy0 : ya = true := (by first | with_reducible assumption | exact hc); refine ⟨j + 1, ⟨x, s⟩, ⟨by omega, .inr ⟨hxb.1, hxb.2, hvs s (List.mem_of_getElem? hs)⟩⟩, by omega, wk zSub zKeep⟩)
             | (refine ⟨j + 1, b, ⟨by omega, hb⟩, by omega, wk zSub zKeep⟩)
            )
        )
    · refine awp_exit ?_
      refine seqQ_x ?_; refine seqQ_x ?_; refine blockQ_x rfl ?_; refine blockQ_n ?_; refine seqQ_n ?_; refine awp_region ?_; refine zAr ?_; refine zMv ?_; refine zN ?_
      refine ⟨k + 1, b, ⟨by omega, hb⟩, by omega, wk zSub zKeep⟩
  · refine awp_exit ?_
    refine seqQ_x ?_; refine seqQ_x ?_; refine blockQ_x rfl ?_; refine seqQ_n ?_; refine awp_seq ?_; refine zS ?_; refine zLd ?_
    refine aops_call_v zRc (rz_con b) rfl rfl ?_
    refine zN ?_
    refine zC (fun hc => ?_) fun hc => ?_
    · refine awp_seq ?_
      refine awp_region ?_; refine zAs ?_; refine zAs ?_; refine zAs ?_; refine zAs ?_; refine zN ?_; refine awp_ret ?_; refine seqQ_r ?_
      refine post_ret (.tmp rfl (.tmp rfl (.tmp rfl (.tmp rfl .nil)))) zKeep ⟨noS, 0, 0, false, rfl, fun h => (by cases h), rfl⟩
    · have hbb : 1 ≤ b.n ∧ b.n ≤ 1000 ∧ b.v.size ≤ 200 := by rcases hb with rfl | hb; exact absurd hc (by decide); exact hb
      refine awp_skip ?_; refine seqQ_n ?_; refine zS ?_; refine zF 0 1 false ?_; refine zL1 ?_; refine zAs ?_; refine zN (zS ?_); refine zMv ?_; refine zF 1 1 false ?_; refine zL1 ?_
      (refine aops_call zRc (rbounds_con l hlen hl b.v) zSplit rfl rfl ?_; rintro _ _ ⟨q, rfl, hq, rfl⟩; have hqm : (q.map D.i).length = q.length := (by simp))
      refine zAs ?_; refine zN ?_; refine awp_seq ?_; refine zS ?_; refine zMv ?_
      first | refine aops_len rfl rfl rfl rfl (fun _ => ?_) | refine zP (ap_len_arr rfl zUpd rfl) ?_ | refine zP (ap_len_nil rfl rfl) ?_
      refine zAr ?_; refine zAs ?_; refine zN ?_; refine awp_block ?_
      refine awp_loop2 [0, 2, 6, 8, 9, 14, 21] [.box b14 _ _, .box b9 _ _, .box b8 _ _, .box b6 _ _] (fun (i : Int) (f : Int) r => (20, .i f) :: (22, .i i) :: r) (fun (i : Int) (f : Int) r => r) (fun (i : Int) (f : Int) => (-1 ≤ i ∧ i < (q.length : Int)) ∧ (1 ≤ f ∧ f ≤ 1000)) (fun (i : Int) (f : Int) => (i + 1).toNat) (((q.length : Int) - 1)) (b.n) zRc ⟨by omega, by omega⟩ (by rw [hqm]; exact (wk zSub zKeep)) ?_
      intro i f ⟨⟨hi1, hi2⟩, hfb⟩
      refine awp_seq ?_; refine zS ?_; refine zMv ?_; refine zCm ?_; refine zN ?_
      refine zC (fun hc => ?_) fun hc => ?_
      · obtain ⟨n, rfl⟩ := Int.eq_ofNat_of_zero_le (show 0 ≤ i from of_decide_eq_true (hc))
        obtain ⟨x, hx, _⟩ := drop_cons (l := q) (k := n) (by omega)
        have hx' := getMap D.i hx
        have hxb := hq x (List.mem_of_getElem? hx)
        refine awp_skip ?_; refine seqQ_n ?_; refine awp_seq ?_; refine awp_block ?_; refine zS ?_; refine zMv ?_; refine zMv ?_
        first | refine zP (ap_index rfl rfl rfl rfl (by decide) rfl zAss) ?_ | refine zP (ap_index rfl rfl rfl rfl (by decide) (by omega) zAss) ?_ | refine zP (ap_index_own rfl rfl rfl rfl rfl (by first | omega | (simp only [List.length_map, List.length_set, avs_len]; omega))) ?_
        refine zL1 ?_; refine zAs ?_; refine zN ?_; refine awp_seq ?_; refine zS ?_; refine zMv ?_; refine zMv ?_; refine zCm ?_; refine zN ?_
        refine zC (fun hc => ?_) fun hc => ?_
        · refine awp_exit ?_
          refine seqQ_x ?_; refine blockQ_x rfl ?_; refine seqQ_n ?_; refine awp_region ?_; refine zMv ?_; refine zAr ?_; refine zAs ?_; refine zN ?_
          first
          | (have hg9 : ¬ x ≥ f := of_decide_eq_false (by with_reducible assumption); refine ⟨(n : Int) - 1, x, ⟨by omega, hxb⟩, by omega, wk zSub zKeep⟩)
          | (refine ⟨(n : Int) - 1, f, ⟨by omega, hfb⟩, by omega, wk zSub zKeep⟩)
        · refine awp_skip ?_
          refine seqQ_n ?_; refine awp_seq ?_; refine zS ?_; refine zLd ?_; refine zLd ?_; refine zMv ?_; refine zF 1 1 false ?_; refine zL1 ?_
          (refine aops_call zRc (rfree_con p p2 x b.v) zSplit rfl rfl ?_; rintro _ _ ⟨yf, rfl, rfl⟩)
          refine zNo ?_; refine zMv ?_
          all_goals first | (refine zY ?_; refine zMv ?_) | refine zU ?_ | refine zNf ?_ | (refine zGf (fun hg => ?_) fun hg => ?_; case' _ => refine zMv ?_)
          all_goals first | (refine zY ?_; refine zLd ?_) | refine zU ?_ | refine zNf ?_ | (refine zGf (fun hg => ?_) fun hg => ?_; case' _ => refine zLd ?_)
          all_goals first | (refine zY ?_; refine zMv ?_) | refine zU ?_ | refine zNf ?_ | (refine zGf (fun hg => ?_) fun hg => ?_; case' _ => refine zMv ?_)
          all_goals first | (refine zY ?_; refine zF 1 1 false ?_) | refine zU ?_ | refine zNf ?_ | (refine zGf (fun hg => ?_) fun hg => ?_; case' _ => refine zF 1 1 false ?_)
          all_goals first | (refine zY ?_; refine zL1 ?_) | refine zU ?_ | refine zNf ?_ | (refine zGf (fun hg => ?_) fun hg => ?_; case' _ => refine zL1 ?_)
          all_goals first | (refine zY ?_; refine zMv ?_) | refine zU ?_ | refine zNf ?_ | (refine zGf (fun hg => ?_) fun hg => ?_; case' _ => refine zMv ?_)
          all_goals first | (refine zY ?_; refine zF 0 1 false ?_) | refine zU ?_ | refine zNf ?_ | (refine zGf (fun hg => ?_) fun hg => ?_; case' _ => refine zF 0 1 false ?_)
          all_goals first | (refine zY ?_; refine zL1 ?_) | refine zU ?_ | refine zNf ?_ | (refine zGf (fun hg => ?_) fun hg => ?_; case' _ => refine zL1 ?_)
          all_goals first | (refine zY ?_; (refine aops_call zRc (racc26_con node t l hlen hl b.v x b.n) zSplit rfl rfl ?_; rintro _ _ ⟨ya, rfl, rfl⟩)) | refine zU ?_ | refine zNf ?_ | (refine zGf (fun hg => ?_) fun hg => ?_; case' _ => (refine aops_call zRc (racc26_con node t l hlen hl b.v x b.n) zSplit rfl rfl ?_; rintro _ _ ⟨ya, rfl, rfl⟩))
          all_goals first | (refine zY ?_; refine zNo ?_) | refine zU ?_ | refine zNf ?_ | (refine zGf (fun hg => ?_) fun hg => ?_; case' _ => refine zNo ?_)
          all_goals refine zPk ?_
          all_goals (
            refine zN ?_
            refine zC (fun hc => ?_) fun hc => ?_
            · first
              | (exact absurd hc (by decide))
              | (refine awp_exit ?_
                 refine seqQ_x ?_; refine blockQ_y rfl ?_; refine seqQ_x ?_; refine seqQ_x ?_; refine blockQ_x rfl ?_; refine seqQ_n ?_; refine awp_seq ?_
                 refine awp_draw (Hm := []) zKr zSplit ?_
                 refine zTF 0 1 1 false ?_; refine zTL 1 ?_
                 refine zT 2 rfl (AP.ar (ap_move rfl)) ?_
                 refine zTF 3 0 1 false ?_; refine zTL 4 ?_
                 refine zT 5 rfl (AP.ar (ap_assign rfl)) ?_
                 refine zT 6 rfl (AP.ar (ap_assign rfl)) ?_
                 refine zT 7 rfl (AP.ar (ap_assign rfl)) ?_
                 refine zT 8 rfl (AP.ar (ap_assign rfl)) ?_
                 refine aany_nil zKr ?_
                 all_goals (
                   refine seqQ_n ?_; refine awp_ret ?_
                   refine post_ret (.tmp rfl (.tmp rfl (.tmp rfl (.tmp rfl .nil)))) zKeep ⟨b.v, f, b.n, true, rfl, fun _ => ⟨hbb.2.2, hfb, hbb.1, hbb.2.1⟩, rfl⟩
                   )
                )
            · first
              | (exact absurd hc (by decide))
              | (refine awp_skip ?_
                 refine seqQ_n ?_; refine awp_region ?_; refine zMv ?_; refine zAs ?_; refine aops_nil ?_; refine blockQ_n ?_; refine seqQ_n ?_; refine awp_region ?_; refine zMv ?_; refine zAr ?_; refine zAs ?_; refine zN ?_
                 first
                 | (have hg9 : ¬ x ≥ f := of_decide_eq_false (by with_reducible assumption); refine ⟨(n : Int) - 1, x, ⟨by omega, hxb⟩, by omega, wk zSub zKeep⟩)
                 | (refine ⟨(n : Int) - 1, f, ⟨by omega, hfb⟩, by omega, wk zSub zKeep⟩)
                )
            )
      · refine awp_exit ?_
        refine seqQ_x ?_; refine seqQ_x ?_; refine blockQ_x rfl ?_; refine seqQ_n ?_; refine awp_seq ?_
        refine awp_draw (Hm := []) zKr zSplit ?_
        refine zTF 0 1 1 false ?_; refine zTL 1 ?_
        refine zT 2 rfl (AP.ar (ap_move rfl)) ?_
        refine zTF 3 0 1 false ?_; refine zTL 4 ?_
        refine zT 5 rfl (AP.ar (ap_assign rfl)) ?_
        refine zT 6 rfl (AP.ar (ap_assign rfl)) ?_
        refine zT 7 rfl (AP.ar (ap_assign rfl)) ?_
        refine zT 8 rfl (AP.ar (ap_assign rfl)) ?_
        refine aany_nil zKr ?_
        all_goals (
          refine seqQ_n ?_; refine awp_ret ?_
          refine post_ret (.tmp rfl (.tmp rfl (.tmp rfl (.tmp rfl .nil)))) zKeep ⟨b.v, f, b.n, true, rfl, fun _ => ⟨hbb.2.2, hfb, hbb.1, hbb.2.1⟩, rfl⟩
          )
theorem rgrt_con (l : List Bal) (hlen : l.length ≤ 1000) : Con Tryz.prog 71 [.sl 2 (l.map bv)] [] (Is (bv (grM l)) []) := by
  have hcap : capB = 140737488355328 := rfl
  have hml : (l.map bv).length = l.length := by simp
  refine con_intro Tryz.func71 rfl Tryz.call71 rfl ?_
  refine zS ?_
  refine aops_alloc rfl zRc rfl rfl (fun b2 => ?_)
  refine zN (zS ?_)
  refine aops_alloc rfl zRc rfl rfl (fun b3 => ?_)
  refine zN ?_; refine awp_seq ?_; refine zS ?_; refine zMv ?_
  first | refine aops_len rfl rfl rfl rfl (fun _ => ?_) | refine zP (ap_len_arr rfl zUpd rfl) ?_ | refine zP (ap_len_nil rfl rfl) ?_
  refine zMv ?_; refine zN ?_; refine awp_block ?_
  refine awp_loop2 [2, 3, 6, 7] [.box b2 _ _] (fun (k : Nat) (b : Bal) r => (8, .i (k : Int)) :: r) (fun (k : Nat) (b : Bal) r => .box b3 29 [.i b.n, .v (.string b.v)] :: r) (fun (k : Nat) (b : Bal) => k ≤ l.length ∧ (k = 0 → b = Bal.none) ∧ (0 < k → grGo b (l.drop k) = grM l)) (fun (k : Nat) (b : Bal) => l.length - k) (0) (Bal.none) zRc ⟨by omega, fun _ => rfl, fun h => by omega⟩ (wk zSub zKeep) ?_
  intro k b ⟨hk, h0, hI⟩
  refine zS ?_; refine zCm ?_; refine zN ?_; refine awp_seq ?_
  refine zC (fun hc => ?_) fun hc => ?_
  · have hlt := of_decide_eq_true hc
    obtain ⟨x, hx, hd⟩ := drop_cons (l := l) (k := k) (by omega)
    have hx' := getMap bv hx
    refine awp_skip ?_; refine seqQ_n ?_; refine awp_seq ?_; refine awp_block ?_; refine zS ?_; refine zMv ?_
    first | refine zP (ap_index rfl rfl rfl rfl (by decide) rfl zAss) ?_ | refine zP (ap_index rfl rfl rfl rfl (by decide) (by omega) zAss) ?_ | refine zP (ap_index_own rfl rfl rfl rfl rfl (by first | omega | (simp only [List.length_map, List.length_set, avs_len]; omega))) ?_
    refine zLd ?_
    refine aops_alloc rfl zRc rfl rfl (fun b5 => ?_)
    refine zAs ?_; refine zSt ?_; refine zN (zS ?_); refine zMv ?_; refine zCm ?_; refine zMv ?_
    all_goals first | (refine zY ?_; refine zLd ?_) | refine zU ?_ | refine zNf ?_ | (refine zGf (fun hg => ?_) fun hg => ?_; case' _ => refine zLd ?_)
    all_goals first | (refine zY ?_; refine zLd ?_) | refine zU ?_ | refine zNf ?_ | (refine zGf (fun hg => ?_) fun hg => ?_; case' _ => refine zLd ?_)
    all_goals first | (refine zY ?_; refine aops_call_v zRc (rl_con b x) rfl rfl ?_) | refine zU ?_ | refine zNf ?_ | (refine zGf (fun hg => ?_) fun hg => ?_; case' _ => refine aops_call_v zRc (rl_con b x) rfl rfl ?_)
    all_goals refine zPk ?_
    all_goals (
      refine zN ?_
      refine zC (fun hc => ?_) fun hc => ?_
      · first
        | (exact absurd hc (by decide))
        | (refine awp_region ?_
           refine zLd ?_; refine zSt ?_; refine aops_nil ?_; refine blockQ_n ?_; refine seqQ_n ?_; refine awp_region ?_; refine zAr ?_; refine zMv ?_; refine zN ?_
           first
           | (have hk0 := of_decide_eq_true (show decide ((k : Int) = 0) = true by first | with_reducible assumption | exact hg); obtain rfl : k = 0 := (by omega); refine ⟨0 + 1, x, ⟨by omega, fun h => by omega, fun _ => ?_⟩, by omega, wk zSub zKeep⟩; rw [List.drop_zero] at hd; rw [hd]; rfl)
           | (have hk0 := of_decide_eq_false (show decide ((k : Int) = 0) = false by first | with_reducible assumption | exact hg); have hl9 : lB b x = true := (by first | with_reducible assumption | exact hc); have hI2 := hI (by omega); rw [hd] at hI2; simp only [grGo] at hI2; rw [if_pos hl9] at hI2; refine ⟨k + 1, x, ⟨by omega, fun h => by omega, fun _ => hI2⟩, by omega, wk zSub zKeep⟩)
           | (have hk0 := of_decide_eq_false (show decide ((k : Int) = 0) = false by first | with_reducible assumption | exact hg); have hl9 : lB b x = false := (by first | with_reducible assumption | exact hc); have hI2 := hI (by omega); rw [hd] at hI2; simp only [grGo] at hI2; rw [if_neg (by rw [hl9]; decide)] at hI2; refine ⟨k + 1, b, ⟨by omega, fun h => by omega, fun _ => hI2⟩, by omega, wk zSub zKeep⟩)
          )
      · first
        | (exact absurd hc (by decide))
        | (refine awp_skip ?_
           refine blockQ_n ?_; refine seqQ_n ?_; refine awp_region ?_; refine zAr ?_; refine zMv ?_; refine zN ?_
           first
           | (have hk0 := of_decide_eq_true (show decide ((k : Int) = 0) = true by first | with_reducible assumption | exact hg); obtain rfl : k = 0 := (by omega); refine ⟨0 + 1, x, ⟨by omega, fun h => by omega, fun _ => ?_⟩, by omega, wk zSub zKeep⟩; rw [List.drop_zero] at hd; rw [hd]; rfl)
           | (have hk0 := of_decide_eq_false (show decide ((k : Int) = 0) = false by first | with_reducible assumption | exact hg); have hl9 : lB b x = true := (by first | with_reducible assumption | exact hc); have hI2 := hI (by omega); rw [hd] at hI2; simp only [grGo] at hI2; rw [if_pos hl9] at hI2; refine ⟨k + 1, x, ⟨by omega, fun h => by omega, fun _ => hI2⟩, by omega, wk zSub zKeep⟩)
           | (have hk0 := of_decide_eq_false (show decide ((k : Int) = 0) = false by first | with_reducible assumption | exact hg); have hl9 : lB b x = false := (by first | with_reducible assumption | exact hc); have hI2 := hI (by omega); rw [hd] at hI2; simp only [grGo] at hI2; rw [if_neg (by rw [hl9]; decide)] at hI2; refine ⟨k + 1, b, ⟨by omega, fun h => by omega, fun _ => hI2⟩, by omega, wk zSub zKeep⟩)
          )
      )
  · have hge := of_decide_eq_false hc
    refine awp_exit ?_; refine seqQ_x ?_; refine seqQ_x ?_; refine blockQ_x rfl ?_; refine seqQ_n ?_; refine zS ?_; refine zLd ?_; refine zSt ?_; refine zN ?_; refine awp_ret ?_
    refine post_is (.cell rfl zUpd rfl rfl .nil) zKeep ?_
    have hF : b = grM l := by
      rcases Nat.eq_zero_or_pos k with h | h
      · rw [h0 h]; cases l with
        | nil => rfl
        | cons y r => simp at hge hml; omega
      · have := hI h; rw [List.drop_eq_nil_of_le (by omega)] at this; exact this
    rw [← hF]; rfl
set_option maxHeartbeats 2000000 in
theorem rlow_con (v : Str) (fr : Int) (p q : Bal) (hp : BB p) (hq : BB q) (hfr : fr ≤ 2000000) : Con Tryz.prog 115 [.v (.string v), .i fr, bv p, bv q] [] (fun d H => ∃ r : Int, d = .i r ∧ (max fr 1 ≤ r) ∧ H = []) := by
  have hcap : capB = 140737488355328 := rfl
  refine con_intro Tryz.func115 rfl Tryz.call115 rfl ?_
  refine zS ?_
  refine aops_box rfl zFlat rfl rfl (fun b6 => ?_)
  refine aops_box rfl zFlat rfl rfl (fun b7 => ?_)
  refine zAs ?_; refine zN (zS ?_); refine zMv ?_
  refine zP (ap_max rfl rfl) ?_
  refine zAs ?_; refine zN ?_; refine awp_seq ?_; refine zS ?_; refine zLd ?_; refine zLd ?_
  refine zP (ap_buildA rfl rfl rfl zRc zFill) ?_
  refine zMv ?_; refine zN ?_; refine awp_block ?_
  refine awp_loop2 [0, 16] [] (fun (k : Nat) (m : Int) r => (9, .i m) :: (17, .i (k : Int)) :: r) (fun (k : Nat) (m : Int) r => r) (fun (k : Nat) (m : Int) => k ≤ 2 ∧ max fr 1 ≤ m ∧ m ≤ 2000001) (fun (k : Nat) (m : Int) => 2 - k) (0) (max fr 1) zRc ⟨by omega, by omega, by omega⟩ (wk zSub zKeep) ?_
  intro k m ⟨hk, hm, hm2⟩
  refine zS ?_; refine zCm ?_; refine zN ?_; refine awp_seq ?_
  refine zC (fun hc => ?_) fun hc => ?_
  · have hlt := of_decide_eq_true hc
    obtain ⟨x, hxb, hsx⟩ : ∃ x : Bal, BB x ∧ SubL [D.i p.n, D.v (.string p.v), D.i q.n, D.v (.string q.v)] (k * 2) 2 [D.i x.n, D.v (.string x.v)] := by
      have : k = 0 ∨ k = 1 := by omega
      rcases this with rfl | rfl
      · exact ⟨p, hp, by repeat constructor⟩
      · exact ⟨q, hq, by repeat constructor⟩
    have hx1 := hxb.n1
    refine awp_skip ?_; refine seqQ_n ?_; refine awp_seq ?_; refine awp_block ?_; refine zS ?_
    refine zP (ap_indexA (k := k) rfl rfl rfl rfl rfl rfl (by omega) hsx) ?_
    refine aops_alloc rfl zRc rfl rfl (fun b11 => ?_)
    refine zSt ?_; refine zN (zS ?_); refine zLd ?_
    refine aops_call_v zRc (rval_con x) rfl rfl ?_
    refine zMv ?_
    all_goals first | (refine zY ?_; refine zLd ?_) | refine zU ?_ | refine zNt ?_ | (refine zGt (fun hg => ?_) fun hg => ?_; case' _ => refine zLd ?_)
    all_goals first | (refine zY ?_; refine zMv ?_) | refine zU ?_ | refine zNt ?_ | (refine zGt (fun hg => ?_) fun hg => ?_; case' _ => refine zMv ?_)
    all_goals first | (refine zY ?_; refine zMv ?_) | refine zU ?_ | refine zNt ?_ | (refine zGt (fun hg => ?_) fun hg => ?_; case' _ => refine zMv ?_)
    all_goals first | (refine zY ?_; refine zP (ap_build zKr rfl zRc zFill) ?_) | refine zU ?_ | refine zNt ?_ | (refine zGt (fun hg => ?_) fun hg => ?_; case' _ => refine zP (ap_build zKr rfl zRc zFill) ?_)
    all_goals first | (refine zY ?_; refine aops_call_v zRc (rab_con x ⟨m, v⟩) rfl rfl ?_) | refine zU ?_ | refine zNt ?_ | (refine zGt (fun hg => ?_) fun hg => ?_; case' _ => refine aops_call_v zRc (rab_con x ⟨m, v⟩) rfl rfl ?_)
    all_goals refine zPk ?_
    all_goals (
      refine zN ?_
      refine zC (fun hc => ?_) fun hc => ?_
      · first
        | (exact absurd hc (by decide))
        | (have hxm : m ≤ x.n := by have h9 : abB x ⟨m, v⟩ = true := (by first | with_reducible assumption | exact hc); unfold abB at h9; simp only [Bool.and_eq_true] at h9; exact lB_n h9.2.2
           refine zS ?_; refine zF 0 1 false ?_; refine zL1 ?_; refine zAs ?_; refine zN (zS ?_); refine zLd ?_; refine zMv ?_; refine zMv ?_
           refine zP (ap_build zKr rfl zRc zFill) ?_
           refine aops_call_v zRc (rab_con x ⟨x.n, v⟩) rfl rfl ?_
           refine zN ?_
           refine zC (fun hc => ?_) fun hc => ?_
           · refine awp_region ?_
             refine zMv ?_; refine zAr ?_; refine zAs ?_; refine aops_nil ?_; refine blockQ_n ?_; refine seqQ_n ?_; refine awp_region ?_; refine zAr ?_; refine zMv ?_; refine zN ?_
             first
             | (have ha9 : abB x ⟨x.n, v⟩ = true := (by first | with_reducible assumption | exact hc); refine ⟨k + 1, x.n + 1, ⟨by omega, by omega, by omega⟩, by omega, wk zSub zKeep⟩)
             | (have ha9 : abB x ⟨x.n, v⟩ = false := (by first | with_reducible assumption | exact hc); refine ⟨k + 1, x.n, ⟨by omega, by omega, by omega⟩, by omega, wk zSub zKeep⟩)
             | (refine ⟨k + 1, m, ⟨by omega, hm, hm2⟩, by omega, wk zSub zKeep⟩)
           · refine awp_skip ?_
             refine blockQ_n ?_; refine seqQ_n ?_; refine awp_region ?_; refine zAr ?_; refine zMv ?_; refine zN ?_
             first
             | (have ha9 : abB x ⟨x.n, v⟩ = true := (by first | with_reducible assumption | exact hc); refine ⟨k + 1, x.n + 1, ⟨by omega, by omega, by omega⟩, by omega, wk zSub zKeep⟩)
             | (have ha9 : abB x ⟨x.n, v⟩ = false := (by first | with_reducible assumption | exact hc); refine ⟨k + 1, x.n, ⟨by omega, by omega, by omega⟩, by omega, wk zSub zKeep⟩)
             | (refine ⟨k + 1, m, ⟨by omega, hm, hm2⟩, by omega, wk zSub zKeep⟩)
          )
      · first
        | (exact absurd hc (by decide))
        | (refine awp_skip ?_
           refine blockQ_n ?_; refine seqQ_n ?_; refine awp_region ?_; refine zAr ?_; refine zMv ?_; refine zN ?_
           first
           | (have ha9 : abB x ⟨x.n, v⟩ = true := (by first | with_reducible assumption | exact hc); refine ⟨k + 1, x.n + 1, ⟨by omega, by omega, by omega⟩, by omega, wk zSub zKeep⟩)
           | (have ha9 : abB x ⟨x.n, v⟩ = false := (by first | with_reducible assumption | exact hc); refine ⟨k + 1, x.n, ⟨by omega, by omega, by omega⟩, by omega, wk zSub zKeep⟩)
           | (refine ⟨k + 1, m, ⟨by omega, hm, hm2⟩, by omega, wk zSub zKeep⟩)
          )
      )
  · refine awp_exit ?_
    refine seqQ_x ?_; refine seqQ_x ?_; refine blockQ_x rfl ?_; refine seqQ_n ?_; refine zS ?_; refine zMv ?_; refine zAs ?_; refine zN ?_; refine awp_ret ?_
    exact post_ret (.tmp rfl .nil) zKeep ⟨m, rfl, hm, rfl⟩
/-- The reference's message of a machine. -/
def envR (m : Mach) : Evp := ⟨m.node, m.slot, m.seq, m.t, m.phase, m.bal, if m.phase = 1 ∨ m.phase = 2 then m.prep else Bal.none, if m.phase = 1 then m.prime else Bal.none, m.low, if m.phase = 1 then (if (!zB m.conf && cB m.conf m.bal) = true then m.conf.n else 0) else m.high⟩
theorem envR_1a {m : Mach} (h : m.phase = 1) (h2 : (!zB m.conf && cB m.conf m.bal) = true) : envR m = ⟨m.node, m.slot, m.seq, m.t, m.phase, m.bal, m.prep, m.prime, m.low, m.conf.n⟩ := by simp [envR, h, h2]
theorem envR_1b {m : Mach} (h : m.phase = 1) (h2 : (!zB m.conf && cB m.conf m.bal) = false) : envR m = ⟨m.node, m.slot, m.seq, m.t, m.phase, m.bal, m.prep, m.prime, m.low, 0⟩ := by simp [envR, h, h2]
theorem envR_2 {m : Mach} (h : ¬ m.phase = 1) (h2 : m.phase = 2) : envR m = ⟨m.node, m.slot, m.seq, m.t, m.phase, m.bal, m.prep, Bal.none, m.low, m.high⟩ := by simp [envR, h2]
theorem envR_3 {m : Mach} (h : ¬ m.phase = 1) (h2 : ¬ m.phase = 2) : envR m = ⟨m.node, m.slot, m.seq, m.t, m.phase, m.bal, Bal.none, Bal.none, m.low, m.high⟩ := by simp [envR, h, h2]
set_option maxHeartbeats 2000000 in
theorem renv_con (m : Mach) : Con Tryz.prog 61 [mcv m] [] (Is (ev (envR m)) []) := by
  have hcap : capB = 140737488355328 := rfl
  refine con_intro Tryz.func61 rfl Tryz.call61 rfl ?_
  refine zS ?_
  refine aops_box rfl zFlat rfl rfl (fun b1 => ?_)
  refine aops_alloc rfl zRc rfl rfl (fun b2 => ?_)
  refine zN (zS ?_); refine zF 0 1 false ?_; refine zL1 ?_; refine zF 1 1 false ?_; refine zL1 ?_; refine zF 2 1 false ?_; refine zL1 ?_; refine zF 3 3 true ?_; refine zLd ?_; refine zF 6 1 false ?_; refine zL1 ?_; refine zF 7 2 true ?_; refine zLd ?_
  refine zP (ap_build zKr rfl zRc zFill) ?_
  refine aops_alloc rfl zRc rfl rfl (fun b3 => ?_)
  refine zSt ?_; refine zN ?_; refine awp_seq ?_; refine zS ?_; refine zF 6 1 false ?_; refine zL1 ?_; refine zN ?_; refine awp_block ?_; refine zS ?_; refine zCm ?_; refine zAs ?_; refine zN ?_
  refine zC (fun hc => ?_) fun hc => ?_
  · have hp1 := of_decide_eq_true hc
    refine awp_seq ?_
    refine awp_draw (Hm := [.box b3 _ _]) zKr zSplit ?_
    refine zTF 0 9 2 true ?_; refine zTM 1 ?_; refine zTF 2 11 2 true ?_; refine zTM 3 ?_; refine zTF 4 15 1 false ?_; refine zTL 5 ?_; refine zTF 6 9 2 true ?_
    refine aany_one 7 zKr rfl (.none rfl) ?_
    refine zSt ?_; refine aops_nil ?_; refine zTF 8 11 2 true ?_
    refine aany_one 9 zKr rfl (.none rfl) ?_
    refine zSt ?_; refine aops_nil ?_; refine zTF 10 13 1 false ?_
    refine aany_one 11 zKr rfl (.none rfl) ?_
    refine zSt ?_; refine aops_nil ?_; refine aany_nil zKr ?_
    all_goals (
      refine seqQ_n ?_; refine zS ?_; refine zF 13 2 true ?_; refine zLd ?_
      refine aops_call_v zRc (rz_con m.conf) rfl rfl ?_
      refine zNo ?_; refine zMv ?_
      all_goals first | (refine zY ?_; refine zF 13 2 true ?_) | refine zU ?_ | refine zNt ?_ | (refine zGt (fun hg => ?_) fun hg => ?_; case' _ => refine zF 13 2 true ?_)
      all_goals first | (refine zY ?_; refine zLd ?_) | refine zU ?_ | refine zNt ?_ | (refine zGt (fun hg => ?_) fun hg => ?_; case' _ => refine zLd ?_)
      all_goals first | (refine zY ?_; refine zF 7 2 true ?_) | refine zU ?_ | refine zNt ?_ | (refine zGt (fun hg => ?_) fun hg => ?_; case' _ => refine zF 7 2 true ?_)
      all_goals first | (refine zY ?_; refine zLd ?_) | refine zU ?_ | refine zNt ?_ | (refine zGt (fun hg => ?_) fun hg => ?_; case' _ => refine zLd ?_)
      all_goals first | (refine zY ?_; refine aops_call_v zRc (rcp_con m.conf m.bal) rfl rfl ?_) | refine zU ?_ | refine zNt ?_ | (refine zGt (fun hg => ?_) fun hg => ?_; case' _ => refine aops_call_v zRc (rcp_con m.conf m.bal) rfl rfl ?_)
      all_goals refine zPk ?_
      all_goals (
        refine zN ?_
        refine zC (fun hc => ?_) fun hc => ?_
        · first
          | (exact absurd hc (by decide))
          | (refine awp_region ?_
             refine zF 13 2 true ?_; refine zF 0 1 false ?_; refine zL1 ?_; refine zF 14 1 false ?_; refine zSt ?_; refine aops_nil ?_; refine blockQ_n ?_; refine seqQ_n ?_; refine zS ?_; refine zLd ?_; refine zSt ?_; refine zN ?_; refine awp_ret ?_
             refine post_is (.cell rfl zUpd rfl rfl .nil) zKeep ?_
             first | (rw [envR_2 hp1 hp2]; rfl) | (rw [envR_3 hp1 hp2]; rfl) | (have h5 : (!zB m.conf && cB m.conf m.bal) = true := (by simp [*]; done); rw [envR_1a hp1 h5]; rfl) | (have h5 : (!zB m.conf && cB m.conf m.bal) = false := (by simp [*]; done); rw [envR_1b hp1 h5]; rfl)
            )
        · first
          | (exact absurd hc (by decide))
          | (refine awp_skip ?_
             refine blockQ_n ?_; refine seqQ_n ?_; refine zS ?_; refine zLd ?_; refine zSt ?_; refine zN ?_; refine awp_ret ?_
             refine post_is (.cell rfl zUpd rfl rfl .nil) zKeep ?_
             first | (rw [envR_2 hp1 hp2]; rfl) | (rw [envR_3 hp1 hp2]; rfl) | (have h5 : (!zB m.conf && cB m.conf m.bal) = true := (by simp [*]; done); rw [envR_1a hp1 h5]; rfl) | (have h5 : (!zB m.conf && cB m.conf m.bal) = false := (by simp [*]; done); rw [envR_1b hp1 h5]; rfl)
            )
        )
      )
  · have hp1 := of_decide_eq_false hc
    refine zS ?_; refine zCm ?_; refine zAs ?_; refine zN ?_
    refine zC (fun hc => ?_) fun hc => ?_
    · have hp2 := of_decide_eq_true hc
      refine awp_draw (Hm := [.box b3 _ _]) zKr zSplit ?_
      refine zTF 0 9 2 true ?_; refine zTM 1 ?_; refine zTF 2 15 1 false ?_; refine zTL 3 ?_; refine zTF 4 16 1 false ?_; refine zTL 5 ?_; refine zTF 6 9 2 true ?_
      refine aany_one 7 zKr rfl (.none rfl) ?_
      refine zSt ?_; refine aops_nil ?_; refine zTF 8 13 1 false ?_
      refine aany_one 9 zKr rfl (.none rfl) ?_
      refine zSt ?_; refine aops_nil ?_; refine zTF 10 14 1 false ?_
      refine aany_one 11 zKr rfl (.none rfl) ?_
      refine zSt ?_; refine aops_nil ?_; refine aany_nil zKr ?_
      all_goals (
        refine blockQ_n ?_; refine seqQ_n ?_; refine zS ?_; refine zLd ?_; refine zSt ?_; refine zN ?_; refine awp_ret ?_
        refine post_is (.cell rfl zUpd rfl rfl .nil) zKeep ?_
        first | (rw [envR_2 hp1 hp2]; rfl) | (rw [envR_3 hp1 hp2]; rfl) | (have h5 : (!zB m.conf && cB m.conf m.bal) = true := (by simp [*]; done); rw [envR_1a hp1 h5]; rfl) | (have h5 : (!zB m.conf && cB m.conf m.bal) = false := (by simp [*]; done); rw [envR_1b hp1 h5]; rfl)
        )
    · have hp2 := of_decide_eq_false hc
      refine awp_draw (Hm := [.box b3 _ _]) zKr zSplit ?_
      refine zTF 0 15 1 false ?_; refine zTL 1 ?_; refine zTF 2 16 1 false ?_; refine zTL 3 ?_; refine zTF 4 13 1 false ?_
      refine aany_one 5 zKr rfl (.none rfl) ?_
      refine zSt ?_; refine aops_nil ?_; refine zTF 6 14 1 false ?_
      refine aany_one 7 zKr rfl (.none rfl) ?_
      refine zSt ?_; refine aops_nil ?_; refine aany_nil zKr ?_
      all_goals (
        refine blockQ_n ?_; refine seqQ_n ?_; refine zS ?_; refine zLd ?_; refine zSt ?_; refine zN ?_; refine awp_ret ?_
        refine post_is (.cell rfl zUpd rfl rfl .nil) zKeep ?_
        first | (rw [envR_2 hp1 hp2]; rfl) | (rw [envR_3 hp1 hp2]; rfl) | (have h5 : (!zB m.conf && cB m.conf m.bal) = true := (by simp [*]; done); rw [envR_1a hp1 h5]; rfl) | (have h5 : (!zB m.conf && cB m.conf m.bal) = false := (by simp [*]; done); rw [envR_1b hp1 h5]; rfl)
        )
end Go.Proofs.YtegejdhkckndaaaGreat
