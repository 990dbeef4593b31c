/- The walks of: mconf_con, mheard_con, mcheck_con, mcopied_con, mmessage_con, clonee_con, pview_con, erights_con, plook_con, ecount_con, tog1_con, pwho_con, tog_con, flat_con, rnew_con, wait_con, tvalid_con, tstep_con, alone_con, sane28_con, rz_con, rval_con, rcp_con, rlv_con, rl_con, rcov_con, rab_con, rpr_con. Each says what one function of the program answers, for the arguments that its statement names. No condition beyond what each theorem says. -/
import Derived.Test.YtegejdhkckndaaaGreatTimersExactW2
import Derived.Test.YtegejdhkckndaaaGreatProg
import Derived.KernelRfl
import Derived.Tactics
import Derived.Tactics2
import Derived.StillTactics
set_option linter.unusedVariables false
set_option linter.unusedSimpArgs false
set_option linter.unnecessarySimpa false
set_option maxRecDepth 4000
namespace Go.Proofs.YtegejdhkckndaaaGreat
open Go Go.Av Go.Tq
theorem mconf_con (m : Mach) : Con Tryz.prog 80 [mcv m] [] (Is (.b (confM m)) []) := by
  have hcap : capB = 140737488355328 := rfl
  refine con_intro Tryz.func80 rfl Tryz.call80 rfl ?_
  refine zS ?_
  refine aops_box rfl zFlat rfl rfl (fun b1 => ?_)
  refine zAs ?_; refine zN (zS ?_); refine zF 13 2 true ?_; refine zLd ?_
  refine aops_alloc rfl zRc rfl rfl (fun b3 => ?_)
  refine zSt ?_; refine zN ?_; refine awp_seq ?_; refine awp_block ?_; refine zS ?_; refine zLd ?_
  refine aops_call_v zRc (bz_con m.conf) rfl rfl ?_
  refine zAs ?_; refine zN ?_
  refine zC (fun hc => ?_) fun hc => ?_
  · refine awp_seq ?_
    refine awp_region ?_; refine zAs ?_; refine zN ?_; refine awp_ret ?_; refine blockQ_r ?_; refine seqQ_r ?_
    refine post_is (.tmp rfl .nil) zKeep (bcl ?_)
    first | (simp only [confM]; simp [*]; done) | grind [confM]
  · refine awp_seq ?_
    refine awp_region ?_; refine zLd ?_
    refine aops_call_v zRc (bval_con m.conf) rfl rfl ?_
    refine zNo ?_; refine zMv ?_
    all_goals first | (refine zY ?_; refine zF 0 1 false ?_) | refine zU ?_ | refine zNf ?_ | (refine zGf (fun hg => ?_) fun hg => ?_; case' _ => refine zF 0 1 false ?_)
    all_goals first | (refine zY ?_; refine zL1 ?_) | refine zU ?_ | refine zNf ?_ | (refine zGf (fun hg => ?_) fun hg => ?_; case' _ => refine zL1 ?_)
    all_goals first | (refine zY ?_; refine zCm ?_) | refine zU ?_ | refine zNf ?_ | (refine zGf (fun hg => ?_) fun hg => ?_; case' _ => refine zCm ?_)
    all_goals refine zPk ?_
    all_goals refine zAs ?_
    all_goals (
      refine zN ?_
      refine zC (fun hc => ?_) fun hc => ?_
      · refine awp_seq ?_
        refine awp_region ?_; refine zAs ?_; refine zN ?_; refine awp_ret ?_; refine blockQ_r ?_; refine seqQ_r ?_
        refine post_is (.tmp rfl .nil) zKeep (bcl ?_)
        first | (simp only [confM]; simp [*]; done) | grind [confM]
      · refine awp_skip ?_
        refine blockQ_n ?_; refine seqQ_n ?_; refine zS ?_; refine zF 9 2 true ?_; refine zLd ?_; refine zF 11 2 true ?_; refine zLd ?_; refine zLd ?_
        refine aops_call_v zRc (bpr_con m.prep m.prime m.conf) rfl rfl ?_
        refine zMv ?_
        all_goals first | (refine zY ?_; refine zF 6 1 false ?_) | refine zU ?_ | refine zNf ?_ | (refine zGf (fun hg => ?_) fun hg => ?_; case' _ => refine zF 6 1 false ?_)
        all_goals first | (refine zY ?_; refine zL1 ?_) | refine zU ?_ | refine zNf ?_ | (refine zGf (fun hg => ?_) fun hg => ?_; case' _ => refine zL1 ?_)
        all_goals first | (refine zY ?_; refine zCm ?_) | refine zU ?_ | refine zNf ?_ | (refine zGf (fun hg => ?_) fun hg => ?_; case' _ => refine zCm ?_)
        all_goals first | (refine zY ?_; refine zMv ?_) | refine zU ?_ | refine zNf ?_ | (refine zGf (fun hg => ?_) fun hg => ?_; case' _ => refine zMv ?_)
        all_goals first | (refine zY ?_; refine zLd ?_) | refine zU ?_ | refine zNt ?_ | (refine zGt (fun hg => ?_) fun hg => ?_; case' _ => refine zLd ?_)
        all_goals first | (refine zY ?_; refine zF 7 2 true ?_) | refine zU ?_ | refine zNt ?_ | (refine zGt (fun hg => ?_) fun hg => ?_; case' _ => refine zF 7 2 true ?_)
        all_goals first | (refine zY ?_; refine zLd ?_) | refine zU ?_ | refine zNt ?_ | (refine zGt (fun hg => ?_) fun hg => ?_; case' _ => refine zLd ?_)
        all_goals first | (refine zY ?_; refine aops_call_v zRc (bc_con m.conf m.bal) rfl rfl ?_) | refine zU ?_ | refine zNt ?_ | (refine zGt (fun hg => ?_) fun hg => ?_; case' _ => refine aops_call_v zRc (bc_con m.conf m.bal) rfl rfl ?_)
        all_goals (first | (refine aops_yes rfl rfl rfl rfl zDec ?_; refine zPk ?_) | refine aops_no_u rfl rfl rfl ?_ | refine aops_no_f rfl rfl rfl rfl zDec ?_ | (refine aops_guard_f rfl rfl rfl rfl (fun hg => ?_) (fun hg => ?_); case' _ => refine zPk ?_))
        all_goals refine zPk ?_
        all_goals refine zAs ?_
        all_goals (
          refine zN ?_; refine awp_ret ?_
          refine post_is (.tmp rfl .nil) zKeep (bcl ?_)
          first | (simp only [confM]; simp [*]; done) | grind [confM]
          )
      )
def okP (p : Option Int) (e : Evp) : Bool := match p with | none => true | some q => decide (q < e.node)
def prevE (l : List Evp) (k : Nat) : Option Int := if k = 0 then none else (l[k - 1]?).map Evp.node
theorem heardGo_cons (m : Mach) (p : Option Int) (e : Evp) (r : List Evp) : heardGo m p (e :: r) = ((vE e && (decide (e.slot = m.slot) && (!decide (e.node = m.node) && okP p e))) && heardGo m (some e.node) r) := by cases p <;> rfl
theorem prevE_next {l : List Evp} {k : Nat} {x : Evp} (h : l[k]? = some x) : prevE l (k + 1) = some x.node := by
  unfold prevE
  rw [if_neg (by omega), Nat.add_sub_cancel, h]
  rfl
theorem okP_at {l : List Evp} {k : Nat} {x y : Evp} (hy : 0 < k → l[k - 1]? = some y) : okP (prevE l k) x = if (0 : Int) < (k : Int) then decide (y.node < x.node) else true := by
  unfold prevE
  by_cases h : k = 0
  · rw [if_pos h, if_neg (by omega)]; rfl
  · rw [if_neg h, if_pos (by omega), hy (by omega)]; rfl
theorem prev_ex {l : List Evp} {k : Nat} (x : Evp) (h : k ≤ l.length) : ∃ y, 0 < k → l[k - 1]? = some y := by
  rcases Nat.eq_zero_or_pos k with h0 | h0
  · exact ⟨x, fun h1 => by omega⟩
  · exact ⟨l[k - 1]'(by omega), fun _ => List.getElem?_eq_getElem _⟩
set_option maxHeartbeats 2000000 in
theorem mheard_con (m : Mach) (hh : ∀ e ∈ m.heard, sizeT e.t ≤ 1000000000) : Con Tryz.prog 77 [mcv m] [] (Is (.b (heardM m)) []) := by
  have hcap : capB = 140737488355328 := rfl
  have hmlen : (m.heard.map ev).length = m.heard.length := by simp
  refine con_intro Tryz.func77 rfl Tryz.call77 rfl ?_
  refine zS ?_
  refine aops_box rfl zFlat rfl rfl (fun b1 => ?_)
  refine zAs ?_; refine zN ?_; refine awp_seq ?_; refine zS ?_; refine zF 18 1 false ?_; refine zL1 ?_
  first | refine aops_len rfl rfl rfl rfl (fun _ => ?_) | refine zP (ap_len_arr rfl zUpd rfl) ?_ | refine zP (ap_len_nil rfl rfl) ?_
  refine zMv ?_; refine zN ?_; refine awp_block ?_
  refine awp_loop1 [1, 6, 7] [.box b1 _ _] (fun (k : Nat) r => (8, .i (k : Int)) :: r) (fun (k : Nat) r => r) (fun (k : Nat) => k ≤ m.heard.length ∧ heardGo m (prevE m.heard k) (m.heard.drop k) = heardM m) (fun (k : Nat) => m.heard.length - k) (0) zRc ⟨by omega, rfl⟩ (wk zSub zKeep) ?_
  intro k ⟨hk, hI⟩
  refine zS ?_; refine zCm ?_; refine zN ?_; refine awp_seq ?_
  refine zC (fun hc => ?_) fun hc => ?_
  · have hlt := of_decide_eq_true hc
    obtain ⟨x, hx, hd⟩ := drop_cons (l := m.heard) (k := k) (by omega)
    have hx' := getMap ev hx
    obtain ⟨y, hy⟩ := prev_ex x hk
    have hq := okP_at (x := x) hy
    refine awp_skip ?_; refine seqQ_n ?_; refine awp_seq ?_; refine awp_block ?_; refine zS ?_; refine zMv ?_
    first | refine zP (ap_index rfl rfl rfl rfl (by decide) rfl zAss) ?_ | refine zP (ap_index rfl rfl rfl rfl (by decide) (by omega) zAss) ?_ | refine zP (ap_index_own rfl rfl rfl rfl rfl (by first | omega | (simp only [List.length_map, List.length_set, avs_len]; omega))) ?_
    refine zLd ?_
    refine aops_alloc rfl zRc rfl rfl (fun b4 => ?_)
    refine zAs ?_; refine zSt ?_; refine zN ?_; refine awp_seq ?_
    refine awp_draw (Hm := []) zKr zSplit ?_
    refine zTM 0 ?_
    refine aany_one 1 zKr rfl (.none rfl) ?_
    refine aops_call_v zRc (evalid_con x (hh x (List.mem_of_getElem? hx))) rfl rfl ?_
    refine aops_nil ?_
    refine zT 2 rfl (AP.ar (ap_not rfl)) ?_
    refine zT 3 rfl (AP.ar (ap_move rfl)) ?_
    refine aany_guard 3 rfl (fun hg => ?_) (fun hg => ?_)
    rotate_left
    case' _ =>
      refine zTF 4 1 1 false ?_; refine zTL 5 ?_; refine zTF 6 1 1 false ?_; refine zTL 7 ?_
      refine zT 8 rfl (AP.ar (ap_cmp rfl rfl rfl)) ?_
      refine zTp 9 ?_
      refine zT 10 rfl (AP.ar (ap_move rfl)) ?_
      refine aany_guard 10 rfl (fun hg => ?_) (fun hg => ?_)
      rotate_left
      case' _ =>
        refine zTF 11 0 1 false ?_; refine zTL 12 ?_; refine zTF 13 0 1 false ?_; refine zTL 14 ?_
        refine zT 15 rfl (AP.ar (ap_cmp rfl rfl rfl)) ?_
        refine zTp 16 ?_
        refine zT 17 rfl (AP.ar (ap_move rfl)) ?_
        refine aany_guard 17 rfl (fun hg => ?_) (fun hg => ?_)
        rotate_left
        case' _ =>
          refine zT 18 rfl (AP.ar (ap_move rfl)) ?_
          refine zT 19 rfl (AP.ar (ap_cmp rfl rfl rfl)) ?_
          refine zT 20 rfl (AP.ar (ap_move rfl)) ?_
          refine aany_guard 20 rfl (fun hg => ?_) (fun hg => ?_)
          rotate_left
          case' _ =>
            refine zK 21 ?_; refine zK 22 ?_; refine zK 23 ?_; refine zK 24 ?_; refine zK 25 ?_; refine zK 26 ?_; refine zK 27 ?_; refine zK 28 ?_; refine zK 29 ?_; refine zK 30 ?_; refine zTp 31 ?_; refine zTp 32 ?_; refine aany_nil zKr ?_
          rotate_right
          case' _ =>
            refine zTF 21 18 1 false ?_; refine zTL 22 ?_
            refine zT 23 rfl (AP.ar (ap_move rfl)) ?_
            refine zT 24 rfl (AP.ar (ap_arith rfl rfl rfl (by omega))) ?_
            refine aany_take 25 rfl (.yes rfl rfl zDec) zKr zKr zKr (AP.ar (ap_index (k := k - 1) rfl rfl rfl rfl (by decide) (by have h9 : decide ((k : Int) > 0) = true := (by first | with_reducible assumption | exact hg); have := of_decide_eq_true h9; omega) (getMap ev (hy (by have h9 : decide ((k : Int) > 0) = true := (by first | with_reducible assumption | exact hg); have := of_decide_eq_true h9; omega))))) rfl rfl ?_
            refine zTF 26 0 1 false ?_; refine zTL 27 ?_; refine zTF 28 0 1 false ?_; refine zTL 29 ?_
            refine zT 30 rfl (AP.ar (ap_cmp rfl rfl rfl)) ?_
            refine zTp 31 ?_; refine zTp 32 ?_; refine aany_nil zKr ?_
        rotate_right
        case' _ =>
          refine zK 18 ?_; refine zK 19 ?_
          refine aany_skipu 20 rfl (.no rfl rfl (by first | (show _ = true; with_reducible assumption) | exact zDec)) zKr zKr zKr rfl rfl ?_
          refine zK 21 ?_; refine zK 22 ?_; refine zK 23 ?_; refine zK 24 ?_; refine zK 25 ?_; refine zK 26 ?_; refine zK 27 ?_; refine zK 28 ?_; refine zK 29 ?_; refine zK 30 ?_; refine zK 31 ?_; refine zTp 32 ?_; refine aany_nil zKr ?_
      rotate_right
      case' _ =>
        refine zK 11 ?_; refine zK 12 ?_; refine zK 13 ?_; refine zK 14 ?_; refine zK 15 ?_; refine zTp 16 ?_
        refine zT 17 rfl (AP.ar (ap_move rfl)) ?_
        refine zK 18 ?_; refine zK 19 ?_
        refine aany_skipu 20 rfl (.no rfl rfl (by first | (show _ = true; with_reducible assumption) | exact zDec)) zKr zKr zKr rfl rfl ?_
        refine zK 21 ?_; refine zK 22 ?_; refine zK 23 ?_; refine zK 24 ?_; refine zK 25 ?_; refine zK 26 ?_; refine zK 27 ?_; refine zK 28 ?_; refine zK 29 ?_; refine zK 30 ?_; refine zK 31 ?_; refine zTp 32 ?_; refine aany_nil zKr ?_
    rotate_right
    case' _ =>
      refine zK 4 ?_; refine zK 5 ?_; refine zK 6 ?_; refine zK 7 ?_; refine zK 8 ?_; refine zTp 9 ?_
      refine zT 10 rfl (AP.ar (ap_move rfl)) ?_
      refine zK 11 ?_; refine zK 12 ?_; refine zK 13 ?_; refine zK 14 ?_; refine zK 15 ?_; refine zTp 16 ?_
      refine zT 17 rfl (AP.ar (ap_move rfl)) ?_
      refine zK 18 ?_; refine zK 19 ?_
      refine aany_skipu 20 rfl (.no rfl rfl (by first | (show _ = true; with_reducible assumption) | exact zDec)) zKr zKr zKr rfl rfl ?_
      refine zK 21 ?_; refine zK 22 ?_; refine zK 23 ?_; refine zK 24 ?_; refine zK 25 ?_; refine zK 26 ?_; refine zK 27 ?_; refine zK 28 ?_; refine zK 29 ?_; refine zK 30 ?_; refine zK 31 ?_; refine zTp 32 ?_; refine aany_nil zKr ?_
    all_goals (
      refine seqQ_n ?_
      refine zC (fun hc => ?_) fun hc => ?_
      · first
        | (exact absurd hc (by decide))
        | (have hq0 : (vE x && (decide (x.slot = m.slot) && (!decide (x.node = m.node) && okP (prevE m.heard k) x))) = false := by rw [hq]; first | (simp [*]; done) | grind
           refine zS ?_; refine zAs ?_; refine zN ?_; refine awp_ret ?_; refine blockQ_r ?_; refine seqQ_r ?_; refine seqQ_r ?_; refine blockQ_r ?_; refine seqQ_r ?_
           refine post_is (.tmp rfl .nil) zKeep (bcl ?_)
           first | (rw [hd, heardGo_cons, hq0, Bool.false_and] at hI; exact hI) | exact hI
          )
      · first
        | (exact absurd hc (by decide))
        | (have hq0 : (vE x && (decide (x.slot = m.slot) && (!decide (x.node = m.node) && okP (prevE m.heard k) x))) = true := by rw [hq]; first | (simp [*]; done) | grind
           refine awp_skip ?_; refine blockQ_n ?_; refine seqQ_n ?_; refine awp_region ?_; refine zAr ?_; refine zMv ?_; refine zN ?_
           rw [hd, heardGo_cons, hq0, Bool.true_and, ← prevE_next hx] at hI
           refine ⟨k + 1, ⟨by omega, hI⟩, by omega, wk zSub zKeep⟩
          )
      )
  · have hge := of_decide_eq_false hc
    rw [drop_nil (by omega)] at hI
    refine awp_exit ?_; refine seqQ_x ?_; refine seqQ_x ?_; refine blockQ_x rfl ?_; refine seqQ_n ?_; refine zS ?_; refine zAs ?_; refine zN ?_; refine awp_ret ?_
    refine post_is (.tmp rfl .nil) zKeep (bcl ?_)
    first | (rw [hd, heardGo_cons, hq0, Bool.false_and] at hI; exact hI) | exact hI
set_option maxHeartbeats 4000000 in
theorem mcheck_con (m : Mach) (hs : sizeT m.t ≤ 1000000000) (hh : ∀ e ∈ m.heard, sizeT e.t ≤ 1000000000) : Con Tryz.prog 54 [mcv m] [] (Is (.b (checkM m)) []) := by
  have hcap : capB = 140737488355328 := rfl
  have hmlen : (m.heard.map ev).length = m.heard.length := by simp
  refine con_intro Tryz.func54 rfl Tryz.call54 rfl ?_
  refine zS ?_
  refine aops_box rfl zFlat rfl rfl (fun b1 => ?_)
  refine zAs ?_; refine zN ?_; refine awp_seq ?_; refine zS ?_; refine zF 0 1 false ?_; refine zL1 ?_; refine zCm ?_; refine zMv ?_
  all_goals first | (refine zY ?_; refine zF 0 1 false ?_) | refine zU ?_ | refine zNf ?_ | (refine zGf (fun hg => ?_) fun hg => ?_; case' _ => refine zF 0 1 false ?_)
  all_goals first | (refine zY ?_; refine zL1 ?_) | refine zU ?_ | refine zNf ?_ | (refine zGf (fun hg => ?_) fun hg => ?_; case' _ => refine zL1 ?_)
  all_goals first | (refine zY ?_; refine zCm ?_) | refine zU ?_ | refine zNf ?_ | (refine zGf (fun hg => ?_) fun hg => ?_; case' _ => refine zCm ?_)
  all_goals refine zPk ?_
  all_goals refine zMv ?_
  all_goals first | (refine zY ?_; refine zF 1 1 false ?_) | refine zU ?_ | refine zNf ?_ | (refine zGf (fun hg => ?_) fun hg => ?_; case' _ => refine zF 1 1 false ?_)
  all_goals first | (refine zY ?_; refine zL1 ?_) | refine zU ?_ | refine zNf ?_ | (refine zGf (fun hg => ?_) fun hg => ?_; case' _ => refine zL1 ?_)
  all_goals first | (refine zY ?_; refine zCm ?_) | refine zU ?_ | refine zNf ?_ | (refine zGf (fun hg => ?_) fun hg => ?_; case' _ => refine zCm ?_)
  all_goals refine zPk ?_
  all_goals refine zMv ?_
  all_goals first | (refine zY ?_; refine zF 1 1 false ?_) | refine zU ?_ | refine zNf ?_ | (refine zGf (fun hg => ?_) fun hg => ?_; case' _ => refine zF 1 1 false ?_)
  all_goals first | (refine zY ?_; refine zL1 ?_) | refine zU ?_ | refine zNf ?_ | (refine zGf (fun hg => ?_) fun hg => ?_; case' _ => refine zL1 ?_)
  all_goals first | (refine zY ?_; refine zCm ?_) | refine zU ?_ | refine zNf ?_ | (refine zGf (fun hg => ?_) fun hg => ?_; case' _ => refine zCm ?_)
  all_goals refine zPk ?_
  all_goals refine zMv ?_
  all_goals first | (refine zY ?_; refine zF 2 1 false ?_) | refine zU ?_ | refine zNf ?_ | (refine zGf (fun hg => ?_) fun hg => ?_; case' _ => refine zF 2 1 false ?_)
  all_goals first | (refine zY ?_; refine zL1 ?_) | refine zU ?_ | refine zNf ?_ | (refine zGf (fun hg => ?_) fun hg => ?_; case' _ => refine zL1 ?_)
  all_goals first | (refine zY ?_; refine zCm ?_) | refine zU ?_ | refine zNf ?_ | (refine zGf (fun hg => ?_) fun hg => ?_; case' _ => refine zCm ?_)
  all_goals refine zPk ?_
  all_goals refine zMv ?_
  all_goals first | (refine zY ?_; refine zF 2 1 false ?_) | refine zU ?_ | refine zNf ?_ | (refine zGf (fun hg => ?_) fun hg => ?_; case' _ => refine zF 2 1 false ?_)
  all_goals first | (refine zY ?_; refine zL1 ?_) | refine zU ?_ | refine zNf ?_ | (refine zGf (fun hg => ?_) fun hg => ?_; case' _ => refine zL1 ?_)
  all_goals first | (refine zY ?_; refine zCm ?_) | refine zU ?_ | refine zNf ?_ | (refine zGf (fun hg => ?_) fun hg => ?_; case' _ => refine zCm ?_)
  all_goals refine zPk ?_
  all_goals refine zMv ?_
  all_goals first | (refine zY ?_; refine zF 3 3 true ?_) | refine zU ?_ | refine zNf ?_ | (refine zGf (fun hg => ?_) fun hg => ?_; case' _ => refine zF 3 3 true ?_)
  all_goals first | (refine zY ?_; refine zLd ?_) | refine zU ?_ | refine zNf ?_ | (refine zGf (fun hg => ?_) fun hg => ?_; case' _ => refine zLd ?_)
  all_goals first | (refine zY ?_; refine aops_call_v zRc (validT_con m.t hs) rfl rfl ?_) | refine zU ?_ | refine zNf ?_ | (refine zGf (fun hg => ?_) fun hg => ?_; case' _ => refine aops_call_v zRc (validT_con m.t hs) rfl rfl ?_)
  all_goals first | (refine zY ?_; refine zCm ?_) | refine zU ?_ | refine zNf ?_ | (refine zGf (fun hg => ?_) fun hg => ?_; case' _ => refine zCm ?_)
  all_goals refine zPk ?_
  all_goals refine zMv ?_
  all_goals first | (refine zY ?_; refine zF 17 1 false ?_) | refine zU ?_ | refine zNf ?_ | (refine zGf (fun hg => ?_) fun hg => ?_; case' _ => refine zF 17 1 false ?_)
  all_goals first | (refine zY ?_; refine zL1 ?_) | refine zU ?_ | refine zNf ?_ | (refine zGf (fun hg => ?_) fun hg => ?_; case' _ => refine zL1 ?_)
  all_goals first | (refine zY ?_; refine zP (ap_len_str rfl rfl) ?_) | refine zU ?_ | refine zNf ?_ | (refine zGf (fun hg => ?_) fun hg => ?_; case' _ => refine zP (ap_len_str rfl rfl) ?_)
  all_goals first | (refine zY ?_; refine zCm ?_) | refine zU ?_ | refine zNf ?_ | (refine zGf (fun hg => ?_) fun hg => ?_; case' _ => refine zCm ?_)
  all_goals refine zPk ?_
  all_goals refine zMv ?_
  all_goals first | (refine zY ?_; refine zLd ?_) | refine zU ?_ | refine zNf ?_ | (refine zGf (fun hg => ?_) fun hg => ?_; case' _ => refine zLd ?_)
  all_goals first | (refine zY ?_; refine aops_call_v zRc (mheard_con m hh) rfl rfl ?_) | refine zU ?_ | refine zNf ?_ | (refine zGf (fun hg => ?_) fun hg => ?_; case' _ => refine aops_call_v zRc (mheard_con m hh) rfl rfl ?_)
  all_goals first | (refine zY ?_; refine zNo ?_) | refine zU ?_ | refine zNf ?_ | (refine zGf (fun hg => ?_) fun hg => ?_; case' _ => refine zNo ?_)
  all_goals refine zPk ?_
  all_goals (
    refine zN ?_
    refine zC (fun hc => ?_) fun hc => ?_
    · first
      | (exact absurd hc (by decide))
      | (have hh : headM m = false := by first | (simp only [headM]; simp [*]; done) | grind [headM]
         refine zS ?_; refine zAs ?_; refine zN ?_; refine awp_ret ?_; refine seqQ_r ?_
         refine post_is (.tmp rfl .nil) zKeep (bcl ?_)
         unfold checkM; rw [hh]
         first | rfl | (rw [hz]; simp [*]; done) | grind
        )
    · first
      | (exact absurd hc (by decide))
      | (have hh : headM m = true := by first | (simp only [headM]; simp [*]; done) | grind [headM]
         refine awp_skip ?_; refine seqQ_n ?_; refine awp_seq ?_; refine zS ?_; refine zF 7 2 true ?_; refine zLd ?_
         refine aops_call_v zRc (bz_con m.bal) rfl rfl ?_
         refine zN ?_
         refine zC (fun hc => ?_) fun hc => ?_
         · have hz : zB m.bal = true := hc
           refine zS ?_; refine zLd ?_
           refine aops_call_v zRc (mfresh_con m) rfl rfl ?_
           refine zAs ?_; refine zN ?_; refine awp_ret ?_; refine seqQ_r ?_
           refine post_is (.tmp rfl .nil) zKeep (bcl ?_)
           unfold checkM; rw [hh]
           first | rfl | (rw [hz]; simp [*]; done) | grind
         · have hz : zB m.bal = false := hc
           refine awp_skip ?_; refine seqQ_n ?_; refine zS ?_; refine zF 6 1 false ?_; refine zL1 ?_; refine zCm ?_; refine zAs ?_; refine zN (zS ?_); refine zLd ?_
           refine aops_call_v zRc (mmsg_con m) rfl rfl ?_
           refine aops_call_v zRc (evalid_con (msgM m) hs) rfl rfl ?_
           refine zMv ?_
           all_goals first | (refine zY ?_; refine zLd ?_) | refine zU ?_ | refine zNt ?_ | (refine zGt (fun hg => ?_) fun hg => ?_; case' _ => refine zLd ?_)
           all_goals first | (refine zY ?_; refine aops_call_v zRc (mconf_con m) rfl rfl ?_) | refine zU ?_ | refine zNt ?_ | (refine zGt (fun hg => ?_) fun hg => ?_; case' _ => refine aops_call_v zRc (mconf_con m) rfl rfl ?_)
           all_goals refine zPk ?_
           all_goals refine zMv ?_
           all_goals first | (refine zY ?_; refine zMv ?_) | refine zU ?_ | refine zNt ?_ | (refine zGt (fun hg => ?_) fun hg => ?_; case' _ => refine zMv ?_)
           all_goals first | (refine zY ?_; refine zMv ?_) | refine zU ?_ | refine zNt ?_ | (refine zGt (fun hg => ?_) fun hg => ?_; case' _ => refine zMv ?_)
           all_goals first | (refine zY ?_; refine zF 16 1 false ?_) | refine zU ?_ | refine zNf ?_ | (refine zGf (fun hg => ?_) fun hg => ?_; case' _ => refine zF 16 1 false ?_)
           all_goals first | (refine zY ?_; refine zL1 ?_) | refine zU ?_ | refine zNf ?_ | (refine zGf (fun hg => ?_) fun hg => ?_; case' _ => refine zL1 ?_)
           all_goals first | (refine zY ?_; refine zCm ?_) | refine zU ?_ | refine zNf ?_ | (refine zGf (fun hg => ?_) fun hg => ?_; case' _ => refine zCm ?_)
           all_goals (first | (refine aops_yes rfl rfl rfl rfl zDec ?_; refine zPk ?_) | refine aops_no_u rfl rfl rfl ?_ | refine aops_no_t rfl rfl rfl rfl zDec ?_ | (refine aops_guard_t rfl rfl rfl rfl (fun hg => ?_) (fun hg => ?_); case' _ => refine zPk ?_))
           all_goals refine zPk ?_
           all_goals refine zMv ?_
           all_goals first | (refine zY ?_; refine zMv ?_) | refine zU ?_ | refine zNt ?_ | (refine zGt (fun hg => ?_) fun hg => ?_; case' _ => refine zMv ?_)
           all_goals first | (refine zY ?_; refine zNo ?_) | refine zU ?_ | refine zNt ?_ | (refine zGt (fun hg => ?_) fun hg => ?_; case' _ => refine zNo ?_)
           all_goals first | (refine zY ?_; refine zMv ?_) | refine zU ?_ | refine zNt ?_ | (refine zGt (fun hg => ?_) fun hg => ?_; case' _ => refine zMv ?_)
           all_goals first | (refine zY ?_; refine zF 11 2 true ?_) | refine zU ?_ | refine zNf ?_ | (refine zGf (fun hg => ?_) fun hg => ?_; case' _ => refine zF 11 2 true ?_)
           all_goals first | (refine zY ?_; refine zLd ?_) | refine zU ?_ | refine zNf ?_ | (refine zGf (fun hg => ?_) fun hg => ?_; case' _ => refine zLd ?_)
           all_goals first | (refine zY ?_; refine aops_call_v zRc (bz_con m.prime) rfl rfl ?_) | refine zU ?_ | refine zNf ?_ | (refine zGf (fun hg => ?_) fun hg => ?_; case' _ => refine aops_call_v zRc (bz_con m.prime) rfl rfl ?_)
           all_goals (first | (refine aops_yes rfl rfl rfl rfl zDec ?_; refine zPk ?_) | refine aops_no_u rfl rfl rfl ?_ | refine aops_no_t rfl rfl rfl rfl zDec ?_ | (refine aops_guard_t rfl rfl rfl rfl (fun hg => ?_) (fun hg => ?_); case' _ => refine zPk ?_))
           all_goals refine zPk ?_
           all_goals refine zMv ?_
           all_goals first | (refine zY ?_; refine zF 6 1 false ?_) | refine zU ?_ | refine zNt ?_ | (refine zGt (fun hg => ?_) fun hg => ?_; case' _ => refine zF 6 1 false ?_)
           all_goals first | (refine zY ?_; refine zL1 ?_) | refine zU ?_ | refine zNt ?_ | (refine zGt (fun hg => ?_) fun hg => ?_; case' _ => refine zL1 ?_)
           all_goals first | (refine zY ?_; refine zCm ?_) | refine zU ?_ | refine zNt ?_ | (refine zGt (fun hg => ?_) fun hg => ?_; case' _ => refine zCm ?_)
           all_goals first | (refine zY ?_; refine zMv ?_) | refine zU ?_ | refine zNt ?_ | (refine zGt (fun hg => ?_) fun hg => ?_; case' _ => refine zMv ?_)
           all_goals first | (refine zY ?_; refine zF 9 2 true ?_) | refine zU ?_ | refine zNf ?_ | (refine zGf (fun hg => ?_) fun hg => ?_; case' _ => refine zF 9 2 true ?_)
           all_goals first | (refine zY ?_; refine zLd ?_) | refine zU ?_ | refine zNf ?_ | (refine zGf (fun hg => ?_) fun hg => ?_; case' _ => refine zLd ?_)
           all_goals first | (refine zY ?_; refine aops_call_v zRc (bz_con m.prep) rfl rfl ?_) | refine zU ?_ | refine zNf ?_ | (refine zGf (fun hg => ?_) fun hg => ?_; case' _ => refine aops_call_v zRc (bz_con m.prep) rfl rfl ?_)
           all_goals (first | (refine aops_yes rfl rfl rfl rfl zDec ?_; refine zPk ?_) | refine aops_no_u rfl rfl rfl ?_ | refine aops_no_t rfl rfl rfl rfl zDec ?_ | (refine aops_guard_t rfl rfl rfl rfl (fun hg => ?_) (fun hg => ?_); case' _ => refine zPk ?_))
           all_goals refine zPk ?_
           all_goals refine zAs ?_
           all_goals (
             refine zN ?_; refine awp_ret ?_
             refine post_is (.tmp rfl .nil) zKeep (bcl ?_)
             unfold checkM; rw [hh]
             first | rfl | (rw [hz]; simp [*]; done) | grind
             )
        )
    )
theorem mcopied_con (m : Mach) (hlen : m.heard.length ≤ 1000000) (hs : sizeT m.t ≤ 200000) (hh : ∀ e ∈ m.heard, sizeT e.t ≤ 200000) : Con Tryz.prog 56 [mcv m] [] (Is (mcv m) []) := by
  have hcap : capB = 140737488355328 := rfl
  have hmlen : (m.heard.map ev).length = m.heard.length := by simp
  refine con_intro Tryz.func56 rfl Tryz.call56 rfl ?_
  refine zS ?_
  refine aops_box rfl zFlat rfl rfl (fun b1 => ?_)
  refine aops_alloc rfl zRc rfl rfl (fun b2 => ?_)
  refine zN ?_; refine awp_seq ?_
  refine awp_draw (Hm := [.box b1 _ _]) zKr zSplit ?_
  refine zTF 0 3 3 true ?_; refine zTF 3 18 1 false ?_
  refine aany_each2 1 4 zKr rfl (.none rfl) ?_ rfl (.none rfl) ?_
  rotate_left
  case' _ =>
    refine zL1 ?_; refine aops_nil ?_
    refine aany_one 1 zKr rfl (.none rfl) ?_
    refine zLd ?_; refine aops_nil ?_
    refine aany_one 2 zKr rfl (.none rfl) ?_
    refine aops_call_v zRc (ctrust_con 200000 (by omega) m.t hs) rfl rfl ?_
    refine aops_nil ?_; refine zTF 6 3 3 true ?_
    refine aany_one 5 zKr rfl (.none rfl) ?_
    refine aops_call_v zRc (call_con m.heard hlen hh) rfl rfl ?_
    refine aops_nil ?_
    refine aany_one 7 zKr rfl (.none rfl) ?_
    refine zSt ?_; refine aops_nil ?_; refine zTF 8 18 1 false ?_
    refine aany_one 9 zKr rfl (.none rfl) ?_
    refine zSt ?_; refine aops_nil ?_; refine aany_nil zKr ?_
  rotate_right
  case' _ =>
    refine zLd ?_; refine aops_nil ?_
    refine aany_each2 2 4 zKr rfl (.none rfl) ?_ rfl (.none rfl) ?_
    rotate_left
    case' _ =>
      refine zL1 ?_; refine aops_nil ?_
      refine aany_one 2 zKr rfl (.none rfl) ?_
      refine aops_call_v zRc (ctrust_con 200000 (by omega) m.t hs) rfl rfl ?_
      refine aops_nil ?_; refine zTF 6 3 3 true ?_
      refine aany_one 5 zKr rfl (.none rfl) ?_
      refine aops_call_v zRc (call_con m.heard hlen hh) rfl rfl ?_
      refine aops_nil ?_
      refine aany_one 7 zKr rfl (.none rfl) ?_
      refine zSt ?_; refine aops_nil ?_; refine zTF 8 18 1 false ?_
      refine aany_one 9 zKr rfl (.none rfl) ?_
      refine zSt ?_; refine aops_nil ?_; refine aany_nil zKr ?_
    rotate_right
    case' _ =>
      refine aops_call_v zRc (ctrust_con 200000 (by omega) m.t hs) rfl rfl ?_
      refine aops_nil ?_
      refine aany_one 4 zKr rfl (.none rfl) ?_
      refine zL1 ?_; refine aops_nil ?_; refine zTF 6 3 3 true ?_
      refine aany_one 5 zKr rfl (.none rfl) ?_
      refine aops_call_v zRc (call_con m.heard hlen hh) rfl rfl ?_
      refine aops_nil ?_
      refine aany_one 7 zKr rfl (.none rfl) ?_
      refine zSt ?_; refine aops_nil ?_; refine zTF 8 18 1 false ?_
      refine aany_one 9 zKr rfl (.none rfl) ?_
      refine zSt ?_; refine aops_nil ?_; refine aany_nil zKr ?_
  all_goals (
    refine seqQ_n ?_; refine zS ?_; refine zLd ?_; refine zSt ?_; refine zN ?_; refine awp_ret ?_
    refine post_is (.cell rfl zUpd rfl rfl .nil) zKeep rfl
    )
def noEvp : Evp := ⟨0, 0, 0, Trust.none, 0, Bal.none, Bal.none, Bal.none, 0, 0⟩
def okMsg (m : Mach) : Bool := !zB m.bal && checkM m
def mesM (m : Mach) : Evp := if okMsg m = true then msgM m else noEvp
theorem mmessage_con (m : Mach) (hlen : m.heard.length ≤ 1000000) (hs : sizeT m.t ≤ 200000) (hh : ∀ e ∈ m.heard, sizeT e.t ≤ 200000) : Con Tryz.prog 31 [mcv m] [] (Is (.tup [ev (mesM m), .b (okMsg m)]) []) := by
  have hcap : capB = 140737488355328 := rfl
  have hmlen : (m.heard.map ev).length = m.heard.length := by simp
  refine con_intro Tryz.func31 rfl Tryz.call31 rfl ?_
  refine zS ?_
  refine aops_box rfl zFlat rfl rfl (fun b1 => ?_)
  refine aops_alloc rfl zRc rfl rfl (fun b2 => ?_)
  refine zAs ?_; refine zN ?_; refine awp_seq ?_; refine zS ?_; refine zF 7 2 true ?_; refine zLd ?_
  refine aops_call_v zRc (bz_con m.bal) rfl rfl ?_
  refine zMv ?_
  all_goals first | (refine zY ?_; refine zLd ?_) | refine zU ?_ | refine zNf ?_ | (refine zGf (fun hg => ?_) fun hg => ?_; case' _ => refine zLd ?_)
  all_goals first | (refine zY ?_; (refine aops_call_v zRc (mcheck_con m (by omega) (fun e he => by have := hh e he; omega)) rfl rfl ?_)) | refine zU ?_ | refine zNf ?_ | (refine zGf (fun hg => ?_) fun hg => ?_; case' _ => (refine aops_call_v zRc (mcheck_con m (by omega) (fun e he => by have := hh e he; omega)) rfl rfl ?_))
  all_goals first | (refine zY ?_; refine zNo ?_) | refine zU ?_ | refine zNf ?_ | (refine zGf (fun hg => ?_) fun hg => ?_; case' _ => refine zNo ?_)
  all_goals refine zPk ?_
  all_goals (
    refine zN ?_
    refine zC (fun hc => ?_) fun hc => ?_
    · first
      | (exact absurd hc (by decide))
      | (have hok : okMsg m = false := by unfold okMsg; first | (simp [*]; done) | grind
         refine zS ?_
         refine zP (ap_build zKr rfl zRc zFill) ?_
         refine zSt ?_; refine zAs ?_; refine zN ?_
         refine awp_unnil [2,3] 1 rfl zSelS (by apply HeapA.box (CvL.cons Cv.same (CvL.cons Cv.same (CvL.cons Cv.same (CvL.cons Cv.same (CvL.cons Cv.fz (CvL.cons Cv.same (CvL.cons Cv.same (CvL.cons Cv.same (CvL.cons Cv.same (CvL.cons Cv.same (CvL.cons Cv.same (CvL.cons Cv.same (CvL.cons Cv.same (CvL.cons Cv.same (CvL.cons Cv.same CvL.nil))))))))))))))); repeat (first | exact HeapA.nil | apply HeapA.box (by repeat (first | exact CvL.nil | apply CvL.cons Cv.same)) | apply HeapA.arr)) ?_
         refine awp_unnil [2,3] 3 rfl zSelS (by apply HeapA.box (CvL.cons Cv.same (CvL.cons Cv.same (CvL.cons Cv.same (CvL.cons Cv.same (CvL.cons Cv.same (CvL.cons Cv.fz (CvL.cons Cv.same (CvL.cons Cv.same (CvL.cons Cv.same (CvL.cons Cv.same (CvL.cons Cv.same (CvL.cons Cv.same (CvL.cons Cv.same (CvL.cons Cv.same (CvL.cons Cv.same CvL.nil))))))))))))))); repeat (first | exact HeapA.nil | apply HeapA.box (by repeat (first | exact CvL.nil | apply CvL.cons Cv.same)) | apply HeapA.arr)) ?_
         refine awp_ret ?_; refine seqQ_r ?_
         refine post_is (.cell rfl zUpd rfl rfl (.tmp rfl .nil)) zKeep ?_
         unfold mesM; rw [hok]; rfl
        )
    · first
      | (exact absurd hc (by decide))
      | (have hok : okMsg m = true := by unfold okMsg; first | (simp [*]; done) | grind
         refine awp_skip ?_; refine seqQ_n ?_; refine zS ?_; refine zLd ?_
         refine aops_call_v zRc (mcopied_con m hlen hs hh) rfl rfl ?_
         refine aops_call_v zRc (mmsg_con m) rfl rfl ?_
         refine zSt ?_; refine zAs ?_; refine zN ?_; refine awp_ret ?_
         refine post_is (.cell rfl zUpd rfl rfl (.tmp rfl .nil)) zKeep ?_
         unfold mesM; rw [hok]; rfl
        )
    )
theorem clonee_con (l : List Evp) (hlen : l.length ≤ 1000000) : Con Tryz.prog 33 [.sl 15 (l.map ev)] [] (fun d H => ∃ v, d = .v v ∧ H = [.arr v 52 15 (l.map ev)]) := by
  have hcap : capB = 140737488355328 := rfl
  have hml : (l.map ev).length = l.length := by simp
  refine con_intro Tryz.func33 rfl Tryz.call33 rfl ?_
  refine zS ?_; refine zAs ?_; refine zN ?_; refine awp_seq ?_; refine zS ?_; refine zMv ?_
  refine aops_eqnil rfl rfl rfl rfl rfl (fun c4 hnil4 => ?_)
  refine zN ?_
  refine zC (fun hc => ?_) fun hc => ?_
  · refine awp_seq ?_
    refine awp_region ?_; refine zAs ?_; refine zN ?_
    have e : l = [] := by simpa using hnil4 hc
    subst e
    refine awp_own 52 15 rfl ?_
    refine awp_ret ?_; refine seqQ_r ?_
    exact post_ret (.tmp rfl .nil) zKeep ⟨_, rfl, rfl⟩
  · refine awp_skip ?_
    refine seqQ_n ?_; refine zS ?_
    refine aops_own (e := 52) (sz := 15) (by_ := 176) rfl rfl zRc rfl rfl rfl rfl (fun v5 hv5 => ?_)
    refine zMv ?_
    first | refine aops_append (e := 52) (sz := 15) (by_ := 176) rfl zUpd rfl rfl rfl rfl rfl zLen (fun v7 hv7 => ?_) | refine aops_append_nil (e := 52) (sz := 15) (by_ := 176) rfl rfl rfl rfl rfl rfl zLen (fun v7 hv7 => ?_)
    refine zAs ?_; refine zN ?_
    rw [List.nil_append]
    refine awp_ret ?_
    exact post_ret (.tmp rfl .nil) zKeep ⟨_, rfl, rfl⟩
theorem mem_made2 : tmade Tryz.prog 106 (10 * 4) = some (List.replicate 10 zeroMem.cells.toList).flatten := by kernel_rfl
theorem putE_t {q : List Mem} {e : Evp} {y : Mem} {n : Nat} (hv : vE e = true) (hn : n = e.node.toNat) (hy : q[n]? = some y) (hd : y.decl = false) : putE q e = q.set n ⟨true, e.t⟩ := by
  subst hn
  unfold putE
  rw [if_pos hv, hy]
  show (if y.decl = true then q else _) = _
  rw [if_neg (by rw [hd]; decide)]
theorem putE_f1 {q : List Mem} {e : Evp} (hv : vE e = false) : putE q e = q := by unfold putE; rw [if_neg (by rw [hv]; decide)]
theorem putE_f2 {q : List Mem} {e : Evp} {y : Mem} {n : Nat} (hv : vE e = true) (hn : n = e.node.toNat) (hy : q[n]? = some y) (hd : y.decl = true) : putE q e = q := by
  subst hn
  unfold putE
  rw [if_pos hv, hy]
  show (if y.decl = true then q else _) = _
  rw [if_pos hd]
theorem get_ex {q : List Mem} {n : Nat} (h : q.length = 10) : ∃ y, n < 10 → q[n]? = some y := by
  by_cases hn : n < 10
  · exact ⟨q[n]'(by omega), fun _ => List.getElem?_eq_getElem _⟩
  · exact ⟨⟨false, Trust.none⟩, fun h => absurd h hn⟩
theorem nobody_eq : (List.replicate 10 noMem) = nobody := rfl
theorem viewE_bad {node : Int} {t : Trust} {l : List Evp} (h : node < 0 ∨ 10 ≤ node) : viewE node t l = nobody := by unfold viewE; rw [if_pos h]
theorem viewE_ok {n : Nat} {t : Trust} {l : List Evp} (h : n < 10) : viewE (n : Int) t l = putsE l (nobody.set n ⟨true, t⟩) := by unfold viewE; rw [if_neg (by omega), Int.toNat_natCast]
set_option maxHeartbeats 2000000 in
theorem pview_con (node : Int) (t : Trust) (ht : sizeT t ≤ 200000) (l : List Evp) (hl : ∀ e ∈ l, sizeT e.t ≤ 200000) : Con Tryz.prog 57 [.i node, av t, .sl 15 (l.map ev)] [] (Is (cv (viewE node t l)) []) := by
  have hcap : capB = 140737488355328 := rfl
  have hml : (l.map ev).length = l.length := by simp
  refine con_intro Tryz.func57 rfl Tryz.call57 rfl ?_
  refine zS ?_
  refine aops_box rfl zFlat rfl rfl (fun b4 => ?_)
  refine aops_alloc rfl zRc rfl rfl (fun b6 => ?_)
  refine zN (zS ?_)
  refine aops_make (N := 10) (l := (List.replicate 10 noMem).map mv) rfl rfl rfl rfl mem_made2 (by simp) mem_zero ⟨by decide, by decide⟩ rfl rfl (fun g => ?_)
  refine zP (ap_build zKr rfl zRc zFill) ?_
  refine aops_alloc rfl zRc rfl rfl (fun b7 => ?_)
  refine zSt ?_; refine zN ?_; refine awp_seq ?_; refine zS ?_; refine zMv ?_; refine zCm ?_; refine zMv ?_
  all_goals first | (refine zY ?_; refine zMv ?_) | refine zU ?_ | refine zNf ?_ | (refine zGf (fun hg => ?_) fun hg => ?_; case' _ => refine zMv ?_)
  all_goals first | (refine zY ?_; refine zCm ?_) | refine zU ?_ | refine zNf ?_ | (refine zGf (fun hg => ?_) fun hg => ?_; case' _ => refine zCm ?_)
  all_goals refine zPk ?_
  all_goals (
    refine zN ?_
    refine zC (fun hc => ?_) fun hc => ?_
    · first
      | (exact absurd hc (by decide))
      | (have hbad : node < 0 ∨ 10 ≤ node := by first | (have := of_decide_eq_true hg; omega) | (have := of_decide_eq_true hc; omega)
         refine zS ?_; refine zLd ?_; refine zSt ?_; refine zN ?_
         refine awp_freeze (.slice (some ⟨g, 0, none⟩) 10 10) [6] zRem zSelC zHeapA ?_
         refine awp_ret ?_; refine seqQ_r ?_
         refine post_is (.cell rfl zUpd rfl rfl .nil) zKeep ?_
         rw [viewE_bad hbad]; rfl
        )
    · first
      | (exact absurd hc (by decide))
      | (have hgood : ¬ (node < 0 ∨ 10 ≤ node) := by have h1 := of_decide_eq_false hc; have h2 := of_decide_eq_false (by first | with_reducible assumption | exact hg : decide (node < 0) = false); omega
         refine awp_skip ?_; refine seqQ_n ?_; refine awp_seq ?_
         obtain ⟨n0, rfl, hn10⟩ : ∃ n : Nat, node = n ∧ n < 10 := ⟨node.toNat, by omega, by omega⟩
         obtain ⟨y0, hy0, _⟩ := drop_cons (l := List.replicate 10 noMem) (k := n0) (by simp; omega)
         have hyy0 := getMap mv hy0
         refine awp_draw (Hm := [.arr _ _ _ _]) zKr zSplit ?_
         refine zTF 0 0 1 false ?_; refine zTL 1 ?_
         refine zT 2 rfl (AP.ar (ap_move rfl)) ?_
         refine zTM 3 ?_
         refine aany_one 4 zKr rfl (.none rfl) ?_
         refine aops_call_v zRc (ctrust_con 200000 (by omega) t ht) rfl rfl ?_
         refine aops_nil ?_
         refine zT 5 rfl (AP.ar (ap_build zKr rfl zRc zFill)) ?_
         refine zT 6 rfl (AP.ar (ap_index_own (k := n0) rfl rfl rfl rfl rfl (by omega))) ?_
         refine aany_one 7 zKr rfl (.none rfl) ?_
         refine aops_store_ownF (off := 0) rfl rfl zFlat zUpd rfl hyy0 zRc ?_
         refine aops_nil ?_; refine aany_nil zKr ?_
         all_goals (
           refine seqQ_n ?_; refine awp_seq ?_; refine zS ?_; refine zMv ?_
           first | refine aops_len rfl rfl rfl rfl (fun _ => ?_) | refine zP (ap_len_arr rfl zUpd rfl) ?_ | refine zP (ap_len_nil rfl rfl) ?_
           refine zMv ?_; refine zN ?_; refine awp_block ?_
           refine awp_loop2 [6, 7, 26, 27] [.box b7 _ _, .box b6 _ _, .box b4 _ _] (fun (k : Nat) (q : List Mem) r => (28, .i (k : Int)) :: r) (fun (k : Nat) (q : List Mem) r => .arr (.slice (some ⟨g, 0, none⟩) 10 10) 106 4 (q.map mv) :: r) (fun (k : Nat) (q : List Mem) => k ≤ l.length ∧ q.length = 10 ∧ putsE (l.drop k) q = putsE l (nobody.set n0 ⟨true, t⟩)) (fun (k : Nat) (q : List Mem) => l.length - k) (0) (((List.replicate 10 noMem).set n0 ⟨true, t⟩)) zRc ⟨by omega, by simp, by rw [nobody_eq]; simp⟩ (by rw [show D.agg [.b true, .i t.th, .sl 1 (t.nodes.map .i), .sl 3 (avs t.inner)] = mv ⟨true, t⟩ from rfl, ← List.map_set]; exact (wk zSub zKeep)) ?_
           intro k q ⟨hk, hql, hI⟩
           refine zS ?_; refine zCm ?_; refine zN ?_; refine awp_seq ?_
           refine zC (fun hc => ?_) fun hc => ?_
           · have hlt := of_decide_eq_true hc
             obtain ⟨x, hx, hd⟩ := drop_cons (l := l) (k := k) (by omega)
             have hx' := getMap ev hx
             have hxs := hl x (List.mem_of_getElem? hx)
             obtain ⟨n, hn⟩ : ∃ n, n = x.node.toNat := ⟨_, rfl⟩
             have hnn : vE x = true → x.node = (n : Int) ∧ n < 10 := fun h => by have := vE_node h; omega
             obtain ⟨y, hy⟩ := get_ex (n := n) hql
             refine awp_skip ?_; refine seqQ_n ?_; refine awp_seq ?_; refine awp_block ?_; refine zS ?_
             first | refine zP (ap_index rfl rfl rfl rfl (by decide) rfl zAss) ?_ | refine zP (ap_index rfl rfl rfl rfl (by decide) (by omega) zAss) ?_ | refine zP (ap_index_own rfl rfl rfl rfl rfl (by first | omega | (simp only [List.length_map, List.length_set, avs_len]; omega))) ?_
             refine zLd ?_
             refine aops_alloc rfl zRc rfl rfl (fun b9 => ?_)
             refine zSt ?_; refine zN (zS ?_); refine zLd ?_
             refine aops_call_v zRc (evalid_con x (by omega)) rfl rfl ?_
             refine zMv ?_
             all_goals first | (refine zY ?_; refine zF 0 1 false ?_) | refine zU ?_ | refine zNt ?_ | (refine zGt (fun hg => ?_) fun hg => ?_; case' _ => refine zF 0 1 false ?_)
             all_goals first | (refine zY ?_; refine zL1 ?_) | refine zU ?_ | refine zNt ?_ | (refine zGt (fun hg => ?_) fun hg => ?_; case' _ => refine zL1 ?_)
             all_goals first | (refine zY ?_; refine zF 0 1 false ?_) | refine zU ?_ | refine zNt ?_ | (refine zGt (fun hg => ?_) fun hg => ?_; case' _ => refine zF 0 1 false ?_)
             all_goals first | (refine zY ?_; refine zL1 ?_) | refine zU ?_ | refine zNt ?_ | (refine zGt (fun hg => ?_) fun hg => ?_; case' _ => refine zL1 ?_)
             all_goals first | (refine zY ?_; (rw [(hnn (by first | with_reducible assumption | exact hg)).1]; refine zP (ap_index_own (k := n) rfl rfl rfl rfl rfl (hnn (by first | with_reducible assumption | exact hg)).2) ?_)) | refine zU ?_ | refine zNt ?_ | (refine zGt (fun hg => ?_) fun hg => ?_; case' _ => (rw [(hnn (by first | with_reducible assumption | exact hg)).1]; refine zP (ap_index_own (k := n) rfl rfl rfl rfl rfl (hnn (by first | with_reducible assumption | exact hg)).2) ?_))
             all_goals first | (refine zY ?_; refine zF 0 1 false ?_) | refine zU ?_ | refine zNt ?_ | (refine zGt (fun hg => ?_) fun hg => ?_; case' _ => refine zF 0 1 false ?_)
             all_goals first | (refine zY ?_; (refine aops_q (aq_load_ownF1 (off := 0) rfl zUpd List.not_mem_nil rfl (getMap mv (hy (hnn (by first | with_reducible assumption | exact hg)).2)) zRc) rfl rfl rfl ?_)) | refine zU ?_ | refine zNt ?_ | (refine zGt (fun hg => ?_) fun hg => ?_; case' _ => (refine aops_q (aq_load_ownF1 (off := 0) rfl zUpd List.not_mem_nil rfl (getMap mv (hy (hnn (by first | with_reducible assumption | exact hg)).2)) zRc) rfl rfl rfl ?_))
             all_goals first | (refine zY ?_; refine zNo ?_) | refine zU ?_ | refine zNt ?_ | (refine zGt (fun hg => ?_) fun hg => ?_; case' _ => refine zNo ?_)
             all_goals refine zPk ?_
             all_goals (
               refine zN ?_
               refine zC (fun hc => ?_) fun hc => ?_
               · first
                 | (exact absurd hc (by decide))
                 | (have hve : vE x = true := by first | with_reducible assumption | assumption
                    have hn1 := hnn hve
                    have hy1 := hy hn1.2
                    have hyd : y.decl = false := not_t (by with_reducible assumption)
                    have hyy1 := getMap mv hy1
                    refine awp_draw (Hm := [.arr _ _ _ _]) zKr zSplit ?_
                    refine zTF 0 0 1 false ?_; refine zTL 1 ?_; refine zTF 2 0 1 false ?_; refine zTL 3 ?_; refine zTF 4 3 3 true ?_; refine zTM 5 ?_
                    refine aany_one 6 zKr rfl (.none rfl) ?_
                    refine aops_call_v zRc (ctrust_con 200000 (by omega) x.t hxs) rfl rfl ?_
                    refine aops_nil ?_
                    refine zT 7 rfl (AP.ar (ap_build zKr rfl zRc zFill)) ?_
                    refine zT 8 rfl (AP.ar (ap_index_own (k := n) rfl rfl rfl rfl rfl (by omega))) ?_
                    refine aany_one 9 zKr rfl (.none rfl) ?_
                    refine aops_store_ownF (off := 0) rfl rfl zFlat zUpd rfl hyy1 zRc ?_
                    refine aops_nil ?_; refine aany_nil zKr ?_
                    all_goals (
                      refine blockQ_n ?_; refine seqQ_n ?_; refine awp_region ?_; refine zAr ?_; refine zMv ?_; refine zN ?_
                      rw [hd] at hI
                      simp only [putsE] at hI
                      first
                      | (rw [putE_t hve hn hy1 hyd] at hI; refine ⟨k + 1, q.set n ⟨true, x.t⟩, ⟨by omega, by rw [List.length_set]; exact hql, hI⟩, by omega, ?_⟩; rw [List.map_set]; exact (wk zSub zKeep))
                      | (rw [putE_f1 (by with_reducible assumption)] at hI; refine ⟨k + 1, q, ⟨by omega, hql, hI⟩, by omega, wk zSub zKeep⟩)
                      | (rw [putE_f2 (by first | with_reducible assumption | exact hg) hn (hy (hnn (by first | with_reducible assumption | exact hg)).2) (not_f (by with_reducible assumption))] at hI; refine ⟨k + 1, q, ⟨by omega, hql, hI⟩, by omega, wk zSub zKeep⟩)
                      )
                   )
               · first
                 | (exact absurd hc (by decide))
                 | (refine awp_skip ?_
                    refine blockQ_n ?_; refine seqQ_n ?_; refine awp_region ?_; refine zAr ?_; refine zMv ?_; refine zN ?_
                    rw [hd] at hI
                    simp only [putsE] at hI
                    first
                    | (rw [putE_t hve hn hy1 hyd] at hI; refine ⟨k + 1, q.set n ⟨true, x.t⟩, ⟨by omega, by rw [List.length_set]; exact hql, hI⟩, by omega, ?_⟩; rw [List.map_set]; exact (wk zSub zKeep))
                    | (rw [putE_f1 (by with_reducible assumption)] at hI; refine ⟨k + 1, q, ⟨by omega, hql, hI⟩, by omega, wk zSub zKeep⟩)
                    | (rw [putE_f2 (by first | with_reducible assumption | exact hg) hn (hy (hnn (by first | with_reducible assumption | exact hg)).2) (not_f (by with_reducible assumption))] at hI; refine ⟨k + 1, q, ⟨by omega, hql, hI⟩, by omega, wk zSub zKeep⟩)
                   )
               )
           · have hge := of_decide_eq_false hc
             rw [drop_nil (by omega)] at hI; simp only [putsE] at hI
             refine awp_freeze (.slice (some ⟨g, 0, none⟩) 10 10) [6,7] zRem zSelC zHeapA ?_
             refine awp_exit ?_; refine seqQ_x ?_; refine seqQ_x ?_; refine blockQ_x rfl ?_; refine seqQ_n ?_; refine zS ?_; refine zLd ?_; refine zSt ?_; refine zN ?_; refine awp_ret ?_
             refine post_is (.cell rfl zUpd rfl rfl .nil) zKeep ?_
             rw [viewE_ok hn10, ← hI]; rfl
           )
        )
    )
theorem rights_t {l : List Evp} {k : Nat} {x : Evp} {q : List Evp} (hx : l[k]? = some x) (hI : q = rights (l.take k)) (h : vE x = true) : q ++ [x] = rights (l.take (k + 1)) := by
  rw [List.take_add_one, hx, hI]
  simp [rights, h]
theorem rights_f {l : List Evp} {k : Nat} {x : Evp} {q : List Evp} (hx : l[k]? = some x) (hI : q = rights (l.take k)) (h : vE x = false) : q = rights (l.take (k + 1)) := by
  rw [List.take_add_one, hx, hI]
  simp [rights, h]
theorem rights_ok {l : List Evp} {x : Evp} (h : x ∈ rights l) : vE x = true := (List.mem_filter.1 h).2
theorem erights_con (l : List Evp) (hlen : l.length ≤ 1000000) (hl : ∀ e ∈ l, sizeT e.t ≤ 200000) : Con Tryz.prog 58 [.sl 15 (l.map ev)] [] (Is (.sl 15 ((rights l).map ev)) []) := by
  have hcap : capB = 140737488355328 := rfl
  have hml : (l.map ev).length = l.length := by simp
  refine con_intro Tryz.func58 rfl Tryz.call58 rfl ?_
  refine zS ?_; refine zAs ?_; refine zN (zS ?_); refine zAs ?_; refine zN ?_; refine awp_seq ?_; refine zS ?_; refine zMv ?_
  first | refine aops_len rfl rfl rfl rfl (fun _ => ?_) | refine zP (ap_len_arr rfl zUpd rfl) ?_ | refine zP (ap_len_nil rfl rfl) ?_
  refine zMv ?_; refine zN ?_; refine awp_block ?_
  refine awp_loop3 [6, 7] [] (fun (k : Nat) (v : Value) (q : List Evp) r => (3, .v v) :: (8, .i (k : Int)) :: r) (fun (k : Nat) (v : Value) (q : List Evp) r => .arr v 78 15 (q.map ev) :: r) (fun (k : Nat) (v : Value) (q : List Evp) => k ≤ l.length ∧ q.length ≤ k ∧ q = rights (l.take k)) (fun (k : Nat) (v : Value) (q : List Evp) => l.length - k) (0) (.slice none 0 0) ([]) zRc ⟨by omega, by simp, by simp [rights]⟩ ((wk_own 78 15 rfl).trans (wk zSub zKeep)) ?_
  intro k v q ⟨hk, hql, hI⟩
  refine zS ?_; refine zCm ?_; refine zN ?_; refine awp_seq ?_
  refine zC (fun hc => ?_) fun hc => ?_
  · have hlt := of_decide_eq_true hc
    obtain ⟨x, hx, hd⟩ := drop_cons (l := l) (k := k) (by omega)
    have hx' := getMap ev hx
    have hxs := hl x (List.mem_of_getElem? hx)
    refine awp_skip ?_; refine seqQ_n ?_; refine awp_seq ?_; refine awp_block ?_; refine zS ?_
    first | refine zP (ap_index rfl rfl rfl rfl (by decide) rfl zAss) ?_ | refine zP (ap_index rfl rfl rfl rfl (by decide) (by omega) zAss) ?_ | refine zP (ap_index_own rfl rfl rfl rfl rfl (by first | omega | (simp only [List.length_map, List.length_set, avs_len]; omega))) ?_
    refine zLd ?_
    refine aops_alloc rfl zRc rfl rfl (fun b5 => ?_)
    refine zSt ?_; refine zN (zS ?_); refine zLd ?_
    refine aops_call_v zRc (evalid_con x (by omega)) rfl rfl ?_
    refine zN ?_
    refine zC (fun hc => ?_) fun hc => ?_
    · refine awp_region ?_
      refine zMv ?_; refine zLd ?_
      refine zP (ap_build zKr rfl zRc zFill) ?_
      refine aops_lit (e := 78) (sz := 15) (by_ := 176) rfl rfl zRc rfl rfl rfl rfl ?_
      first | refine aops_append (e := 78) (sz := 15) (by_ := 176) rfl zUpd rfl rfl rfl rfl rfl zLen (fun v18 hv18 => ?_) | refine aops_append_nil (e := 78) (sz := 15) (by_ := 176) rfl rfl rfl rfl rfl rfl zLen (fun v18 hv18 => ?_)
      refine zAs ?_; refine aops_nil ?_; refine blockQ_n ?_; refine seqQ_n ?_; refine awp_region ?_; refine zAr ?_; refine zMv ?_; refine zN ?_
      first
      | (have h0 : vE x = true := (by with_reducible assumption); rw [show D.agg [.i x.node, .i x.slot, .i x.seq, .i x.t.th, .sl 1 (x.t.nodes.map .i), .sl 3 (avs x.t.inner), .i x.kind, .i x.bal.n, .v (.string x.bal.v), .i x.prep.n, .v (.string x.prep.v), .i x.prime.n, .v (.string x.prime.v), .i x.low, .i x.high] = ev x from rfl, ev_snoc]; refine ⟨k + 1, _, q ++ [x], ⟨by omega, by simp only [List.length_append, List.length_cons, List.length_nil]; omega, rights_t hx hI (by with_reducible assumption)⟩, by omega, wk zSub zKeep⟩)
      | refine ⟨k + 1, _, q, ⟨by omega, by omega, rights_f hx hI (by with_reducible assumption)⟩, by omega, wk zSub zKeep⟩
    · refine awp_skip ?_
      refine blockQ_n ?_; refine seqQ_n ?_; refine awp_region ?_; refine zAr ?_; refine zMv ?_; refine zN ?_
      first
      | (have h0 : vE x = true := (by with_reducible assumption); rw [show D.agg [.i x.node, .i x.slot, .i x.seq, .i x.t.th, .sl 1 (x.t.nodes.map .i), .sl 3 (avs x.t.inner), .i x.kind, .i x.bal.n, .v (.string x.bal.v), .i x.prep.n, .v (.string x.prep.v), .i x.prime.n, .v (.string x.prime.v), .i x.low, .i x.high] = ev x from rfl, ev_snoc]; refine ⟨k + 1, _, q ++ [x], ⟨by omega, by simp only [List.length_append, List.length_cons, List.length_nil]; omega, rights_t hx hI (by with_reducible assumption)⟩, by omega, wk zSub zKeep⟩)
      | refine ⟨k + 1, _, q, ⟨by omega, by omega, rights_f hx hI (by with_reducible assumption)⟩, by omega, wk zSub zKeep⟩
  · have hge := of_decide_eq_false hc
    refine awp_freeze v [3] zRem zSelC zHeapA ?_
    refine awp_exit ?_; refine seqQ_x ?_; refine seqQ_x ?_; refine blockQ_x rfl ?_; refine seqQ_n ?_; refine zS ?_; refine zMv ?_; refine zAs ?_; refine zN ?_; refine awp_ret ?_
    refine post_is (.tmp rfl .nil) zKeep ?_
    rw [hI, List.take_of_length_le (by omega)]; rfl
/-- What a node sees, with the envelopes. -/
def seenV (node : Int) (c : List Mem) (l : List Evp) : D := .agg [.i node, .sl 4 (c.map mv), .sl 15 (l.map ev)]
theorem plook_con (node : Int) (t : Trust) (ht : sizeT t ≤ 200000) (l : List Evp) (hlen : l.length ≤ 1000000) (hl : ∀ e ∈ l, sizeT e.t ≤ 200000) : Con Tryz.prog 32 [.i node, av t, .sl 15 (l.map ev)] [] (Is (seenV node (viewE node t l) (rights l)) []) := by
  have hcap : capB = 140737488355328 := rfl
  refine con_intro Tryz.func32 rfl Tryz.call32 rfl ?_
  refine zS ?_
  refine aops_box rfl zFlat rfl rfl (fun b4 => ?_)
  refine aops_alloc rfl zRc rfl rfl (fun b6 => ?_)
  refine zN (zS ?_); refine zMv ?_; refine zMv ?_; refine zLd ?_; refine zMv ?_
  refine aops_call_v zRc (pview_con node t ht l hl) rfl rfl ?_
  refine zMv ?_
  refine aops_call_v zRc (erights_con l hlen hl) rfl rfl ?_
  refine zP (ap_build zKr rfl zRc zFill) ?_
  refine zSt ?_; refine zN ?_; refine awp_ret ?_
  refine post_is (.cell rfl zUpd rfl rfl .nil) zKeep rfl
theorem ecount_con (e : Evp) : Con Tryz.prog 36 [ev e] [] (Is (.i (cntE e)) []) := by
  have hcap : capB = 140737488355328 := rfl
  refine con_intro Tryz.func36 rfl Tryz.call36 rfl ?_
  refine zS ?_
  refine aops_box rfl zFlat rfl rfl (fun b1 => ?_)
  refine zAs ?_; refine zN ?_; refine awp_seq ?_; refine zS ?_; refine zF 0 15 true ?_; refine zF 6 1 false ?_; refine zL1 ?_; refine zCm ?_; refine zN ?_
  refine zC (fun hc => ?_) fun hc => ?_
  · have h1 := of_decide_eq_true hc
    refine zS ?_; refine zAs ?_; refine zN ?_; refine awp_ret ?_; refine seqQ_r ?_
    refine post_is (.tmp rfl .nil) zKeep (icl ?_)
    unfold cntE; rw [if_pos h1]
  · have h1 := of_decide_eq_false hc
    refine awp_skip ?_; refine seqQ_n ?_; refine zS ?_; refine zF 0 15 true ?_; refine zF 7 2 true ?_; refine zF 0 1 false ?_; refine zL1 ?_; refine zAs ?_; refine zN ?_; refine awp_ret ?_
    refine post_is (.tmp rfl .nil) zKeep (icl ?_)
    unfold cntE; rw [if_neg h1]
theorem tog1_con (b : Nat) (o e : Evp) : Con Tryz.prog 35 [ev e, .p b 0] [.box b 52 [.i o.node, .i o.slot, .i o.seq, .i o.t.th, .sl 1 (o.t.nodes.map .i), .sl 3 (avs o.t.inner), .i o.kind, .i o.bal.n, .v (.string o.bal.v), .i o.prep.n, .v (.string o.prep.v), .i o.prime.n, .v (.string o.prime.v), .i o.low, .i o.high]] (Is (.b (decide (o.bal.n ≤ cntE e))) [.box b 52 [.i o.node, .i o.slot, .i o.seq, .i o.t.th, .sl 1 (o.t.nodes.map .i), .sl 3 (avs o.t.inner), .i o.kind, .i o.bal.n, .v (.string o.bal.v), .i o.prep.n, .v (.string o.prep.v), .i o.prime.n, .v (.string o.prime.v), .i o.low, .i o.high]]) := by
  have hcap : capB = 140737488355328 := rfl
  refine con_intro Tryz.func35 rfl Tryz.call35 rfl ?_
  refine zS ?_
  refine aops_box rfl zFlat rfl rfl (fun b2 => ?_)
  refine zAs ?_; refine zN ?_; refine awp_seq ?_
  refine awp_draw (Hm := []) zKr zSplit ?_
  refine zTM 0 ?_; refine zTF 2 7 2 true ?_; refine zTF 3 0 1 false ?_; refine zTL 4 ?_
  refine aany_one 1 zKr rfl (.none rfl) ?_
  refine aops_call_v zRc (ecount_con e) rfl rfl ?_
  refine aops_nil ?_
  refine zT 5 rfl (AP.ar (ap_cmp rfl rfl rfl)) ?_
  refine zT 6 rfl (AP.ar (ap_assign rfl)) ?_
  refine aany_nil zKr ?_
  all_goals (
    refine seqQ_n ?_; refine awp_ret ?_
    exact post_ret (.tmp rfl .nil) zKeep ⟨rfl, rfl⟩
    )
theorem who_bit {e : Evp} (h : vE e = true) : ∃ n : Nat, e.node = n ∧ n < 10 := by
  have := vE_node h
  exact ⟨e.node.toNat, by omega, by omega⟩
theorem who_t {p : Evp → Bool} {e : Evp} {r : List Evp} {s n : Nat} (h : p e = true) (hn : e.node = n) : whoGo p (e :: r) s = whoGo p r (s ||| 1 * 2 ^ n) := by simp only [whoGo]; rw [if_pos h, hn, Int.toNat_natCast]
theorem who_f {p : Evp → Bool} {e : Evp} {r : List Evp} {s : Nat} (h : p e = false) : whoGo p (e :: r) s = whoGo p r s := by simp only [whoGo]; rw [if_neg (by rw [h]; decide)]
theorem pwho_con (node : Int) (c : List Mem) (l : List Evp) (hv : ∀ e ∈ l, vE e = true) (g b : Nat) (cs : List D) (p : Evp → Bool) (hg0 : ∀ e, Con Tryz.prog g [ev e, .p b 0] [.box b 52 cs] (Is (.b (p e)) [.box b 52 cs])) : Con Tryz.prog 34 [seenV node c l, .v (.func (.func g) #[] #[.pointer (some ⟨b, 0, none⟩)])] [.box b 52 cs] (Is (.i (whoE p l : Nat)) [.box b 52 cs]) := by
  have hcap : capB = 140737488355328 := rfl
  have hml : (l.map ev).length = l.length := by simp
  refine con_intro Tryz.func34 rfl Tryz.call34 rfl ?_
  refine zS ?_
  refine aops_box rfl zFlat rfl rfl (fun b2 => ?_)
  refine zAs ?_; refine zN (zS ?_); refine zAs ?_; refine zN ?_; refine awp_seq ?_; refine zS ?_; refine zF 2 1 false ?_; refine zL1 ?_
  first | refine aops_len rfl rfl rfl rfl (fun _ => ?_) | refine zP (ap_len_arr rfl zUpd rfl) ?_ | refine zP (ap_len_nil rfl rfl) ?_
  refine zMv ?_; refine zN ?_; refine awp_block ?_
  refine awp_loop2 [1, 9, 10] [.box b2 _ _] (fun (k : Nat) (s : Nat) r => (5, .i (s : Int)) :: (11, .i (k : Int)) :: r) (fun (k : Nat) (s : Nat) r => .box b 52 cs :: r) (fun (k : Nat) (s : Nat) => k ≤ l.length ∧ s < 1024 ∧ whoGo p (l.drop k) s = whoE p l) (fun (k : Nat) (s : Nat) => l.length - k) (0) (0) zRc ⟨by omega, by omega, rfl⟩ (wk zSub zKeep) ?_
  intro k s ⟨hk, hs, hI⟩
  refine zS ?_; refine zCm ?_; refine zN ?_; refine awp_seq ?_
  refine zC (fun hc => ?_) fun hc => ?_
  · have hlt := of_decide_eq_true hc
    obtain ⟨x, hx, hd⟩ := drop_cons (l := l) (k := k) (by omega)
    have hx' := getMap ev hx
    obtain ⟨n, hn, hn10⟩ := who_bit (hv x (List.mem_of_getElem? hx))
    refine awp_skip ?_; refine seqQ_n ?_; refine awp_seq ?_; refine awp_block ?_; refine zS ?_
    first | refine zP (ap_index rfl rfl rfl rfl (by decide) rfl zAss) ?_ | refine zP (ap_index rfl rfl rfl rfl (by decide) (by omega) zAss) ?_ | refine zP (ap_index_own rfl rfl rfl rfl rfl (by first | omega | (simp only [List.length_map, List.length_set, avs_len]; omega))) ?_
    refine zLd ?_
    refine aops_alloc rfl zRc rfl rfl (fun b7 => ?_)
    refine zSt ?_; refine zN (zS ?_); refine zMv ?_; refine zLd ?_
    (refine aops_callv (caps := [.pointer (some ⟨b, 0, none⟩)]) rfl zRc (hg0 x) zSplit rfl rfl ?_; rintro _ _ ⟨rfl, rfl⟩)
    refine zN ?_
    refine zC (fun hc => ?_) fun hc => ?_
    · rw [hn]
      have hpn := pow_lt10 hn10
      refine awp_region ?_; refine zMv ?_; refine zF 0 15 true ?_; refine zF 0 1 false ?_; refine zL1 ?_
      refine zP (ap_shl (p := 1) rfl rfl rfl (by omega) (by omega)) ?_
      refine zP (ap_bits rfl rfl rfl (by omega) (by omega)) ?_
      refine zAs ?_; refine aops_nil ?_; refine blockQ_n ?_; refine seqQ_n ?_; refine awp_region ?_; refine zAr ?_; refine zMv ?_; refine zN ?_
      rw [hd] at hI
      first
      | (rw [who_t (by with_reducible assumption) hn] at hI; refine ⟨k + 1, s ||| 1 * 2 ^ n, ⟨by omega, or_lt10 hs hn10, hI⟩, by omega, wk zSub zKeep⟩)
      | (rw [who_f (by with_reducible assumption)] at hI; refine ⟨k + 1, s, ⟨by omega, hs, hI⟩, by omega, wk zSub zKeep⟩)
    · refine awp_skip ?_
      refine blockQ_n ?_; refine seqQ_n ?_; refine awp_region ?_; refine zAr ?_; refine zMv ?_; refine zN ?_
      rw [hd] at hI
      first
      | (rw [who_t (by with_reducible assumption) hn] at hI; refine ⟨k + 1, s ||| 1 * 2 ^ n, ⟨by omega, or_lt10 hs hn10, hI⟩, by omega, wk zSub zKeep⟩)
      | (rw [who_f (by with_reducible assumption)] at hI; refine ⟨k + 1, s, ⟨by omega, hs, hI⟩, by omega, wk zSub zKeep⟩)
  · have hge := of_decide_eq_false hc
    rw [drop_nil (by omega)] at hI; simp only [whoGo] at hI
    refine awp_exit ?_; refine seqQ_x ?_; refine seqQ_x ?_; refine blockQ_x rfl ?_; refine seqQ_n ?_; refine zS ?_; refine zMv ?_; refine zAs ?_; refine zN ?_; refine awp_ret ?_
    refine post_ret (.tmp rfl .nil) zKeep ⟨?_, rfl⟩
    rw [← hI]; rfl
theorem mesM_ok {m : Mach} (h : okMsg m = true) : mesM m = msgM m := by unfold mesM; rw [if_pos h]
theorem tog_1 {m : Mach} (h : okMsg m = false) : togM m = false := by unfold togM; rw [if_pos (by show (!okMsg m) = true; rw [h]; rfl)]
theorem tog_2 {m : Mach} (h : m.phase = 3) : togM m = false := by
  unfold togM
  split
  · rfl
  · simp [h]
theorem tog_3 {m : Mach} (h : okMsg m = true) (h2 : ¬ m.phase = 3) : togM m = has (great (viewE m.node m.t (m.heard ++ [msgM m])) (whoE (fun e => decide (m.bal.n ≤ cntE e)) (rights (m.heard ++ [msgM m])) : Nat)) m.node := by unfold togM; rw [if_neg (by show ¬ (!okMsg m) = true; rw [h]; decide), if_neg h2]
set_option maxHeartbeats 2000000 in
theorem tog_con (m : Mach) (hlen : m.heard.length ≤ 900000) (hs : sizeT m.t ≤ 200000) (hh : ∀ e ∈ m.heard, sizeT e.t ≤ 200000) : Con Tryz.prog 15 [mcv m] [] (Is (.b (togM m)) []) := by
  have hcap : capB = 140737488355328 := rfl
  have hmlen : (m.heard.map ev).length = m.heard.length := by simp
  refine con_intro Tryz.func15 rfl Tryz.call15 rfl ?_
  refine zS ?_
  refine aops_box rfl zFlat rfl rfl (fun b1 => ?_)
  refine zAs ?_; refine zN (zS ?_); refine zLd ?_
  refine aops_call_v zRc (mmessage_con m (by omega) hs hh) rfl rfl ?_
  refine zMv ?_
  refine zP (ap_extract rfl rfl) ?_
  refine zP (ap_extract rfl rfl) ?_
  refine aops_alloc rfl zRc rfl rfl (fun b3 => ?_)
  refine zSt ?_; refine zAs ?_; refine zN ?_; refine awp_seq ?_; refine zS ?_; refine zMv ?_; refine zNo ?_; refine zMv ?_
  all_goals first | (refine zY ?_; refine zF 6 1 false ?_) | refine zU ?_ | refine zNf ?_ | (refine zGf (fun hg => ?_) fun hg => ?_; case' _ => refine zF 6 1 false ?_)
  all_goals first | (refine zY ?_; refine zL1 ?_) | refine zU ?_ | refine zNf ?_ | (refine zGf (fun hg => ?_) fun hg => ?_; case' _ => refine zL1 ?_)
  all_goals first | (refine zY ?_; refine zCm ?_) | refine zU ?_ | refine zNf ?_ | (refine zGf (fun hg => ?_) fun hg => ?_; case' _ => refine zCm ?_)
  all_goals refine zPk ?_
  all_goals (
    refine zN ?_
    refine zC (fun hc => ?_) fun hc => ?_
    · first
      | (exact absurd hc (by decide))
      | (have htog : togM m = false := by first | exact tog_1 (not_t (by first | with_reducible assumption | exact hg)) | exact tog_2 (of_decide_eq_true (by first | with_reducible assumption | exact hc))
         refine zS ?_; refine zAs ?_; refine zN ?_; refine awp_ret ?_; refine seqQ_r ?_
         refine post_is (.tmp rfl .nil) zKeep (bcl ?_)
         exact htog.symm
        )
    · first
      | (exact absurd hc (by decide))
      | (have hok : okMsg m = true := not_f (by first | with_reducible assumption | exact hg)
         have hph : ¬ m.phase = 3 := of_decide_eq_false hc
         have htog := tog_3 hok hph
         have hmes := mesM_ok hok
         obtain ⟨o, ho⟩ : ∃ o, o = msgM m := ⟨_, rfl⟩
         rw [hmes, ← ho]
         rw [← ho] at htog
         have hot : o.t = m.t := by rw [ho]; rfl
         have hob : o.bal = m.bal := by rw [ho]; rfl
         have hlo : ∀ e ∈ m.heard ++ [o], sizeT e.t ≤ 200000 := snoc_mem hh (by rw [hot]; exact hs)
         refine awp_skip ?_; refine seqQ_n ?_; refine awp_seq ?_
         refine awp_draw (Hm := []) zKr zSplit ?_
         refine zTF 0 0 1 false ?_; refine zTL 1 ?_; refine zTF 2 3 3 true ?_; refine zTM 3 ?_; refine zTF 4 18 1 false ?_; refine zTL 5 ?_; refine zTM 7 ?_
         refine aany_each3 6 8 11 zKr (cho rfl (.none rfl) ?_) (cho rfl (.none rfl) ?_) (cho rfl (.none rfl) ?_)
         rotate_left 2
         case' _ =>
           refine aops_alloc rfl zRc rfl rfl (fun b5 => ?_)
           refine aops_nil ?_
           refine aany_each2 6 8 zKr rfl (.none rfl) ?_ rfl (.none rfl) ?_
           rotate_left
           case' _ =>
             refine aops_lit (e := 52) (sz := 15) (by_ := 176) rfl rfl zRc rfl rfl rfl rfl ?_
             refine aops_nil ?_
             refine aany_one 6 zKr rfl (.none rfl) ?_
             (refine aops_call zRc (clonee_con m.heard (by omega)) zSplit rfl rfl ?_; rintro _ _ ⟨v25, rfl, rfl⟩)
             refine aops_nil ?_
             refine aany_one 9 zKr rfl (.none rfl) ?_
             first | refine aops_append (e := 52) (sz := 15) (by_ := 176) rfl zUpd rfl rfl rfl rfl rfl (by simp only [List.length_cons, List.length_nil, List.length_append, List.length_map]; omega) (fun v28 hv28 => ?_) | refine aops_append_nil (e := 52) (sz := 15) (by_ := 176) rfl rfl rfl rfl rfl rfl (by simp only [List.length_cons, List.length_nil, List.length_append, List.length_map]; omega) (fun v28 hv28 => ?_)
             refine aops_nil ?_
             refine aany_one 10 zKr rfl (.none rfl) ?_
             (rw [show D.agg [.i o.node, .i o.slot, .i o.seq, .i o.t.th, .sl 1 (o.t.nodes.map .i), .sl 3 (avs o.t.inner), .i o.kind, .i o.bal.n, .v (.string o.bal.v), .i o.prep.n, .v (.string o.prep.v), .i o.prime.n, .v (.string o.prime.v), .i o.low, .i o.high] = ev o from rfl, ev_snoc]; (first | (have h5 : Nat := b5; refine aops_freeze v28 [1,3,20,22,28,5] rfl zRem zSelC zHeapA ?_) | refine aops_freeze v28 [1,3,20,22,28] rfl zRem zSelC zHeapA ?_); refine aops_call_v zRc (plook_con m.node m.t hs (m.heard ++ [o]) (by simp; omega) hlo) rfl rfl ?_)
             refine aops_nil ?_
             refine aany_one 12 zKr rfl (.none rfl) ?_
             refine zSt ?_; refine aops_nil ?_; refine aany_nil zKr ?_
           rotate_right
           case' _ =>
             (refine aops_call zRc (clonee_con m.heard (by omega)) zSplit rfl rfl ?_; rintro _ _ ⟨v25, rfl, rfl⟩)
             refine aops_nil ?_
             refine aany_one 8 zKr rfl (.none rfl) ?_
             refine aops_lit (e := 52) (sz := 15) (by_ := 176) rfl rfl zRc rfl rfl rfl rfl ?_
             refine aops_nil ?_
             refine aany_one 9 zKr rfl (.none rfl) ?_
             first | refine aops_append (e := 52) (sz := 15) (by_ := 176) rfl zUpd rfl rfl rfl rfl rfl (by simp only [List.length_cons, List.length_nil, List.length_append, List.length_map]; omega) (fun v28 hv28 => ?_) | refine aops_append_nil (e := 52) (sz := 15) (by_ := 176) rfl rfl rfl rfl rfl rfl (by simp only [List.length_cons, List.length_nil, List.length_append, List.length_map]; omega) (fun v28 hv28 => ?_)
             refine aops_nil ?_
             refine aany_one 10 zKr rfl (.none rfl) ?_
             (rw [show D.agg [.i o.node, .i o.slot, .i o.seq, .i o.t.th, .sl 1 (o.t.nodes.map .i), .sl 3 (avs o.t.inner), .i o.kind, .i o.bal.n, .v (.string o.bal.v), .i o.prep.n, .v (.string o.prep.v), .i o.prime.n, .v (.string o.prime.v), .i o.low, .i o.high] = ev o from rfl, ev_snoc]; (first | (have h5 : Nat := b5; refine aops_freeze v28 [1,3,20,22,28,5] rfl zRem zSelC zHeapA ?_) | refine aops_freeze v28 [1,3,20,22,28] rfl zRem zSelC zHeapA ?_); refine aops_call_v zRc (plook_con m.node m.t hs (m.heard ++ [o]) (by simp; omega) hlo) rfl rfl ?_)
             refine aops_nil ?_
             refine aany_one 12 zKr rfl (.none rfl) ?_
             refine zSt ?_; refine aops_nil ?_; refine aany_nil zKr ?_
         rotate_right
         case' _ =>
           refine aops_lit (e := 52) (sz := 15) (by_ := 176) rfl rfl zRc rfl rfl rfl rfl ?_
           refine aops_nil ?_
           refine aany_each2 6 11 zKr rfl (.none rfl) ?_ rfl (.none rfl) ?_
           rotate_left
           case' _ =>
             refine aops_alloc rfl zRc rfl rfl (fun b5 => ?_)
             refine aops_nil ?_
             refine aany_one 6 zKr rfl (.none rfl) ?_
             (refine aops_call zRc (clonee_con m.heard (by omega)) zSplit rfl rfl ?_; rintro _ _ ⟨v25, rfl, rfl⟩)
             refine aops_nil ?_
             refine aany_one 9 zKr rfl (.none rfl) ?_
             first | refine aops_append (e := 52) (sz := 15) (by_ := 176) rfl zUpd rfl rfl rfl rfl rfl (by simp only [List.length_cons, List.length_nil, List.length_append, List.length_map]; omega) (fun v28 hv28 => ?_) | refine aops_append_nil (e := 52) (sz := 15) (by_ := 176) rfl rfl rfl rfl rfl rfl (by simp only [List.length_cons, List.length_nil, List.length_append, List.length_map]; omega) (fun v28 hv28 => ?_)
             refine aops_nil ?_
             refine aany_one 10 zKr rfl (.none rfl) ?_
             (rw [show D.agg [.i o.node, .i o.slot, .i o.seq, .i o.t.th, .sl 1 (o.t.nodes.map .i), .sl 3 (avs o.t.inner), .i o.kind, .i o.bal.n, .v (.string o.bal.v), .i o.prep.n, .v (.string o.prep.v), .i o.prime.n, .v (.string o.prime.v), .i o.low, .i o.high] = ev o from rfl, ev_snoc]; (first | (have h5 : Nat := b5; refine aops_freeze v28 [1,3,20,22,28,5] rfl zRem zSelC zHeapA ?_) | refine aops_freeze v28 [1,3,20,22,28] rfl zRem zSelC zHeapA ?_); refine aops_call_v zRc (plook_con m.node m.t hs (m.heard ++ [o]) (by simp; omega) hlo) rfl rfl ?_)
             refine aops_nil ?_
             refine aany_one 12 zKr rfl (.none rfl) ?_
             refine zSt ?_; refine aops_nil ?_; refine aany_nil zKr ?_
           rotate_right
           case' _ =>
             (refine aops_call zRc (clonee_con m.heard (by omega)) zSplit rfl rfl ?_; rintro _ _ ⟨v25, rfl, rfl⟩)
             refine aops_nil ?_
             refine aany_each2 9 11 zKr rfl (.none rfl) ?_ rfl (.none rfl) ?_
             rotate_left
             case' _ =>
               refine aops_alloc rfl zRc rfl rfl (fun b5 => ?_)
               refine aops_nil ?_
               refine aany_one 9 zKr rfl (.none rfl) ?_
               first | refine aops_append (e := 52) (sz := 15) (by_ := 176) rfl zUpd rfl rfl rfl rfl rfl (by simp only [List.length_cons, List.length_nil, List.length_append, List.length_map]; omega) (fun v28 hv28 => ?_) | refine aops_append_nil (e := 52) (sz := 15) (by_ := 176) rfl rfl rfl rfl rfl rfl (by simp only [List.length_cons, List.length_nil, List.length_append, List.length_map]; omega) (fun v28 hv28 => ?_)
               refine aops_nil ?_
               refine aany_one 10 zKr rfl (.none rfl) ?_
               (rw [show D.agg [.i o.node, .i o.slot, .i o.seq, .i o.t.th, .sl 1 (o.t.nodes.map .i), .sl 3 (avs o.t.inner), .i o.kind, .i o.bal.n, .v (.string o.bal.v), .i o.prep.n, .v (.string o.prep.v), .i o.prime.n, .v (.string o.prime.v), .i o.low, .i o.high] = ev o from rfl, ev_snoc]; (first | (have h5 : Nat := b5; refine aops_freeze v28 [1,3,20,22,28,5] rfl zRem zSelC zHeapA ?_) | refine aops_freeze v28 [1,3,20,22,28] rfl zRem zSelC zHeapA ?_); refine aops_call_v zRc (plook_con m.node m.t hs (m.heard ++ [o]) (by simp; omega) hlo) rfl rfl ?_)
               refine aops_nil ?_
               refine aany_one 12 zKr rfl (.none rfl) ?_
               refine zSt ?_; refine aops_nil ?_; refine aany_nil zKr ?_
             rotate_right
             case' _ =>
               first | refine aops_append (e := 52) (sz := 15) (by_ := 176) rfl zUpd rfl rfl rfl rfl rfl (by simp only [List.length_cons, List.length_nil, List.length_append, List.length_map]; omega) (fun v28 hv28 => ?_) | refine aops_append_nil (e := 52) (sz := 15) (by_ := 176) rfl rfl rfl rfl rfl rfl (by simp only [List.length_cons, List.length_nil, List.length_append, List.length_map]; omega) (fun v28 hv28 => ?_)
               refine aops_nil ?_
               refine aany_each2 10 11 zKr rfl (.none rfl) ?_ rfl (.none rfl) ?_
               rotate_left
               case' _ =>
                 refine aops_alloc rfl zRc rfl rfl (fun b5 => ?_)
                 refine aops_nil ?_
                 refine aany_one 10 zKr rfl (.none rfl) ?_
                 (rw [show D.agg [.i o.node, .i o.slot, .i o.seq, .i o.t.th, .sl 1 (o.t.nodes.map .i), .sl 3 (avs o.t.inner), .i o.kind, .i o.bal.n, .v (.string o.bal.v), .i o.prep.n, .v (.string o.prep.v), .i o.prime.n, .v (.string o.prime.v), .i o.low, .i o.high] = ev o from rfl, ev_snoc]; (first | (have h5 : Nat := b5; refine aops_freeze v28 [1,3,20,22,28,5] rfl zRem zSelC zHeapA ?_) | refine aops_freeze v28 [1,3,20,22,28] rfl zRem zSelC zHeapA ?_); refine aops_call_v zRc (plook_con m.node m.t hs (m.heard ++ [o]) (by simp; omega) hlo) rfl rfl ?_)
                 refine aops_nil ?_
                 refine aany_one 12 zKr rfl (.none rfl) ?_
                 refine zSt ?_; refine aops_nil ?_; refine aany_nil zKr ?_
               rotate_right
               case' _ =>
                 (rw [show D.agg [.i o.node, .i o.slot, .i o.seq, .i o.t.th, .sl 1 (o.t.nodes.map .i), .sl 3 (avs o.t.inner), .i o.kind, .i o.bal.n, .v (.string o.bal.v), .i o.prep.n, .v (.string o.prep.v), .i o.prime.n, .v (.string o.prime.v), .i o.low, .i o.high] = ev o from rfl, ev_snoc]; (first | (have h5 : Nat := b5; refine aops_freeze v28 [1,3,20,22,28,5] rfl zRem zSelC zHeapA ?_) | refine aops_freeze v28 [1,3,20,22,28] rfl zRem zSelC zHeapA ?_); refine aops_call_v zRc (plook_con m.node m.t hs (m.heard ++ [o]) (by simp; omega) hlo) rfl rfl ?_)
                 refine aops_nil ?_
                 refine aany_one 11 zKr rfl (.none rfl) ?_
                 refine aops_alloc rfl zRc rfl rfl (fun b5 => ?_)
                 refine aops_nil ?_
                 refine aany_one 12 zKr rfl (.none rfl) ?_
                 refine zSt ?_; refine aops_nil ?_; refine aany_nil zKr ?_
         rotate_right
         case' _ =>
           (refine aops_call zRc (clonee_con m.heard (by omega)) zSplit rfl rfl ?_; rintro _ _ ⟨v25, rfl, rfl⟩)
           refine aops_nil ?_
           refine aany_each2 8 11 zKr rfl (.none rfl) ?_ rfl (.none rfl) ?_
           rotate_left
           case' _ =>
             refine aops_alloc rfl zRc rfl rfl (fun b5 => ?_)
             refine aops_nil ?_
             refine aany_one 8 zKr rfl (.none rfl) ?_
             refine aops_lit (e := 52) (sz := 15) (by_ := 176) rfl rfl zRc rfl rfl rfl rfl ?_
             refine aops_nil ?_
             refine aany_one 9 zKr rfl (.none rfl) ?_
             first | refine aops_append (e := 52) (sz := 15) (by_ := 176) rfl zUpd rfl rfl rfl rfl rfl (by simp only [List.length_cons, List.length_nil, List.length_append, List.length_map]; omega) (fun v28 hv28 => ?_) | refine aops_append_nil (e := 52) (sz := 15) (by_ := 176) rfl rfl rfl rfl rfl rfl (by simp only [List.length_cons, List.length_nil, List.length_append, List.length_map]; omega) (fun v28 hv28 => ?_)
             refine aops_nil ?_
             refine aany_one 10 zKr rfl (.none rfl) ?_
             (rw [show D.agg [.i o.node, .i o.slot, .i o.seq, .i o.t.th, .sl 1 (o.t.nodes.map .i), .sl 3 (avs o.t.inner), .i o.kind, .i o.bal.n, .v (.string o.bal.v), .i o.prep.n, .v (.string o.prep.v), .i o.prime.n, .v (.string o.prime.v), .i o.low, .i o.high] = ev o from rfl, ev_snoc]; (first | (have h5 : Nat := b5; refine aops_freeze v28 [1,3,20,22,28,5] rfl zRem zSelC zHeapA ?_) | refine aops_freeze v28 [1,3,20,22,28] rfl zRem zSelC zHeapA ?_); refine aops_call_v zRc (plook_con m.node m.t hs (m.heard ++ [o]) (by simp; omega) hlo) rfl rfl ?_)
             refine aops_nil ?_
             refine aany_one 12 zKr rfl (.none rfl) ?_
             refine zSt ?_; refine aops_nil ?_; refine aany_nil zKr ?_
           rotate_right
           case' _ =>
             refine aops_lit (e := 52) (sz := 15) (by_ := 176) rfl rfl zRc rfl rfl rfl rfl ?_
             refine aops_nil ?_
             refine aany_each2 9 11 zKr rfl (.none rfl) ?_ rfl (.none rfl) ?_
             rotate_left
             case' _ =>
               refine aops_alloc rfl zRc rfl rfl (fun b5 => ?_)
               refine aops_nil ?_
               refine aany_one 9 zKr rfl (.none rfl) ?_
               first | refine aops_append (e := 52) (sz := 15) (by_ := 176) rfl zUpd rfl rfl rfl rfl rfl (by simp only [List.length_cons, List.length_nil, List.length_append, List.length_map]; omega) (fun v28 hv28 => ?_) | refine aops_append_nil (e := 52) (sz := 15) (by_ := 176) rfl rfl rfl rfl rfl rfl (by simp only [List.length_cons, List.length_nil, List.length_append, List.length_map]; omega) (fun v28 hv28 => ?_)
               refine aops_nil ?_
               refine aany_one 10 zKr rfl (.none rfl) ?_
               (rw [show D.agg [.i o.node, .i o.slot, .i o.seq, .i o.t.th, .sl 1 (o.t.nodes.map .i), .sl 3 (avs o.t.inner), .i o.kind, .i o.bal.n, .v (.string o.bal.v), .i o.prep.n, .v (.string o.prep.v), .i o.prime.n, .v (.string o.prime.v), .i o.low, .i o.high] = ev o from rfl, ev_snoc]; (first | (have h5 : Nat := b5; refine aops_freeze v28 [1,3,20,22,28,5] rfl zRem zSelC zHeapA ?_) | refine aops_freeze v28 [1,3,20,22,28] rfl zRem zSelC zHeapA ?_); refine aops_call_v zRc (plook_con m.node m.t hs (m.heard ++ [o]) (by simp; omega) hlo) rfl rfl ?_)
               refine aops_nil ?_
               refine aany_one 12 zKr rfl (.none rfl) ?_
               refine zSt ?_; refine aops_nil ?_; refine aany_nil zKr ?_
             rotate_right
             case' _ =>
               first | refine aops_append (e := 52) (sz := 15) (by_ := 176) rfl zUpd rfl rfl rfl rfl rfl (by simp only [List.length_cons, List.length_nil, List.length_append, List.length_map]; omega) (fun v28 hv28 => ?_) | refine aops_append_nil (e := 52) (sz := 15) (by_ := 176) rfl rfl rfl rfl rfl rfl (by simp only [List.length_cons, List.length_nil, List.length_append, List.length_map]; omega) (fun v28 hv28 => ?_)
               refine aops_nil ?_
               refine aany_each2 10 11 zKr rfl (.none rfl) ?_ rfl (.none rfl) ?_
               rotate_left
               case' _ =>
                 refine aops_alloc rfl zRc rfl rfl (fun b5 => ?_)
                 refine aops_nil ?_
                 refine aany_one 10 zKr rfl (.none rfl) ?_
                 (rw [show D.agg [.i o.node, .i o.slot, .i o.seq, .i o.t.th, .sl 1 (o.t.nodes.map .i), .sl 3 (avs o.t.inner), .i o.kind, .i o.bal.n, .v (.string o.bal.v), .i o.prep.n, .v (.string o.prep.v), .i o.prime.n, .v (.string o.prime.v), .i o.low, .i o.high] = ev o from rfl, ev_snoc]; (first | (have h5 : Nat := b5; refine aops_freeze v28 [1,3,20,22,28,5] rfl zRem zSelC zHeapA ?_) | refine aops_freeze v28 [1,3,20,22,28] rfl zRem zSelC zHeapA ?_); refine aops_call_v zRc (plook_con m.node m.t hs (m.heard ++ [o]) (by simp; omega) hlo) rfl rfl ?_)
                 refine aops_nil ?_
                 refine aany_one 12 zKr rfl (.none rfl) ?_
                 refine zSt ?_; refine aops_nil ?_; refine aany_nil zKr ?_
               rotate_right
               case' _ =>
                 (rw [show D.agg [.i o.node, .i o.slot, .i o.seq, .i o.t.th, .sl 1 (o.t.nodes.map .i), .sl 3 (avs o.t.inner), .i o.kind, .i o.bal.n, .v (.string o.bal.v), .i o.prep.n, .v (.string o.prep.v), .i o.prime.n, .v (.string o.prime.v), .i o.low, .i o.high] = ev o from rfl, ev_snoc]; (first | (have h5 : Nat := b5; refine aops_freeze v28 [1,3,20,22,28,5] rfl zRem zSelC zHeapA ?_) | refine aops_freeze v28 [1,3,20,22,28] rfl zRem zSelC zHeapA ?_); refine aops_call_v zRc (plook_con m.node m.t hs (m.heard ++ [o]) (by simp; omega) hlo) rfl rfl ?_)
                 refine aops_nil ?_
                 refine aany_one 11 zKr rfl (.none rfl) ?_
                 refine aops_alloc rfl zRc rfl rfl (fun b5 => ?_)
                 refine aops_nil ?_
                 refine aany_one 12 zKr rfl (.none rfl) ?_
                 refine zSt ?_; refine aops_nil ?_; refine aany_nil zKr ?_
         all_goals (
           refine seqQ_n ?_; refine zS ?_; refine zLd ?_
           refine zP (ap_makeFunc zRc) ?_
           (refine aops_call zRc (pwho_con m.node _ (rights (m.heard ++ [o])) (fun e he => rights_ok he) 35 b3 _ (fun e => decide (o.bal.n ≤ cntE e)) (fun e => tog1_con b3 o e)) zSplit rfl rfl ?_; rintro _ _ ⟨rfl, rfl⟩)
           refine zAs ?_; refine zN ?_; refine awp_seq ?_
           refine awp_draw (Hm := []) zKr zSplit ?_
           refine zTF 0 1 1 true ?_; refine zTM 1 ?_
           refine zT 2 rfl (AP.ar (ap_move rfl)) ?_
           refine zTF 4 0 1 false ?_; refine zTL 5 ?_
           refine aany_one 3 zKr rfl (.none rfl) ?_
           refine aops_call_v zRc (great_con _ _) rfl rfl ?_
           refine aops_nil ?_
           refine aany_one 6 zKr rfl (.none rfl) ?_
           refine aops_call_v zRc (has_con _ _) rfl rfl ?_
           refine aops_nil ?_
           refine zT 7 rfl (AP.ar (ap_assign rfl)) ?_
           refine aany_nil zKr ?_
           all_goals (
             refine seqQ_n ?_; refine awp_ret ?_
             refine post_is (.tmp rfl .nil) zKeep (bcl ?_)
             rw [htog, hob]
             )
           )
        )
    )
theorem eq2_24 : Eq2 Tryz.prog 24 := ⟨by kernel_rfl, fun a b c d w => by
  have u3 := Tryz.underlying3
  have a3 := Tryz.isAgg3
  have z3 := Tryz.sizeOf3
  have hS : Tryz.prog.underlying 24 = some (.struct (Tryz.prog.fieldsOf 24)) := by kernel_rfl
  have hp : Tryz.prog.stoodInHeld 24 = false := by kernel_rfl
  rw [show (10000 : Nat) = 9999 + 1 from rfl, run_equalIn_agg w 9999 24 _ _ hS hp]
  simp only [Program.fieldsOf, Tryz.underlying24]
  go_simp
  by_cases h1 : a = c <;> by_cases h2 : b = d <;> simp [h1, h2]⟩
theorem flat_con (n : Nat) (hn : n ≤ 10) (k : Int) : Con Tryz.prog 30 [.i n, .i k] [] (Is (av (flatT n k)) []) := by
  have hcap : capB = 140737488355328 := rfl
  refine con_intro Tryz.func30 rfl Tryz.call30 rfl ?_
  refine zS ?_
  refine aops_alloc rfl zRc rfl rfl (fun b4 => ?_)
  refine zN (zS ?_); refine zMv ?_
  refine zP (ap_build zKr rfl zRc zFill) ?_
  refine aops_alloc rfl zRc rfl rfl (fun b5 => ?_)
  refine zSt ?_; refine zN ?_; refine awp_seq ?_; refine zS ?_; refine zAs ?_; refine zN ?_; refine awp_block ?_
  refine awp_loop3 [0, 4, 5] [.box b4 _ _] (fun (j : Nat) (v : Value) (q : List Int) r => (6, .i (j : Int)) :: r) (fun (j : Nat) (v : Value) (q : List Int) r => .box b5 27 [.i k, .v v, .nil] :: .arr v 3 1 (q.map .i) :: r) (fun (j : Nat) (v : Value) (q : List Int) => j ≤ n ∧ q = upTo j) (fun (j : Nat) (v : Value) (q : List Int) => n - j) (0) (.slice none 0 0) ([]) zRc ⟨by omega, rfl⟩ ((wk_own 3 1 rfl).trans (wk zSub zKeep)) ?_
  intro j v q ⟨hj, hI⟩
  have hql : q.length = j := by rw [hI, upTo_len]
  have hqm : (q.map D.i).length = q.length := by simp
  refine awp_seq ?_; refine zS ?_; refine zMv ?_; refine zMv ?_; refine zCm ?_; refine zN ?_
  refine zC (fun hc => ?_) fun hc => ?_
  · have hlt := of_decide_eq_true hc
    refine awp_skip ?_; refine seqQ_n ?_; refine awp_seq ?_; refine awp_block ?_; refine awp_region ?_; refine zF 1 1 false ?_; refine zL1 ?_; refine zMv ?_
    refine aops_lit (e := 3) (sz := 1) (by_ := 8) rfl rfl zRc rfl rfl rfl rfl ?_
    first | refine aops_append (e := 3) (sz := 1) (by_ := 8) rfl zUpd rfl rfl rfl rfl rfl zLen (fun v18 hv18 => ?_) | refine aops_append_nil (e := 3) (sz := 1) (by_ := 8) rfl rfl rfl rfl rfl rfl zLen (fun v18 hv18 => ?_)
    refine zF 1 1 false ?_; refine zSt ?_; refine aops_nil ?_; refine blockQ_n ?_; refine seqQ_n ?_; refine awp_region ?_; refine zMv ?_; refine zAr ?_; refine zAs ?_; refine zN ?_
    rw [mapi_snoc]
    refine ⟨j + 1, _, q ++ [(j : Int)], ⟨by omega, by rw [hI]; simp [upTo, List.range_succ]⟩, by omega, wk zSub zKeep⟩
  · have hge := of_decide_eq_false hc
    obtain rfl : j = n := by omega
    refine awp_exit ?_; refine seqQ_x ?_; refine seqQ_x ?_; refine blockQ_x rfl ?_; refine seqQ_n ?_; refine awp_seq ?_
    refine awp_freeze v [4,5] zRem zSelC zHeapA ?_
    refine awp_unnil [4,5] 3 rfl zSelC zHeapA ?_
    refine awp_region ?_; refine zLd ?_; refine zSt ?_; refine zN ?_; refine awp_ret ?_
    refine post_is (.cell rfl zUpd rfl rfl .nil) zKeep ?_
    rw [hI]; rfl
theorem rnew_con (node slot : Int) (hn : 0 ≤ node ∧ node ≤ 9) (hsl : 1 ≤ slot ∧ slot ≤ 1000000) (t : Trust) (hs : sizeT t ≤ 1000000000) (hv : validT t = 0) : Con Tryz.prog 21 [.i node, .i slot, av t] [] (Is (.tup [mcv (newM node slot t), .i 0]) []) := by
  have hcap : capB = 140737488355328 := rfl
  refine con_intro Tryz.func21 rfl Tryz.call21 rfl ?_
  refine zS ?_
  refine aops_box rfl zFlat rfl rfl (fun b5 => ?_)
  refine aops_alloc rfl zRc rfl rfl (fun b6 => ?_)
  refine zAs ?_; refine zN ?_; refine awp_seq ?_; refine awp_block ?_; refine zS ?_; refine zMv ?_; refine zCm ?_; refine zMv ?_
  all_goals first | (refine zY ?_; refine zMv ?_) | refine zU ?_ | refine zNf ?_ | (refine zGf (fun hg => ?_) fun hg => ?_; case' _ => refine zMv ?_)
  all_goals first | (refine zY ?_; refine zCm ?_) | refine zU ?_ | refine zNf ?_ | (refine zGf (fun hg => ?_) fun hg => ?_; case' _ => refine zCm ?_)
  all_goals refine zPk ?_
  all_goals refine zAs ?_
  all_goals (
    refine zN ?_
    refine awp_cond_f rfl zDec ?_
    refine zS ?_; refine zMv ?_; refine zCm ?_; refine zMv ?_
    all_goals first | (refine zY ?_; refine zMv ?_) | refine zU ?_ | refine zNf ?_ | (refine zGf (fun hg => ?_) fun hg => ?_; case' _ => refine zMv ?_)
    all_goals first | (refine zY ?_; refine zCm ?_) | refine zU ?_ | refine zNf ?_ | (refine zGf (fun hg => ?_) fun hg => ?_; case' _ => refine zCm ?_)
    all_goals refine zPk ?_
    all_goals refine zAs ?_
    all_goals (
      refine zN ?_
      refine awp_cond_f rfl zDec ?_
      refine zS ?_; refine zLd ?_
      refine aops_call_v zRc (rvalidT_con t hs) rfl rfl ?_
      refine zCm ?_; refine zAs ?_; refine zN ?_
      refine awp_cond_f rfl (by rw [hv]; rfl) ?_
      refine awp_skip ?_; refine blockQ_n ?_; refine seqQ_n ?_; refine zS ?_; refine zMv ?_; refine zMv ?_; refine zLd ?_
      refine zP (ap_build zKr rfl zRc zFill) ?_
      refine zSt ?_; refine zAs ?_; refine zN ?_
      refine awp_unnil [6,7] 15 rfl zSelS (by apply HeapA.box (CvL.cons Cv.same (CvL.cons Cv.same (CvL.cons Cv.same (CvL.cons Cv.same (CvL.cons Cv.same (CvL.cons Cv.same (CvL.cons Cv.same (CvL.cons Cv.same (CvL.cons Cv.same (CvL.cons Cv.same (CvL.cons Cv.same (CvL.cons Cv.same (CvL.cons Cv.same (CvL.cons Cv.same (CvL.cons Cv.same (CvL.cons Cv.same (CvL.cons Cv.same (CvL.cons Cv.same (CvL.cons Cv.fz CvL.nil))))))))))))))))))); repeat (first | exact HeapA.nil | apply HeapA.box (by repeat (first | exact CvL.nil | apply CvL.cons Cv.same)) | apply HeapA.arr)) ?_
      refine awp_ret ?_
      refine post_is (.cell rfl zUpd rfl rfl (.tmp rfl .nil)) zKeep rfl
      )
    )
theorem wait_con (k : Int) : Con Tryz.prog 12 [.i k] [] (Is (.i (waitV k)) []) := by
  have hcap : capB = 140737488355328 := rfl
  refine con_intro Tryz.func12 rfl Tryz.call12 rfl ?_
  refine zS ?_; refine zAs ?_; refine zN (zS ?_); refine zMv ?_
  refine zP (ap_min rfl rfl) ?_
  refine zP (ap_max rfl rfl) ?_
  refine zAr ?_; refine zAs ?_; refine zN ?_; refine awp_ret ?_
  refine post_is (.tmp rfl .nil) zKeep rfl
theorem tvalid_con (t : Tm) : Con Tryz.prog 17 [tmv t] [] (Is (.b (vTm t)) []) := by
  have hcap : capB = 140737488355328 := rfl
  refine con_intro Tryz.func17 rfl Tryz.call17 rfl ?_
  refine zS ?_
  refine aops_box rfl zFlat rfl rfl (fun b1 => ?_)
  refine zAs ?_; refine zN (zS ?_); refine zF 0 1 false ?_; refine zL1 ?_; refine zCm ?_; refine zMv ?_
  all_goals first | (refine zY ?_; refine zF 0 1 false ?_) | refine zU ?_ | refine zNt ?_ | (refine zGt (fun hg => ?_) fun hg => ?_; case' _ => refine zF 0 1 false ?_)
  all_goals first | (refine zY ?_; refine zL1 ?_) | refine zU ?_ | refine zNt ?_ | (refine zGt (fun hg => ?_) fun hg => ?_; case' _ => refine zL1 ?_)
  all_goals first | (refine zY ?_; refine zCm ?_) | refine zU ?_ | refine zNt ?_ | (refine zGt (fun hg => ?_) fun hg => ?_; case' _ => refine zCm ?_)
  all_goals refine zPk ?_
  all_goals refine zMv ?_
  all_goals first | (refine zY ?_; refine zF 1 1 false ?_) | refine zU ?_ | refine zNt ?_ | (refine zGt (fun hg => ?_) fun hg => ?_; case' _ => refine zF 1 1 false ?_)
  all_goals first | (refine zY ?_; refine zL1 ?_) | refine zU ?_ | refine zNt ?_ | (refine zGt (fun hg => ?_) fun hg => ?_; case' _ => refine zL1 ?_)
  all_goals first | (refine zY ?_; refine zCm ?_) | refine zU ?_ | refine zNt ?_ | (refine zGt (fun hg => ?_) fun hg => ?_; case' _ => refine zCm ?_)
  all_goals refine zPk ?_
  all_goals refine zMv ?_
  all_goals first | (refine zY ?_; refine zF 1 1 false ?_) | refine zU ?_ | refine zNt ?_ | (refine zGt (fun hg => ?_) fun hg => ?_; case' _ => refine zF 1 1 false ?_)
  all_goals first | (refine zY ?_; refine zL1 ?_) | refine zU ?_ | refine zNt ?_ | (refine zGt (fun hg => ?_) fun hg => ?_; case' _ => refine zL1 ?_)
  all_goals first | (refine zY ?_; refine zCm ?_) | refine zU ?_ | refine zNt ?_ | (refine zGt (fun hg => ?_) fun hg => ?_; case' _ => refine zCm ?_)
  all_goals refine zPk ?_
  all_goals refine zAs ?_
  all_goals (
    refine zN ?_; refine awp_ret ?_
    refine post_is (.tmp rfl .nil) zKeep (bcl ?_)
    first | rfl | (simp only [vTm]; simp [*]; done) | grind [vTm]
    )
theorem wait_bd (k : Int) : 1 ≤ waitV k ∧ waitV k ≤ 12 := by unfold waitV; omega
theorem step_1 {t : Tm} {m : Mach} {now : Int} (h : stepBad t now = true) : stepV t m now = (⟨0, -1⟩, false) := by unfold stepV; rw [if_pos h]
theorem step_2 {t : Tm} {m : Mach} {now : Int} (h : stepBad t now = false) (h2 : togM m = false) : stepV t m now = (⟨m.bal.n, -1⟩, false) := by unfold stepV; rw [if_neg (by rw [h]; decide), if_pos h2]
theorem step_3 {t : Tm} {m : Mach} {now : Int} (h : stepBad t now = false) (h2 : togM m = true) (h3 : stepNew t m = true) : stepV t m now = (⟨m.bal.n, now + waitV m.bal.n⟩, false) := by unfold stepV; rw [if_neg (by rw [h]; decide), if_neg (by rw [h2]; decide), if_pos h3]
theorem step_4 {t : Tm} {m : Mach} {now : Int} (h : stepBad t now = false) (h2 : togM m = true) (h3 : stepNew t m = false) (h4 : t.due ≤ now) : stepV t m now = (⟨m.bal.n, -1⟩, true) := by unfold stepV; rw [if_neg (by rw [h]; decide), if_neg (by rw [h2]; decide), if_neg (by rw [h3]; decide), if_pos h4]
theorem step_5 {t : Tm} {m : Mach} {now : Int} (h : stepBad t now = false) (h2 : togM m = true) (h3 : stepNew t m = false) (h4 : ¬ t.due ≤ now) : stepV t m now = (t, false) := by unfold stepV; rw [if_neg (by rw [h]; decide), if_neg (by rw [h2]; decide), if_neg (by rw [h3]; decide), if_neg h4]
set_option maxHeartbeats 1000000 in
theorem tstep_con (t : Tm) (m : Mach) (now : Int) (hlen : m.heard.length ≤ 900000) (hs : sizeT m.t ≤ 200000) (hh : ∀ e ∈ m.heard, sizeT e.t ≤ 200000) : Con Tryz.prog 19 [tmv t, mcv m, .i now] [] (Is (.tup [tmv (stepV t m now).1, .b (stepV t m now).2]) []) := by
  have hcap : capB = 140737488355328 := rfl
  have hw := wait_bd m.bal.n
  refine con_intro Tryz.func19 rfl Tryz.call19 rfl ?_
  refine zS ?_
  refine aops_box rfl zFlat rfl rfl (fun b3 => ?_)
  refine aops_box rfl zFlat rfl rfl (fun b4 => ?_)
  refine aops_alloc rfl zRc rfl rfl (fun b6 => ?_)
  refine zAs ?_; refine zN (zS ?_); refine zF 7 2 true ?_; refine zF 0 1 false ?_; refine zL1 ?_; refine zAs ?_; refine zN ?_; refine awp_seq ?_; refine awp_block ?_; refine zS ?_; refine zLd ?_
  refine aops_call_v zRc (tvalid_con t) rfl rfl ?_
  refine zNo ?_; refine zMv ?_
  all_goals first | (refine zY ?_; refine zMv ?_) | refine zU ?_ | refine zNf ?_ | (refine zGf (fun hg => ?_) fun hg => ?_; case' _ => refine zMv ?_)
  all_goals first | (refine zY ?_; refine zCm ?_) | refine zU ?_ | refine zNf ?_ | (refine zGf (fun hg => ?_) fun hg => ?_; case' _ => refine zCm ?_)
  all_goals refine zPk ?_
  all_goals refine zMv ?_
  all_goals first | (refine zY ?_; refine zMv ?_) | refine zU ?_ | refine zNf ?_ | (refine zGf (fun hg => ?_) fun hg => ?_; case' _ => refine zMv ?_)
  all_goals first | (refine zY ?_; refine zCm ?_) | refine zU ?_ | refine zNf ?_ | (refine zGf (fun hg => ?_) fun hg => ?_; case' _ => refine zCm ?_)
  all_goals refine zPk ?_
  all_goals refine zAs ?_
  all_goals (
    refine zN ?_
    refine zC (fun hc => ?_) fun hc => ?_
    · first
      | (exact absurd hc (by decide))
      | (have hbad : stepBad t now = true := by first | (simp only [stepBad]; simp [*]; done) | grind [stepBad]
         refine zS ?_
         refine zP (ap_build zKr rfl zRc zFill) ?_
         refine zSt ?_; refine zAs ?_; refine zN ?_; refine awp_ret ?_; refine blockQ_r ?_; refine seqQ_r ?_
         refine post_is (.cell rfl zUpd rfl rfl (.tmp rfl .nil)) zKeep ?_
         first | (rw [step_1 hbad]; rfl) | (rw [step_2 hbad htg]; rfl) | (rw [step_3 hbad htg hnew]; rfl) | (rw [step_4 hbad htg hnew hdue]; rfl) | (rw [step_5 hbad htg hnew hdue]; rfl)
        )
    · first
      | (exact absurd hc (by decide))
      | (have hbad : stepBad t now = false := by first | (simp only [stepBad]; simp [*]; done) | grind [stepBad]
         have hnow : 0 ≤ now ∧ now ≤ 200 := by simp only [stepBad, Bool.or_eq_false_iff, decide_eq_false_iff_not] at hbad; omega
         refine zS ?_; refine zLd ?_
         refine aops_call_v zRc (tog_con m hlen hs hh) rfl rfl ?_
         refine zNo ?_; refine zAs ?_; refine zN ?_
         refine zC (fun hc => ?_) fun hc => ?_
         · have htg : togM m = false := not_t hc
           refine zS ?_; refine zMv ?_
           refine zP (ap_build zKr rfl zRc zFill) ?_
           refine zSt ?_; refine zAs ?_; refine zN ?_; refine awp_ret ?_; refine blockQ_r ?_; refine seqQ_r ?_
           refine post_is (.cell rfl zUpd rfl rfl (.tmp rfl .nil)) zKeep ?_
           first | (rw [step_1 hbad]; rfl) | (rw [step_2 hbad htg]; rfl) | (rw [step_3 hbad htg hnew]; rfl) | (rw [step_4 hbad htg hnew hdue]; rfl) | (rw [step_5 hbad htg hnew hdue]; rfl)
         · have htg : togM m = true := not_f hc
           refine zS ?_; refine zF 1 1 false ?_; refine zL1 ?_; refine zCm ?_; refine zMv ?_
           all_goals first | (refine zY ?_; refine zF 0 1 false ?_) | refine zU ?_ | refine zNf ?_ | (refine zGf (fun hg => ?_) fun hg => ?_; case' _ => refine zF 0 1 false ?_)
           all_goals first | (refine zY ?_; refine zL1 ?_) | refine zU ?_ | refine zNf ?_ | (refine zGf (fun hg => ?_) fun hg => ?_; case' _ => refine zL1 ?_)
           all_goals first | (refine zY ?_; refine zMv ?_) | refine zU ?_ | refine zNf ?_ | (refine zGf (fun hg => ?_) fun hg => ?_; case' _ => refine zMv ?_)
           all_goals first | (refine zY ?_; refine zCm ?_) | refine zU ?_ | refine zNf ?_ | (refine zGf (fun hg => ?_) fun hg => ?_; case' _ => refine zCm ?_)
           all_goals refine zPk ?_
           all_goals refine zAs ?_
           all_goals (
             refine zN ?_
             refine zC (fun hc => ?_) fun hc => ?_
             · first
               | (exact absurd hc (by decide))
               | (have hnew : stepNew t m = true := by first | (simp only [stepNew]; simp [*]; done) | grind [stepNew]
                  refine zS ?_; refine zMv ?_; refine zMv ?_; refine zMv ?_
                  refine aops_call_v zRc (wait_con m.bal.n) rfl rfl ?_
                  refine zAr ?_
                  refine zP (ap_build zKr rfl zRc zFill) ?_
                  refine zSt ?_; refine zAs ?_; refine zN ?_; refine awp_ret ?_; refine blockQ_r ?_; refine seqQ_r ?_
                  refine post_is (.cell rfl zUpd rfl rfl (.tmp rfl .nil)) zKeep ?_
                  first | (rw [step_1 hbad]; rfl) | (rw [step_2 hbad htg]; rfl) | (rw [step_3 hbad htg hnew]; rfl) | (rw [step_4 hbad htg hnew hdue]; rfl) | (rw [step_5 hbad htg hnew hdue]; rfl)
                 )
             · first
               | (exact absurd hc (by decide))
               | (have hnew : stepNew t m = false := by first | (simp only [stepNew]; simp [*]; done) | grind [stepNew]
                  refine zS ?_; refine zMv ?_; refine zF 1 1 false ?_; refine zL1 ?_; refine zCm ?_; refine zAs ?_; refine zN ?_
                  refine zC (fun hc => ?_) fun hc => ?_
                  · have hdue : t.due ≤ now := of_decide_eq_true hc
                    refine zS ?_; refine zMv ?_
                    refine zP (ap_build zKr rfl zRc zFill) ?_
                    refine zSt ?_; refine zAs ?_; refine zN ?_; refine awp_ret ?_; refine blockQ_r ?_; refine seqQ_r ?_
                    refine post_is (.cell rfl zUpd rfl rfl (.tmp rfl .nil)) zKeep ?_
                    first | (rw [step_1 hbad]; rfl) | (rw [step_2 hbad htg]; rfl) | (rw [step_3 hbad htg hnew]; rfl) | (rw [step_4 hbad htg hnew hdue]; rfl) | (rw [step_5 hbad htg hnew hdue]; rfl)
                  · have hdue : ¬ t.due ≤ now := of_decide_eq_false hc
                    refine awp_skip ?_; refine blockQ_n ?_; refine seqQ_n ?_; refine zS ?_; refine zLd ?_; refine zSt ?_; refine zAs ?_; refine zN ?_; refine awp_ret ?_
                    refine post_is (.cell rfl zUpd rfl rfl (.tmp rfl .nil)) zKeep ?_
                    first | (rw [step_1 hbad]; rfl) | (rw [step_2 hbad htg]; rfl) | (rw [step_3 hbad htg hnew]; rfl) | (rw [step_4 hbad htg hnew hdue]; rfl) | (rw [step_5 hbad htg hnew hdue]; rfl)
                 )
             )
        )
    )
theorem flat_v11 : validT (flatT 1 1) = 0 := by kernel_rfl
theorem flat_s11 : sizeT (flatT 1 1) ≤ 1000000000 := by decide
theorem alone_con : Con Tryz.prog 14 [] [] (Is (mcv aloneM) []) := by
  have hcap : capB = 140737488355328 := rfl
  refine con_intro Tryz.func14 rfl Tryz.call14 rfl ?_
  refine zS ?_
  refine aops_alloc rfl zRc rfl rfl (fun b0 => ?_)
  refine zN (zS ?_)
  refine aops_call_v zRc (flat_con 1 (by omega) 1) rfl rfl ?_
  refine aops_call_v zRc (rnew_con 0 1 (by omega) (by omega) (flatT 1 1) flat_s11 flat_v11) rfl rfl ?_
  refine zMv ?_
  refine zP (ap_extract rfl rfl) ?_
  refine zP (ap_extract rfl rfl) ?_
  refine aops_alloc rfl zRc rfl rfl (fun b1 => ?_)
  refine zSt ?_; refine zAs ?_; refine zN (zS ?_)
  refine zP (ap_build zKr rfl zRc zFill) ?_
  refine zF 7 2 true ?_; refine zSt ?_; refine zF 2 1 false ?_; refine zSt ?_; refine zN (zS ?_); refine zLd ?_; refine zSt ?_; refine zN ?_; refine awp_ret ?_
  refine post_is (.cell rfl zUpd rfl rfl .nil) zKeep rfl
theorem sane_a : Con Tryz.prog 19 [tmv ⟨0, -1⟩, mcv aloneM, .i 5] [] (Is (.tup [tmv ⟨1, 7⟩, .b false]) []) := by
  have h := tstep_con ⟨0, -1⟩ aloneM 5 (by decide) (by decide) (fun e he => absurd he List.not_mem_nil)
  rwa [show stepV ⟨0, -1⟩ aloneM 5 = (⟨1, 7⟩, false) from by kernel_rfl] at h
theorem sane_b : Con Tryz.prog 19 [tmv ⟨1, 7⟩, mcv aloneM, .i 6] [] (Is (.tup [tmv ⟨1, 7⟩, .b false]) []) := by
  have h := tstep_con ⟨1, 7⟩ aloneM 6 (by decide) (by decide) (fun e he => absurd he List.not_mem_nil)
  rwa [show stepV ⟨1, 7⟩ aloneM 6 = (⟨1, 7⟩, false) from by kernel_rfl] at h
theorem sane_c : Con Tryz.prog 19 [tmv ⟨1, 7⟩, mcv aloneM, .i 7] [] (Is (.tup [tmv ⟨1, -1⟩, .b true]) []) := by
  have h := tstep_con ⟨1, 7⟩ aloneM 7 (by decide) (by decide) (fun e he => absurd he List.not_mem_nil)
  rwa [show stepV ⟨1, 7⟩ aloneM 7 = (⟨1, -1⟩, true) from by kernel_rfl] at h
theorem sane28_con : Con Tryz.prog 7 [] [] (Is (.b true) []) := by
  have hcap : capB = 140737488355328 := rfl
  refine con_intro Tryz.func7 rfl Tryz.call7 rfl ?_
  refine zS ?_; refine zAs ?_; refine zN (zS ?_)
  refine zP (ap_build zKr rfl zRc zFill) ?_
  refine aops_call_v zRc (alone_con) rfl rfl ?_
  refine aops_call_v zRc (sane_a) rfl rfl ?_
  refine zMv ?_
  refine zP (ap_extract rfl rfl) ?_
  refine zP (ap_extract rfl rfl) ?_
  refine aops_alloc rfl zRc rfl rfl (fun b1 => ?_)
  refine zSt ?_; refine zAs ?_; refine zN ?_; refine awp_seq ?_
  refine awp_draw (Hm := []) zKr zSplit ?_
  refine zTM 0 ?_
  refine aany_each2 1 6 zKr rfl (.none rfl) ?_ rfl (.none rfl) ?_
  rotate_left
  case' _ =>
    refine aops_alloc rfl zRc rfl rfl (fun b3 => ?_)
    refine aops_nil ?_
    refine aany_one 1 zKr rfl (.none rfl) ?_
    refine aops_call_v zRc (alone_con) rfl rfl ?_
    refine aops_nil ?_
    refine aany_one 2 zKr rfl (.none rfl) ?_
    refine aops_call_v zRc (sane_b) rfl rfl ?_
    refine aops_nil ?_
    refine zT 3 rfl (AP.ar (ap_move rfl)) ?_
    refine zT 4 rfl (AP.ar (ap_extract rfl rfl)) ?_
    refine zT 5 rfl (AP.ar (ap_extract rfl rfl)) ?_
    refine aany_one 7 zKr rfl (.none rfl) ?_
    refine zSt ?_; refine aops_nil ?_
    refine zT 8 rfl (AP.ar (ap_assign rfl)) ?_
    refine aany_nil zKr ?_
  rotate_right
  case' _ =>
    refine aops_call_v zRc (alone_con) rfl rfl ?_
    refine aops_nil ?_
    refine aany_each2 2 6 zKr rfl (.none rfl) ?_ rfl (.none rfl) ?_
    rotate_left
    case' _ =>
      refine aops_alloc rfl zRc rfl rfl (fun b3 => ?_)
      refine aops_nil ?_
      refine aany_one 2 zKr rfl (.none rfl) ?_
      refine aops_call_v zRc (sane_b) rfl rfl ?_
      refine aops_nil ?_
      refine zT 3 rfl (AP.ar (ap_move rfl)) ?_
      refine zT 4 rfl (AP.ar (ap_extract rfl rfl)) ?_
      refine zT 5 rfl (AP.ar (ap_extract rfl rfl)) ?_
      refine aany_one 7 zKr rfl (.none rfl) ?_
      refine zSt ?_; refine aops_nil ?_
      refine zT 8 rfl (AP.ar (ap_assign rfl)) ?_
      refine aany_nil zKr ?_
    rotate_right
    case' _ =>
      refine aops_call_v zRc (sane_b) rfl rfl ?_
      refine aops_nil ?_
      refine zT 3 rfl (AP.ar (ap_move rfl)) ?_
      refine zT 4 rfl (AP.ar (ap_extract rfl rfl)) ?_
      refine zT 5 rfl (AP.ar (ap_extract rfl rfl)) ?_
      refine aany_one 6 zKr rfl (.none rfl) ?_
      refine aops_alloc rfl zRc rfl rfl (fun b3 => ?_)
      refine aops_nil ?_
      refine aany_one 7 zKr rfl (.none rfl) ?_
      refine zSt ?_; refine aops_nil ?_
      refine zT 8 rfl (AP.ar (ap_assign rfl)) ?_
      refine aany_nil zKr ?_
  all_goals (
    refine seqQ_n ?_; refine awp_seq ?_
    refine awp_draw (Hm := []) zKr zSplit ?_
    refine zTM 0 ?_
    refine aany_each2 1 6 zKr rfl (.none rfl) ?_ rfl (.none rfl) ?_
    rotate_left
    case' _ =>
      refine aops_alloc rfl zRc rfl rfl (fun b5 => ?_)
      refine aops_nil ?_
      refine aany_one 1 zKr rfl (.none rfl) ?_
      refine aops_call_v zRc (alone_con) rfl rfl ?_
      refine aops_nil ?_
      refine aany_one 2 zKr rfl (.none rfl) ?_
      refine aops_call_v zRc (sane_c) rfl rfl ?_
      refine aops_nil ?_
      refine zT 3 rfl (AP.ar (ap_move rfl)) ?_
      refine zT 4 rfl (AP.ar (ap_extract rfl rfl)) ?_
      refine zT 5 rfl (AP.ar (ap_extract rfl rfl)) ?_
      refine aany_one 7 zKr rfl (.none rfl) ?_
      refine zSt ?_; refine aops_nil ?_
      refine zT 8 rfl (AP.ar (ap_assign rfl)) ?_
      refine aany_nil zKr ?_
    rotate_right
    case' _ =>
      refine aops_call_v zRc (alone_con) rfl rfl ?_
      refine aops_nil ?_
      refine aany_each2 2 6 zKr rfl (.none rfl) ?_ rfl (.none rfl) ?_
      rotate_left
      case' _ =>
        refine aops_alloc rfl zRc rfl rfl (fun b5 => ?_)
        refine aops_nil ?_
        refine aany_one 2 zKr rfl (.none rfl) ?_
        refine aops_call_v zRc (sane_c) rfl rfl ?_
        refine aops_nil ?_
        refine zT 3 rfl (AP.ar (ap_move rfl)) ?_
        refine zT 4 rfl (AP.ar (ap_extract rfl rfl)) ?_
        refine zT 5 rfl (AP.ar (ap_extract rfl rfl)) ?_
        refine aany_one 7 zKr rfl (.none rfl) ?_
        refine zSt ?_; refine aops_nil ?_
        refine zT 8 rfl (AP.ar (ap_assign rfl)) ?_
        refine aany_nil zKr ?_
      rotate_right
      case' _ =>
        refine aops_call_v zRc (sane_c) rfl rfl ?_
        refine aops_nil ?_
        refine zT 3 rfl (AP.ar (ap_move rfl)) ?_
        refine zT 4 rfl (AP.ar (ap_extract rfl rfl)) ?_
        refine zT 5 rfl (AP.ar (ap_extract rfl rfl)) ?_
        refine aany_one 6 zKr rfl (.none rfl) ?_
        refine aops_alloc rfl zRc rfl rfl (fun b5 => ?_)
        refine aops_nil ?_
        refine aany_one 7 zKr rfl (.none rfl) ?_
        refine zSt ?_; refine aops_nil ?_
        refine zT 8 rfl (AP.ar (ap_assign rfl)) ?_
        refine aany_nil zKr ?_
    all_goals (
      refine seqQ_n ?_; refine zS ?_; refine zMv ?_; refine zNo ?_; refine zMv ?_
      all_goals first | (refine zY ?_; refine zMv ?_) | refine zU ?_ | refine zNt ?_ | (refine zGt (fun hg => ?_) fun hg => ?_; case' _ => refine zMv ?_)
      all_goals first | (refine zY ?_; refine zNo ?_) | refine zU ?_ | refine zNt ?_ | (refine zGt (fun hg => ?_) fun hg => ?_; case' _ => refine zNo ?_)
      all_goals refine zPk ?_
      all_goals refine zMv ?_
      all_goals first | (refine zY ?_; refine zMv ?_) | refine zU ?_ | refine zNt ?_ | (refine zGt (fun hg => ?_) fun hg => ?_; case' _ => refine zMv ?_)
      all_goals refine zPk ?_
      all_goals refine zMv ?_
      all_goals first | (refine zY ?_; refine zLd ?_) | refine zU ?_ | refine zNt ?_ | (refine zGt (fun hg => ?_) fun hg => ?_; case' _ => refine zLd ?_)
      all_goals first | (refine zY ?_; refine zP (ap_build zKr rfl zRc zFill) ?_) | refine zU ?_ | refine zNt ?_ | (refine zGt (fun hg => ?_) fun hg => ?_; case' _ => refine zP (ap_build zKr rfl zRc zFill) ?_)
      all_goals first | (refine zY ?_; refine zP (ap_eq2 rfl rfl eq2_24) ?_) | refine zU ?_ | refine zNt ?_ | (refine zGt (fun hg => ?_) fun hg => ?_; case' _ => refine zP (ap_eq2 rfl rfl eq2_24) ?_)
      all_goals refine zPk ?_
      all_goals refine zMv ?_
      all_goals first | (refine zY ?_; refine zLd ?_) | refine zU ?_ | refine zNt ?_ | (refine zGt (fun hg => ?_) fun hg => ?_; case' _ => refine zLd ?_)
      all_goals first | (refine zY ?_; refine zLd ?_) | refine zU ?_ | refine zNt ?_ | (refine zGt (fun hg => ?_) fun hg => ?_; case' _ => refine zLd ?_)
      all_goals first | (refine zY ?_; refine zP (ap_eq2 rfl rfl eq2_24) ?_) | refine zU ?_ | refine zNt ?_ | (refine zGt (fun hg => ?_) fun hg => ?_; case' _ => refine zP (ap_eq2 rfl rfl eq2_24) ?_)
      all_goals refine zPk ?_
      all_goals refine zMv ?_
      all_goals first | (refine zY ?_; refine zF 1 1 false ?_) | refine zU ?_ | refine zNt ?_ | (refine zGt (fun hg => ?_) fun hg => ?_; case' _ => refine zF 1 1 false ?_)
      all_goals first | (refine zY ?_; refine zL1 ?_) | refine zU ?_ | refine zNt ?_ | (refine zGt (fun hg => ?_) fun hg => ?_; case' _ => refine zL1 ?_)
      all_goals first | (refine zY ?_; refine zCm ?_) | refine zU ?_ | refine zNt ?_ | (refine zGt (fun hg => ?_) fun hg => ?_; case' _ => refine zCm ?_)
      all_goals refine zPk ?_
      all_goals refine zMv ?_
      all_goals first | (refine zY ?_; refine aops_call_v zRc (wait_con 1) rfl rfl ?_) | refine zU ?_ | refine zNt ?_ | (refine zGt (fun hg => ?_) fun hg => ?_; case' _ => refine aops_call_v zRc (wait_con 1) rfl rfl ?_)
      all_goals first | (refine zY ?_; refine zCm ?_) | refine zU ?_ | refine zNt ?_ | (refine zGt (fun hg => ?_) fun hg => ?_; case' _ => refine zCm ?_)
      all_goals refine zPk ?_
      all_goals refine zAs ?_
      all_goals (
        refine zN ?_; refine awp_ret ?_
        refine post_is (.tmp rfl .nil) zKeep (bcl ?_)
        first | rfl | simp [waitV] | decide
        )
      )
    )
theorem rz_con (b : Bal) : Con Tryz.prog 46 [bv b] [] (Is (.b (zB b)) []) := by
  have hcap : capB = 140737488355328 := rfl
  refine con_intro Tryz.func46 rfl Tryz.call46 rfl ?_
  refine zS ?_
  refine aops_box rfl zFlat rfl rfl (fun b1 => ?_)
  refine zAs ?_; refine zN (zS ?_); refine zLd ?_
  refine zP (ap_build zKr rfl zRc zFill) ?_
  refine zP (ap_eqs rfl rfl eq2_29) ?_
  refine zAs ?_; refine zN ?_; refine awp_ret ?_
  refine post_is (.tmp rfl .nil) zKeep rfl
theorem rval_con (b : Bal) : Con Tryz.prog 68 [bv b] [] (Is (.b (vB b)) []) := by
  have hcap : capB = 140737488355328 := rfl
  refine con_intro Tryz.func68 rfl Tryz.call68 rfl ?_
  refine zS ?_
  refine aops_box rfl zFlat rfl rfl (fun b1 => ?_)
  refine zAs ?_; refine zN (zS ?_); refine zF 0 1 false ?_; refine zL1 ?_; refine zCm ?_; refine zMv ?_
  all_goals first | (refine zY ?_; refine zF 0 1 false ?_) | refine zU ?_ | refine zNt ?_ | (refine zGt (fun hg => ?_) fun hg => ?_; case' _ => refine zF 0 1 false ?_)
  all_goals first | (refine zY ?_; refine zL1 ?_) | refine zU ?_ | refine zNt ?_ | (refine zGt (fun hg => ?_) fun hg => ?_; case' _ => refine zL1 ?_)
  all_goals first | (refine zY ?_; refine zCm ?_) | refine zU ?_ | refine zNt ?_ | (refine zGt (fun hg => ?_) fun hg => ?_; case' _ => refine zCm ?_)
  all_goals refine zPk ?_
  all_goals refine zMv ?_
  all_goals first | (refine zY ?_; refine zF 0 1 false ?_) | refine zU ?_ | refine zNf ?_ | (refine zGf (fun hg => ?_) fun hg => ?_; case' _ => refine zF 0 1 false ?_)
  all_goals first | (refine zY ?_; refine zL1 ?_) | refine zU ?_ | refine zNf ?_ | (refine zGf (fun hg => ?_) fun hg => ?_; case' _ => refine zL1 ?_)
  all_goals first | (refine zY ?_; refine zCm ?_) | refine zU ?_ | refine zNf ?_ | (refine zGf (fun hg => ?_) fun hg => ?_; case' _ => refine zCm ?_)
  all_goals refine zPk ?_
  all_goals refine zMv ?_
  all_goals first | (refine zY ?_; refine zF 1 1 false ?_) | refine zU ?_ | refine zNt ?_ | (refine zGt (fun hg => ?_) fun hg => ?_; case' _ => refine zF 1 1 false ?_)
  all_goals first | (refine zY ?_; refine zL1 ?_) | refine zU ?_ | refine zNt ?_ | (refine zGt (fun hg => ?_) fun hg => ?_; case' _ => refine zL1 ?_)
  all_goals first | (refine zY ?_; refine zP (ap_len_str rfl rfl) ?_) | refine zU ?_ | refine zNt ?_ | (refine zGt (fun hg => ?_) fun hg => ?_; case' _ => refine zP (ap_len_str rfl rfl) ?_)
  all_goals first | (refine zY ?_; refine zCm ?_) | refine zU ?_ | refine zNt ?_ | (refine zGt (fun hg => ?_) fun hg => ?_; case' _ => refine zCm ?_)
  all_goals refine zPk ?_
  all_goals refine zMv ?_
  all_goals first | (refine zY ?_; refine zF 1 1 false ?_) | refine zU ?_ | refine zNt ?_ | (refine zGt (fun hg => ?_) fun hg => ?_; case' _ => refine zF 1 1 false ?_)
  all_goals first | (refine zY ?_; refine zL1 ?_) | refine zU ?_ | refine zNt ?_ | (refine zGt (fun hg => ?_) fun hg => ?_; case' _ => refine zL1 ?_)
  all_goals first | (refine zY ?_; refine zP (ap_len_str rfl rfl) ?_) | refine zU ?_ | refine zNt ?_ | (refine zGt (fun hg => ?_) fun hg => ?_; case' _ => refine zP (ap_len_str rfl rfl) ?_)
  all_goals first | (refine zY ?_; refine zCm ?_) | refine zU ?_ | refine zNt ?_ | (refine zGt (fun hg => ?_) fun hg => ?_; case' _ => refine zCm ?_)
  all_goals refine zPk ?_
  all_goals refine zAs ?_
  all_goals (
    refine zN ?_; refine awp_ret ?_
    refine post_is (.tmp rfl .nil) zKeep (bcl ?_)
    first | rfl | (simp only [vB]; simp [*]; done) | grind [vB]
    )
theorem rcp_con (a b : Bal) : Con Tryz.prog 70 [bv a, bv b] [] (Is (.b (cB a b)) []) := by
  have hcap : capB = 140737488355328 := rfl
  refine con_intro Tryz.func70 rfl Tryz.call70 rfl ?_
  refine zS ?_
  refine aops_box rfl zFlat rfl rfl (fun b2 => ?_)
  refine aops_box rfl zFlat rfl rfl (fun b3 => ?_)
  refine zAs ?_; refine zN (zS ?_); refine zF 1 1 false ?_; refine zL1 ?_; refine zF 1 1 false ?_; refine zL1 ?_
  refine zP (ap_scmp rfl rfl rfl) ?_
  refine zAs ?_; refine zN ?_; refine awp_ret ?_
  refine post_is (.tmp rfl .nil) zKeep rfl
theorem rlv_con (a b : Str) : Con Tryz.prog 99 [.v (.string a), .v (.string b)] [] (Is (.b (decide (cV a b < 0))) []) := by
  have hcap : capB = 140737488355328 := rfl
  refine con_intro Tryz.func99 rfl Tryz.call99 rfl ?_
  refine zS ?_; refine zAs ?_; refine zN ?_; refine awp_seq ?_; refine zS ?_; refine zMv ?_
  refine zP (ap_len_str rfl rfl) ?_
  refine zMv ?_
  refine zP (ap_len_str rfl rfl) ?_
  refine zCm ?_; refine zN ?_
  refine zC (fun hc => ?_) fun hc => ?_
  · have h1 := of_neq_true hc
    refine zS ?_; refine zMv ?_
    refine zP (ap_len_str rfl rfl) ?_
    refine zMv ?_
    refine zP (ap_len_str rfl rfl) ?_
    refine zCm ?_; refine zAs ?_; refine zN ?_; refine awp_ret ?_; refine seqQ_r ?_
    refine post_is (.tmp rfl .nil) zKeep (bcl ?_)
    rw [lvS_eq, if_neg (by omega)]
  · have h1 := of_neq_false hc
    refine awp_skip ?_; refine seqQ_n ?_; refine zS ?_; refine zMv ?_; refine zMv ?_
    refine zP (ap_scmp rfl rfl rfl) ?_
    refine zAs ?_; refine zN ?_; refine awp_ret ?_
    refine post_is (.tmp rfl .nil) zKeep (bcl ?_)
    rw [lvS_eq, if_pos (by omega)]; rfl
theorem rl_con (a b : Bal) : Con Tryz.prog 74 [bv a, bv b] [] (Is (.b (lB a b)) []) := by
  have hcap : capB = 140737488355328 := rfl
  refine con_intro Tryz.func74 rfl Tryz.call74 rfl ?_
  refine zS ?_
  refine aops_box rfl zFlat rfl rfl (fun b2 => ?_)
  refine aops_box rfl zFlat rfl rfl (fun b3 => ?_)
  refine zAs ?_; refine zN ?_; refine awp_seq ?_; refine zS ?_; refine zF 0 1 false ?_; refine zL1 ?_; refine zF 0 1 false ?_; refine zL1 ?_; refine zCm ?_; refine zN ?_
  refine zC (fun hc => ?_) fun hc => ?_
  · have h1 := of_neq_true hc
    refine zS ?_; refine zF 0 1 false ?_; refine zL1 ?_; refine zF 0 1 false ?_; refine zL1 ?_; refine zCm ?_; refine zAs ?_; refine zN ?_; refine awp_ret ?_; refine seqQ_r ?_
    refine post_is (.tmp rfl .nil) zKeep (bcl ?_)
    rw [lB_eq, if_neg h1]
  · have h1 := of_neq_false hc
    refine awp_skip ?_; refine seqQ_n ?_; refine zS ?_; refine zF 1 1 false ?_; refine zL1 ?_; refine zF 1 1 false ?_; refine zL1 ?_
    refine aops_call_v zRc (rlv_con a.v b.v) rfl rfl ?_
    refine zAs ?_; refine zN ?_; refine awp_ret ?_
    refine post_is (.tmp rfl .nil) zKeep (bcl ?_)
    rw [lB_eq, if_pos h1]
theorem rcov_con (p b : Bal) : Con Tryz.prog 91 [bv p, bv b] [] (Is (.b (covB p b)) []) := by
  have hcap : capB = 140737488355328 := rfl
  refine con_intro Tryz.func91 rfl Tryz.call91 rfl ?_
  refine zS ?_
  refine aops_box rfl zFlat rfl rfl (fun b2 => ?_)
  refine aops_box rfl zFlat rfl rfl (fun b3 => ?_)
  refine zAs ?_; refine zN (zS ?_); refine zLd ?_
  refine aops_call_v zRc (rz_con p) rfl rfl ?_
  refine zNo ?_; refine zMv ?_
  all_goals first | (refine zY ?_; refine zLd ?_) | refine zU ?_ | refine zNt ?_ | (refine zGt (fun hg => ?_) fun hg => ?_; case' _ => refine zLd ?_)
  all_goals first | (refine zY ?_; refine zLd ?_) | refine zU ?_ | refine zNt ?_ | (refine zGt (fun hg => ?_) fun hg => ?_; case' _ => refine zLd ?_)
  all_goals first | (refine zY ?_; refine aops_call_v zRc (rcp_con p b) rfl rfl ?_) | refine zU ?_ | refine zNt ?_ | (refine zGt (fun hg => ?_) fun hg => ?_; case' _ => refine aops_call_v zRc (rcp_con p b) rfl rfl ?_)
  all_goals refine zPk ?_
  all_goals refine zMv ?_
  all_goals first | (refine zY ?_; refine zF 0 1 false ?_) | refine zU ?_ | refine zNt ?_ | (refine zGt (fun hg => ?_) fun hg => ?_; case' _ => refine zF 0 1 false ?_)
  all_goals first | (refine zY ?_; refine zL1 ?_) | refine zU ?_ | refine zNt ?_ | (refine zGt (fun hg => ?_) fun hg => ?_; case' _ => refine zL1 ?_)
  all_goals first | (refine zY ?_; refine zF 0 1 false ?_) | refine zU ?_ | refine zNt ?_ | (refine zGt (fun hg => ?_) fun hg => ?_; case' _ => refine zF 0 1 false ?_)
  all_goals first | (refine zY ?_; refine zL1 ?_) | refine zU ?_ | refine zNt ?_ | (refine zGt (fun hg => ?_) fun hg => ?_; case' _ => refine zL1 ?_)
  all_goals first | (refine zY ?_; refine zCm ?_) | refine zU ?_ | refine zNt ?_ | (refine zGt (fun hg => ?_) fun hg => ?_; case' _ => refine zCm ?_)
  all_goals refine zPk ?_
  all_goals refine zAs ?_
  all_goals (
    refine zN ?_; refine awp_ret ?_
    refine post_is (.tmp rfl .nil) zKeep (bcl ?_)
    first | rfl | (simp only [covB]; simp [*]; done) | grind [covB]
    )
theorem rab_con (p b : Bal) : Con Tryz.prog 75 [bv p, bv b] [] (Is (.b (abB p b)) []) := by
  have hcap : capB = 140737488355328 := rfl
  refine con_intro Tryz.func75 rfl Tryz.call75 rfl ?_
  refine zS ?_
  refine aops_box rfl zFlat rfl rfl (fun b2 => ?_)
  refine aops_box rfl zFlat rfl rfl (fun b3 => ?_)
  refine zAs ?_; refine zN (zS ?_); refine zLd ?_
  refine aops_call_v zRc (rz_con p) rfl rfl ?_
  refine zNo ?_; refine zMv ?_
  all_goals first | (refine zY ?_; refine zLd ?_) | refine zU ?_ | refine zNt ?_ | (refine zGt (fun hg => ?_) fun hg => ?_; case' _ => refine zLd ?_)
  all_goals first | (refine zY ?_; refine zLd ?_) | refine zU ?_ | refine zNt ?_ | (refine zGt (fun hg => ?_) fun hg => ?_; case' _ => refine zLd ?_)
  all_goals first | (refine zY ?_; refine aops_call_v zRc (rcp_con p b) rfl rfl ?_) | refine zU ?_ | refine zNt ?_ | (refine zGt (fun hg => ?_) fun hg => ?_; case' _ => refine aops_call_v zRc (rcp_con p b) rfl rfl ?_)
  all_goals first | (refine zY ?_; refine zNo ?_) | refine zU ?_ | refine zNt ?_ | (refine zGt (fun hg => ?_) fun hg => ?_; case' _ => refine zNo ?_)
  all_goals refine zPk ?_
  all_goals refine zMv ?_
  all_goals first | (refine zY ?_; refine zLd ?_) | refine zU ?_ | refine zNt ?_ | (refine zGt (fun hg => ?_) fun hg => ?_; case' _ => refine zLd ?_)
  all_goals first | (refine zY ?_; refine zLd ?_) | refine zU ?_ | refine zNt ?_ | (refine zGt (fun hg => ?_) fun hg => ?_; case' _ => refine zLd ?_)
  all_goals first | (refine zY ?_; refine aops_call_v zRc (rl_con b p) rfl rfl ?_) | refine zU ?_ | refine zNt ?_ | (refine zGt (fun hg => ?_) fun hg => ?_; case' _ => refine aops_call_v zRc (rl_con b p) rfl rfl ?_)
  all_goals refine zPk ?_
  all_goals refine zAs ?_
  all_goals (
    refine zN ?_; refine awp_ret ?_
    refine post_is (.tmp rfl .nil) zKeep (bcl ?_)
    first | rfl | (simp only [abB]; simp [*]; done) | grind [abB]
    )
theorem rpr_con (p q b : Bal) : Con Tryz.prog 69 [bv p, bv q, bv b] [] (Is (.b (prB p q b)) []) := by
  have hcap : capB = 140737488355328 := rfl
  refine con_intro Tryz.func69 rfl Tryz.call69 rfl ?_
  refine zS ?_
  refine aops_box rfl zFlat rfl rfl (fun b3 => ?_)
  refine aops_box rfl zFlat rfl rfl (fun b4 => ?_)
  refine aops_box rfl zFlat rfl rfl (fun b5 => ?_)
  refine zAs ?_; refine zN (zS ?_); refine zLd ?_; refine zLd ?_
  refine aops_call_v zRc (rcov_con p b) rfl rfl ?_
  refine zMv ?_
  all_goals first | (refine zY ?_; refine zLd ?_) | refine zU ?_ | refine zNf ?_ | (refine zGf (fun hg => ?_) fun hg => ?_; case' _ => refine zLd ?_)
  all_goals first | (refine zY ?_; refine zLd ?_) | refine zU ?_ | refine zNf ?_ | (refine zGf (fun hg => ?_) fun hg => ?_; case' _ => refine zLd ?_)
  all_goals first | (refine zY ?_; refine aops_call_v zRc (rcov_con q b) rfl rfl ?_) | refine zU ?_ | refine zNf ?_ | (refine zGf (fun hg => ?_) fun hg => ?_; case' _ => refine aops_call_v zRc (rcov_con q b) rfl rfl ?_)
  all_goals refine zPk ?_
  all_goals refine zMv ?_
  all_goals first | (refine zY ?_; refine zLd ?_) | refine zU ?_ | refine zNf ?_ | (refine zGf (fun hg => ?_) fun hg => ?_; case' _ => refine zLd ?_)
  all_goals first | (refine zY ?_; refine aops_call_v zRc (rz_con q) rfl rfl ?_) | refine zU ?_ | refine zNf ?_ | (refine zGf (fun hg => ?_) fun hg => ?_; case' _ => refine aops_call_v zRc (rz_con q) rfl rfl ?_)
  all_goals first | (refine zY ?_; refine zNo ?_) | refine zU ?_ | refine zNf ?_ | (refine zGf (fun hg => ?_) fun hg => ?_; case' _ => refine zNo ?_)
  all_goals first | (refine zY ?_; refine zMv ?_) | refine zU ?_ | refine zNf ?_ | (refine zGf (fun hg => ?_) fun hg => ?_; case' _ => refine zMv ?_)
  all_goals first | (refine zY ?_; refine zLd ?_) | refine zU ?_ | refine zNt ?_ | (refine zGt (fun hg => ?_) fun hg => ?_; case' _ => refine zLd ?_)
  all_goals first | (refine zY ?_; refine zLd ?_) | refine zU ?_ | refine zNt ?_ | (refine zGt (fun hg => ?_) fun hg => ?_; case' _ => refine zLd ?_)
  all_goals first | (refine zY ?_; refine aops_call_v zRc (rl_con b q) rfl rfl ?_) | refine zU ?_ | refine zNt ?_ | (refine zGt (fun hg => ?_) fun hg => ?_; case' _ => refine aops_call_v zRc (rl_con b q) rfl rfl ?_)
  all_goals (first | (refine aops_yes rfl rfl rfl rfl zDec ?_; refine zPk ?_) | refine aops_no_u rfl rfl rfl ?_ | refine aops_no_f rfl rfl rfl rfl zDec ?_ | (refine aops_guard_f rfl rfl rfl rfl (fun hg => ?_) (fun hg => ?_); case' _ => refine zPk ?_))
  all_goals refine zPk ?_
  all_goals refine zAs ?_
  all_goals (
    refine zN ?_; refine awp_ret ?_
    refine post_is (.tmp rfl .nil) zKeep (bcl ?_)
    first | rfl | (simp only [prB]; simp [*]; done) | grind [prB]
    )
/-- What of the head of an envelope the reference looks at first. -/
def headR (e : Evp) : Bool := headE e && vB e.bal
theorem vE_headR {e : Evp} (h : headR e = false) : vE e = false := by
  unfold vE headR at *
  cases h1 : headE e with
  | false => rfl
  | true =>
    rw [h1, Bool.true_and] at h
    rw [Bool.true_and]
    unfold kindE prepE finB
    rw [h]
    simp
end Go.Proofs.YtegejdhkckndaaaGreat
