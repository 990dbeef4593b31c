/- Walks: each says what one function of the program answers, for the arguments that its statement names. No condition beyond what each theorem says. -/
import Derived.Test.YtmolbagfkdbdnaaGreatDoorTopSilentW7
import Derived.Test.YtmolbagfkdbdnaaGreatDoorProg
import Derived.KernelRfl
import Derived.Tactics
import Derived.Tactics2
import Derived.StillTactics
import Derived.Shelf.SlSortCmp.Whole1
import Derived.Shelf.SlSortCmp.NoneTotal
import Derived.Shelf.Strconv.Atoi
set_option linter.unusedVariables false
set_option linter.unusedSimpArgs false
set_option maxRecDepth 4000
set_option maxHeartbeats 2000000
namespace Go.Proofs.YtmolbagfkdbdnaaGreatDoor
open Go Go.Av Go.Tq
theorem askU_con (c : List Mem) (hC : Cfg c) (h5 : c.length ≤ 5) (x : Cl) (hx : validCl x = true) (m : Mt) (hI : MI c x m) (kd : Int) (hkd : 1 ≤ kd ∧ kd ≤ 4) (h2 : ¬ kd = 2) (k : Nat) (hk : k < c.length) (to : Int) (y : Cl) : Con Tryz.prog 51 [mtv m, plyD kd k to y] [] (Is (.i (if m.stopped.testBit k = true then 13 else 0)) []) := by
  have hcap : capB = 140737488355328 := rfl
  have hvl : (m.vs.map vtv).length = m.vs.length := by simp
  have hcl := hI.len
  have hl10 := hC.len
  have h10 := pow_le10 hC.len.2
  have hst := hI.st
  have hpw : 2 ^ (m.vs.map vtv).length = 2 ^ c.length := by rw [hvl, hcl]
  have hvc : (m.vs.map vtv).length = c.length := by rw [hvl, hcl]
  have hvc2 : (((m.vs.map vtv).length : Nat) : Int) = ((c.length : Nat) : Int) := by rw [hvc]
  have hk5 : (false != decide (kd = 5)) = false := by rw [decide_eq_false (by omega)]; rfl
  refine con_intro Tryz.func51 rfl Tryz.call51 rfl ?_
  refine zW ?_; refine zW ?_
  refine zBx fun b2 => ?_
  refine zBx fun b3 => ?_
  iterate 7 refine zW ?_
  refine aops_call_v zRc (avalid_con c hC h5 x hx m hI) rfl rfl ?_
  refine zW ?_; refine zW ?_
  iterate 19 all_goals first | refine zW ?_ | (refine zG (fun hg => ?_) fun hg => ?_; case' _ => refine zW ?_)
  all_goals first | (refine zY ?_; (first | refine zLn fun _ => ?_ | refine zW ?_)) | refine zSk ?_ | (refine zG (fun hg => ?_) fun hg => ?_; case' _ => (first | refine zLn fun _ => ?_ | refine zW ?_))
  iterate 2 all_goals first | refine zW ?_ | (refine zG (fun hg => ?_) fun hg => ?_; case' _ => refine zW ?_)
  all_goals (
    refine zW ?_; refine zW ?_
    refine awp_cond_f rfl zDec ?_
    iterate 7 refine zW ?_
    refine aops_call_v zRc (tgf_con kd h2 (by omega)) rfl rfl ?_
    refine zW ?_
    iterate 8 all_goals first | refine zW ?_ | (refine zG (fun hg => ?_) fun hg => ?_; case' _ => refine zW ?_)
    all_goals first | (refine zY ?_; (first | refine zLn fun _ => ?_ | refine zW ?_)) | refine zSk ?_ | (refine zG (fun hg => ?_) fun hg => ?_; case' _ => (first | refine zLn fun _ => ?_ | refine zW ?_))
    iterate 10 all_goals first | refine zW ?_ | (refine zG (fun hg => ?_) fun hg => ?_; case' _ => refine zW ?_)
    all_goals (
      refine zW ?_; refine zW ?_
      refine awp_cond_f rfl zDec ?_
      iterate 3 refine zW ?_
      refine zDr [] ?_
      refine zT 0 ?_
      refine zT 1 ?_
      refine zT 2 ?_
      refine zT 3 ?_
      refine zT 5 ?_
      refine zT 6 ?_
      refine zT 7 ?_
      refine zT 8 ?_
      refine zOn 4 ?_
      refine aops_call_v zRc (has0_con (k := k) (by omega)) rfl rfl ?_
      refine zW ?_
      refine zOn 9 ?_
      refine aops_call_b zRc (hasn_con (s := m.stopped) (k := k) (by omega) (by omega)) rfl rfl fun c65 hc65 => ?_
      refine zW ?_
      refine zT 10 ?_
      refine zT 11 ?_
      refine zW ?_
      all_goals (
        iterate 6 refine zW ?_
        refine aops_call_v zRc (tgf_con kd h2 (by omega)) rfl rfl ?_
        refine zW ?_; refine zW ?_
        refine awp_cond_f rfl zDec ?_
        iterate 11 refine zW ?_
        iterate 2 all_goals first | refine zW ?_ | (refine zG (fun hg => ?_) fun hg => ?_; case' _ => refine zW ?_)
        all_goals (
          refine zW ?_; refine zW ?_
          refine zC (fun hc => ?_) fun hc => ?_
          · first
            | (exact absurd hc (by decide))
            | (iterate 7 refine zW ?_
               refine zPi ?_
               rw [if_pos (hc65.trans hc)]; rfl
              )
          · first
            | (exact absurd hc (by decide))
            | (iterate 8 refine zW ?_
               refine zPi ?_
               rw [if_neg (by rw [hc65.trans hc]; decide)]; rfl
              )
          )
        )
      )
    )
theorem askS_con (c : List Mem) (hC : Cfg c) (h5 : c.length ≤ 5) (x : Cl) (hx : validCl x = true) (m : Mt) (hI : MI c x m) (i j : Nat) (hi : i < c.length) (hj : j < c.length) (y : Cl) : Con Tryz.prog 51 [mtv m, plyD 2 i j y] [] (Is (.i (if i = j then 1 else if m.stopped.testBit j = true then 13 else 0)) []) := by
  have hcap : capB = 140737488355328 := rfl
  have hvl : (m.vs.map vtv).length = m.vs.length := by simp
  have hcl := hI.len
  have hl10 := hC.len
  have h10 := pow_le10 hC.len.2
  have hst := hI.st
  have hpw : 2 ^ (m.vs.map vtv).length = 2 ^ c.length := by rw [hvl, hcl]
  have hvc : (m.vs.map vtv).length = c.length := by rw [hvl, hcl]
  have hvc2 : (((m.vs.map vtv).length : Nat) : Int) = ((c.length : Nat) : Int) := by rw [hvc]
  refine con_intro Tryz.func51 rfl Tryz.call51 rfl ?_
  refine zW ?_; refine zW ?_
  refine zBx fun b2 => ?_
  refine zBx fun b3 => ?_
  iterate 7 refine zW ?_
  refine aops_call_v zRc (avalid_con c hC h5 x hx m hI) rfl rfl ?_
  refine zW ?_; refine zW ?_
  iterate 19 all_goals first | refine zW ?_ | (refine zG (fun hg => ?_) fun hg => ?_; case' _ => refine zW ?_)
  all_goals first | (refine zY ?_; (first | refine zLn fun _ => ?_ | refine zW ?_)) | refine zSk ?_ | (refine zG (fun hg => ?_) fun hg => ?_; case' _ => (first | refine zLn fun _ => ?_ | refine zW ?_))
  iterate 2 all_goals first | refine zW ?_ | (refine zG (fun hg => ?_) fun hg => ?_; case' _ => refine zW ?_)
  all_goals (
    refine zW ?_; refine zW ?_
    refine awp_cond_f rfl zDec ?_
    iterate 7 refine zW ?_
    refine aops_call_v zRc (tgt_con) rfl rfl ?_
    refine zW ?_
    iterate 8 all_goals first | refine zW ?_ | (refine zG (fun hg => ?_) fun hg => ?_; case' _ => refine zW ?_)
    all_goals first | (refine zY ?_; (first | refine zLn fun _ => ?_ | refine zW ?_)) | refine zSk ?_ | (refine zG (fun hg => ?_) fun hg => ?_; case' _ => (first | refine zLn fun _ => ?_ | refine zW ?_))
    iterate 10 all_goals first | refine zW ?_ | (refine zG (fun hg => ?_) fun hg => ?_; case' _ => refine zW ?_)
    all_goals (
      refine zW ?_; refine zW ?_
      refine zC (fun hc => ?_) fun hc => ?_
      · first
        | (exact absurd hc (by decide))
        | (have he := of_decide_eq_true hc
           iterate 7 refine zW ?_
           refine zPi ?_
           rw [if_pos (by omega)]; rfl
          )
      · first
        | (exact absurd hc (by decide))
        | (have he := of_decide_eq_false hc
           iterate 3 refine zW ?_
           refine zDr [] ?_
           refine zT 0 ?_
           refine zT 1 ?_
           refine zT 2 ?_
           refine zT 3 ?_
           refine zT 5 ?_
           refine zT 6 ?_
           refine zT 7 ?_
           refine zT 8 ?_
           refine zOn 4 ?_
           refine aops_call_v zRc (has0_con (k := i) (by omega)) rfl rfl ?_
           refine zW ?_
           refine zOn 9 ?_
           refine aops_call_b zRc (hasn_con (s := m.stopped) (k := i) (by omega) (by omega)) rfl rfl fun c65 hc65 => ?_
           refine zW ?_
           refine zT 10 ?_
           refine zT 11 ?_
           refine zW ?_
           all_goals (
             iterate 6 refine zW ?_
             refine aops_call_v zRc (tgt_con) rfl rfl ?_
             refine zW ?_; refine zW ?_
             refine awp_cond_t rfl zDec ?_
             iterate 5 refine zW ?_
             refine aops_p (ap_bits (p := 0) rfl rfl rfl (by omega) (by omega)) rfl rfl rfl ?_
             refine zW ?_; refine zW ?_
             refine aops_call_b zRc (hasor_con (s := m.stopped) (k := j) (by omega) (by omega)) rfl rfl fun c76 hc76 => ?_
             iterate 12 refine zW ?_
             iterate 2 all_goals first | refine zW ?_ | (refine zG (fun hg => ?_) fun hg => ?_; case' _ => refine zW ?_)
             all_goals (
               refine zW ?_; refine zW ?_
               refine zC (fun hc => ?_) fun hc => ?_
               · first
                 | (exact absurd hc (by decide))
                 | (iterate 7 refine zW ?_
                    refine zPi ?_
                    rw [if_neg (by omega), if_pos (hc76.trans hc)]; rfl
                   )
               · first
                 | (exact absurd hc (by decide))
                 | (iterate 8 refine zW ?_
                    refine zPi ?_
                    rw [if_neg (by omega), if_neg (by rw [hc76.trans hc]; decide)]; rfl
                   )
               )
             )
          )
      )
    )
theorem mi_plain {c : List Mem} {x : Cl} {m : Mt} {k : Nat} {v : Vt} (hC : Cfg c) (hx : validCl x = true) (h : MI c x m) (hv : m.vs[k]? = some v) : plainM (sayM v) = true := by
  have hk : k < c.length := by rw [← h.len]; exact (List.getElem?_eq_some_iff.1 hv).1
  exact VI.plain hC hx hk (h.vi k v hv) (sayM v) (by unfold lM; exact List.mem_append_right _ (List.mem_singleton.2 rfl))
def sendD (x : Cl) (j : Nat) (b a : Vt) : D := if oldR b.hs (sayM a) = true then .tup [.i j, vtv zVt, .i 9] else .tup [.i j, vtv (turn x b { b with hs := putR b.hs (sayM a) }), .i 0]
theorem chV_con (c : List Mem) (hC : Cfg c) (h5 : c.length ≤ 5) (x : Cl) (hx : validCl x = true) (m : Mt) (hI : MI c x m) (k : Nat) (v : Vt) (hv : m.vs[k]? = some v) : Con Tryz.prog 52 [mtv m, plyD 1 k 0 x] [] (Is (.tup [.i k, vtv (voteM x v), .i 0]) []) := by
  have hcap : capB = 140737488355328 := rfl
  have hk' := getMap vtv hv
  refine con_intro Tryz.func52 rfl Tryz.call52 rfl ?_
  refine zW ?_; refine zW ?_
  refine zBx fun b2 => ?_
  refine zBx fun b3 => ?_
  refine zW ?_
  refine zAl fun b5 => ?_
  iterate 11 refine zW ?_
  refine zAl fun b7 => ?_
  iterate 17 refine zW ?_
  refine awp_cond_t rfl zDec ?_
  iterate 5 refine zW ?_
  refine aops_call_v zRc (vote_con x v (mi_vg hC hx h5 hI hv).1) rfl rfl ?_
  iterate 3 refine zW ?_
  refine zAl fun b8 => ?_
  iterate 5 refine zW ?_
  refine zDr [.box b5 _ _] ?_
  refine zT 0 ?_
  refine zT 1 ?_
  refine zT 2 ?_
  refine zT 3 ?_
  refine zT 4 ?_
  refine zOn 5 ?_
  refine zW ?_; refine zW ?_
  refine zT 6 ?_
  refine zW ?_
  all_goals (
    iterate 4 refine zW ?_
    refine zPi ?_
    rfl
    )
theorem chT_con (c : List Mem) (hC : Cfg c) (h5 : c.length ≤ 5) (x : Cl) (hx : validCl x = true) (m : Mt) (hI : MI c x m) (k : Nat) (v : Vt) (hv : m.vs[k]? = some v) : Con Tryz.prog 52 [mtv m, plyD 4 k 0 ⟨0, 0⟩] [] (Is (.tup [.i k, vtv v, .i 0]) []) := by
  have hcap : capB = 140737488355328 := rfl
  have hk' := getMap vtv hv
  refine con_intro Tryz.func52 rfl Tryz.call52 rfl ?_
  refine zW ?_; refine zW ?_
  refine zBx fun b2 => ?_
  refine zBx fun b3 => ?_
  refine zW ?_
  refine zAl fun b5 => ?_
  iterate 11 refine zW ?_
  refine zAl fun b7 => ?_
  iterate 17 refine zW ?_
  refine awp_cond_f rfl zDec ?_
  iterate 6 refine zW ?_
  refine awp_cond_f rfl zDec ?_
  iterate 6 refine zW ?_
  refine awp_cond_f rfl zDec ?_
  iterate 6 refine zW ?_
  refine awp_cond_f rfl zDec ?_
  iterate 4 refine zW ?_
  refine zDr [.box b5 _ _] ?_
  refine zT 0 ?_
  refine zT 1 ?_
  refine zT 2 ?_
  refine zT 3 ?_
  refine zOn 4 ?_
  refine zW ?_; refine zW ?_
  refine zT 5 ?_
  refine zW ?_
  all_goals (
    refine zW ?_; refine zW ?_
    refine zPi ?_
    rfl
    )
theorem chS_con (c : List Mem) (hC : Cfg c) (h5 : c.length ≤ 5) (x : Cl) (hx : validCl x = true) (m : Mt) (hI : MI c x m) (i j : Nat) (hij : i ≠ j) (a b : Vt) (ha : m.vs[i]? = some a) (hb : m.vs[j]? = some b) (hf : Fits b.hs (i : Int)) : Con Tryz.prog 52 [mtv m, plyD 2 i j ⟨0, 0⟩] [] (Is (sendD x j b a) []) := by
  have hcap : capB = 140737488355328 := rfl
  have ha' := getMap vtv ha
  have hb' := getMap vtv hb
  have hva := (mi_vg hC hx h5 hI ha).1
  have hvb := mi_vg hC hx h5 hI hb
  have hna := (hI.vi i a ha).node
  have hnb := (hI.vi j b hb).node
  have hf2 : Fits b.hs (sayM a).node := by show Fits b.hs a.node; rw [hna]; exact hf
  have hH := hear_con x b hvb.1 (sayM a) (mi_plain hC hx hI ha) (by show ¬ a.node = b.node; omega) (by have := hva.nh.sz.t; exact this) ⟨hva.nh.ov, hva.nh.oa⟩ hf2 hvb.2
  refine con_intro Tryz.func52 rfl Tryz.call52 rfl ?_
  refine zW ?_; refine zW ?_
  refine zBx fun b2 => ?_
  refine zBx fun b3 => ?_
  refine zW ?_
  refine zAl fun b5 => ?_
  iterate 11 refine zW ?_
  refine zAl fun b7 => ?_
  iterate 17 refine zW ?_
  refine awp_cond_f rfl zDec ?_
  iterate 6 refine zW ?_
  refine awp_cond_t rfl zDec ?_
  refine zW ?_
  cases hol : oldR b.hs (sayM a)
  case' true => rw [hearD_t hol] at hH
  case' false => rw [hearD_f hol] at hH
  all_goals (
    refine zDr [] ?_
    refine zT 0 ?_
    refine zT 1 ?_
    refine zT 2 ?_
    refine zT 3 ?_
    refine zT 4 ?_
    refine zT 5 ?_
    refine zT 6 ?_
    refine zE2 7 12 ?_ ?_
    rotate_left
    case' _ =>
      refine zAl fun b10 => ?_
      refine zW ?_
      refine zOn 7 ?_
      refine aops_call_v zRc (vSay_con a hva.nh.sz) rfl rfl ?_
      refine zW ?_
      refine zOn 8 ?_
      refine aops_call_v zRc (hH) rfl rfl ?_
      refine zW ?_
      refine zT 9 ?_
      refine zT 10 ?_
      refine zT 11 ?_
      refine zOn 13 ?_
      refine zW ?_; refine zW ?_
      refine zT 14 ?_
      refine zW ?_
    rotate_right
    case' _ =>
      refine aops_call_v zRc (vSay_con a hva.nh.sz) rfl rfl ?_
      refine zW ?_
      refine zE2 8 12 ?_ ?_
      rotate_left
      case' _ =>
        refine zAl fun b10 => ?_
        refine zW ?_
        refine zOn 8 ?_
        refine aops_call_v zRc (hH) rfl rfl ?_
        refine zW ?_
        refine zT 9 ?_
        refine zT 10 ?_
        refine zT 11 ?_
        refine zOn 13 ?_
        refine zW ?_; refine zW ?_
        refine zT 14 ?_
        refine zW ?_
      rotate_right
      case' _ =>
        refine aops_call_v zRc (hH) rfl rfl ?_
        refine zW ?_
        refine zT 9 ?_
        refine zT 10 ?_
        refine zT 11 ?_
        refine zOn 12 ?_
        refine zAl fun b10 => ?_
        refine zW ?_
        refine zOn 13 ?_
        refine zW ?_; refine zW ?_
        refine zT 14 ?_
        refine zW ?_
    all_goals (
      refine zW ?_; refine zW ?_
      refine zDr [.box b5 _ _] ?_
      refine zT 0 ?_
      refine zT 1 ?_
      refine zT 2 ?_
      refine zT 3 ?_
      refine zT 4 ?_
      refine zOn 5 ?_
      refine zW ?_; refine zW ?_
      refine zT 6 ?_
      refine zW ?_
      all_goals (
        iterate 4 refine zW ?_
        refine zPi ?_
        unfold sendD
        rw [hol]
        rfl
        )
      )
    )
theorem stepV_con (c : List Mem) (hC : Cfg c) (h5 : c.length ≤ 5) (x : Cl) (hx : validCl x = true) (m : Mt) (hI : MI c x m) (k : Nat) (v : Vt) (hv : m.vs[k]? = some v) : Con Tryz.prog 23 [mtv m, plyD 1 k 0 x] [] (Is (if m.stopped.testBit k = true then .tup [mtv zMt, .i 13] else .tup [mtv { m with vs := m.vs.set k (voteM x v) }, .i 0]) []) := by
  have hcap : capB = 140737488355328 := rfl
  have hcl := hI.len
  have hl10 := hC.len
  have hk' := getMap vtv hv
  refine con_intro Tryz.func23 rfl Tryz.call23 rfl ?_
  refine zW ?_; refine zW ?_
  refine zBx fun b2 => ?_
  refine zBx fun b3 => ?_
  refine zAl fun b4 => ?_
  iterate 5 refine zW ?_
  have hA := askU_con c hC h5 x hx m hI 1 (by decide) (by decide) k (by rw [← hI.len]; exact (List.getElem?_eq_some_iff.1 hv).1) 0 x
  cases hst2 : m.stopped.testBit k
  case' true => rw [hst2, if_pos rfl] at hA
  case' false => rw [hst2, if_neg (by decide)] at hA
  all_goals (
    iterate 3 refine zW ?_
    refine aops_call_v zRc (hA) rfl rfl ?_
    iterate 9 refine zW ?_
    refine zC (fun hc => ?_) fun hc => ?_
    · first
      | (exact absurd hc (by decide))
      | (refine zW ?_; refine zW ?_
         refine aops_p (AP.up (ap_build zKr rfl zRc zFill) (d' := mtv zMt) (Up.agg (by repeat (first | exact UpL.nil | apply UpL.cons (by first | exact Up.same | exact Up.int | exact Up.nil))))) rfl rfl rfl ?_
         iterate 7 refine zW ?_
         refine zPi ?_
         first | (rw [if_pos rfl]; rfl) | (rw [if_neg Bool.false_ne_true]; rfl)
        )
    · first
      | (exact absurd hc (by decide))
      | (iterate 6 refine zW ?_
         refine aops_call_v zRc (chV_con c hC h5 x hx m hI k v hv) rfl rfl ?_
         iterate 4 refine zW ?_
         refine zAl fun b8 => ?_
         iterate 12 refine zW ?_
         refine awp_cond_f rfl zDec ?_
         iterate 6 refine zW ?_
         (refine aops_call zRc (clvO_con m.vs (by omega)) zSplit rfl rfl ?_; rintro _ _ ⟨v30, rfl, rfl⟩)
         refine zW ?_
         (refine aops_arr_one (v := v30) zUpd rfl (fun hv30 => ?_); refine zW ?_)
         iterate 3 refine zW ?_
         have hpl : k < m.vs.length := (List.getElem?_eq_some_iff.1 hv).1
         refine awp_arr_openc zUpd (by intro e; rw [e] at hk'; cases hk') (fun g cap hcp hv3 => ?_)
         subst hv3
         iterate 6 refine zW ?_
         refine aops_store_ownF (off := 0) rfl rfl zFlat zUpd rfl hk' zRc ?_
         iterate 10 refine zW ?_
         refine awp_cond_f rfl zDec ?_
         iterate 3 refine zW ?_
         rw [show D.agg [.i (voteM x v).node, .i (voteM x v).seq, .i (voteM x v).t.th, .sl 1 ((voteM x v).t.nodes.map .i), .sl 3 (avs (voteM x v).t.inner), .sl 2 ((voteM x v).votes.map clv), .sl 2 ((voteM x v).acc.map clv), .sl 2 ((voteM x v).cf.map clv), .sl 7 ((voteM x v).hs.map msv)] = vtv (voteM x v) from rfl, ← List.map_set]
         refine awp_freeze (.slice (some ⟨g, 0, none⟩) (m.vs.map vtv).length cap) [2,4] zRem zSelC zHeapA ?_
         iterate 7 refine zW ?_
         refine zPi ?_
         first | (rw [if_pos rfl]; rfl) | (rw [if_neg Bool.false_ne_true]; rfl)
        )
    )
theorem stepT_con (c : List Mem) (hC : Cfg c) (h5 : c.length ≤ 5) (x : Cl) (hx : validCl x = true) (m : Mt) (hI : MI c x m) (k : Nat) (v : Vt) (hv : m.vs[k]? = some v) : Con Tryz.prog 23 [mtv m, plyD 4 k 0 ⟨0, 0⟩] [] (Is (if m.stopped.testBit k = true then .tup [mtv zMt, .i 13] else .tup [mtv ⟨m.vs.set k v, m.stopped ||| 1 * 2 ^ k⟩, .i 0]) []) := by
  have hcap : capB = 140737488355328 := rfl
  have hcl := hI.len
  have hl10 := hC.len
  have hk' := getMap vtv hv
  have h10 := pow_le10 hC.len.2
  have hst := hI.st
  have hkc : k < c.length := by rw [← hI.len]; exact (List.getElem?_eq_some_iff.1 hv).1
  have hkp : 2 ^ k < 1024 := pow_lt10 (by omega)
  refine con_intro Tryz.func23 rfl Tryz.call23 rfl ?_
  refine zW ?_; refine zW ?_
  refine zBx fun b2 => ?_
  refine zBx fun b3 => ?_
  refine zAl fun b4 => ?_
  iterate 5 refine zW ?_
  have hA := askU_con c hC h5 x hx m hI 4 (by decide) (by decide) k (by rw [← hI.len]; exact (List.getElem?_eq_some_iff.1 hv).1) 0 ⟨0, 0⟩
  cases hst2 : m.stopped.testBit k
  case' true => rw [hst2, if_pos rfl] at hA
  case' false => rw [hst2, if_neg (by decide)] at hA
  all_goals (
    iterate 3 refine zW ?_
    refine aops_call_v zRc (hA) rfl rfl ?_
    iterate 9 refine zW ?_
    refine zC (fun hc => ?_) fun hc => ?_
    · first
      | (exact absurd hc (by decide))
      | (refine zW ?_; refine zW ?_
         refine aops_p (AP.up (ap_build zKr rfl zRc zFill) (d' := mtv zMt) (Up.agg (by repeat (first | exact UpL.nil | apply UpL.cons (by first | exact Up.same | exact Up.int | exact Up.nil))))) rfl rfl rfl ?_
         iterate 7 refine zW ?_
         refine zPi ?_
         first | (rw [if_pos rfl]; rfl) | (rw [if_neg Bool.false_ne_true]; rfl)
        )
    · first
      | (exact absurd hc (by decide))
      | (iterate 6 refine zW ?_
         refine aops_call_v zRc (chT_con c hC h5 x hx m hI k v hv) rfl rfl ?_
         iterate 4 refine zW ?_
         refine zAl fun b8 => ?_
         iterate 12 refine zW ?_
         refine awp_cond_f rfl zDec ?_
         iterate 6 refine zW ?_
         (refine aops_call zRc (clvO_con m.vs (by omega)) zSplit rfl rfl ?_; rintro _ _ ⟨v30, rfl, rfl⟩)
         refine zW ?_
         (refine aops_arr_one (v := v30) zUpd rfl (fun hv30 => ?_); refine zW ?_)
         iterate 3 refine zW ?_
         have hpl : k < m.vs.length := (List.getElem?_eq_some_iff.1 hv).1
         refine awp_arr_openc zUpd (by intro e; rw [e] at hk'; cases hk') (fun g cap hcp hv3 => ?_)
         subst hv3
         iterate 6 refine zW ?_
         refine aops_store_ownF (off := 0) rfl rfl zFlat zUpd rfl hk' zRc ?_
         iterate 10 refine zW ?_
         refine awp_cond_t rfl zDec ?_
         refine zDr [.box b2 _ _] ?_
         refine zT 0 ?_
         refine zT 2 ?_
         refine zT 3 ?_
         refine aany_take 4 rfl zGd zKr zKr zKr (AP.ar (ap_shl (p := 1) rfl rfl rfl (by omega) (by omega))) rfl rfl ?_
         refine zOn 1 ?_
         refine zW ?_; refine zW ?_
         refine zT 5 ?_
         refine zT 6 ?_
         refine zOn 7 ?_
         iterate 3 refine zW ?_
         all_goals (
           refine zW ?_; refine zW ?_
           rw [show D.agg [.i (v).node, .i (v).seq, .i (v).t.th, .sl 1 ((v).t.nodes.map .i), .sl 3 (avs (v).t.inner), .sl 2 ((v).votes.map clv), .sl 2 ((v).acc.map clv), .sl 2 ((v).cf.map clv), .sl 7 ((v).hs.map msv)] = vtv (v) from rfl, ← List.map_set]
           refine awp_freeze (.slice (some ⟨g, 0, none⟩) (m.vs.map vtv).length cap) [2,4] zRem zSelC zHeapA ?_
           iterate 7 refine zW ?_
           refine zPi ?_
           first | (rw [if_pos rfl]; rfl) | (rw [if_neg Bool.false_ne_true]; rfl)
           )
        )
    )
theorem stepS_con (c : List Mem) (hC : Cfg c) (h5 : c.length ≤ 5) (x : Cl) (hx : validCl x = true) (m : Mt) (hI : MI c x m) (i j : Nat) (hi : i < c.length) (hj : j < c.length) (a b : Vt) (ha : m.vs[i]? = some a) (hb : m.vs[j]? = some b) (hf : i ≠ j → m.stopped.testBit j = false → Fits b.hs (i : Int)) : Con Tryz.prog 23 [mtv m, plyD 2 i j ⟨0, 0⟩] [] (Is (if i = j then .tup [mtv zMt, .i 1] else if m.stopped.testBit j = true then .tup [mtv zMt, .i 13] else if oldR b.hs (sayM a) = true then .tup [mtv zMt, .i 9] else .tup [mtv { m with vs := m.vs.set j (turn x b { b with hs := putR b.hs (sayM a) }) }, .i 0]) []) := by
  have hcap : capB = 140737488355328 := rfl
  have hcl := hI.len
  have hl10 := hC.len
  have hb' := getMap vtv hb
  refine con_intro Tryz.func23 rfl Tryz.call23 rfl ?_
  refine zW ?_; refine zW ?_
  refine zBx fun b2 => ?_
  refine zBx fun b3 => ?_
  refine zAl fun b4 => ?_
  iterate 5 refine zW ?_
  have hA := askS_con c hC h5 x hx m hI i j hi hj ⟨0, 0⟩
  by_cases hij : i = j
  case' pos => rw [if_pos hij] at hA ⊢
  case' neg => rw [if_neg hij] at hA ⊢; cases hst2 : m.stopped.testBit j
  case' true => rw [hst2, if_pos rfl] at hA
  case' false => rw [hst2, if_neg Bool.false_ne_true] at hA
  all_goals (
    iterate 3 refine zW ?_
    refine aops_call_v zRc (hA) rfl rfl ?_
    iterate 9 refine zW ?_
    refine zC (fun hc => ?_) fun hc => ?_
    · first
      | (exact absurd hc (by decide))
      | (refine zW ?_; refine zW ?_
         refine aops_p (AP.up (ap_build zKr rfl zRc zFill) (d' := mtv zMt) (Up.agg (by repeat (first | exact UpL.nil | apply UpL.cons (by first | exact Up.same | exact Up.int | exact Up.nil))))) rfl rfl rfl ?_
         iterate 7 refine zW ?_
         refine zPi ?_
         first | rfl | (rw [if_pos rfl]; rfl) | (rw [if_neg Bool.false_ne_true]; rfl) | (rw [if_neg Bool.false_ne_true, if_pos rfl]; rfl) | (rw [if_neg Bool.false_ne_true, if_neg Bool.false_ne_true]; rfl)
        )
    · first
      | (exact absurd hc (by decide))
      | (iterate 3 refine zW ?_
         have hS := chS_con c hC h5 x hx m hI i j hij a b ha hb (hf hij hst2)
         unfold sendD at hS
         cases hol : oldR b.hs (sayM a)
         case' true => rw [hol, if_pos rfl] at hS
         case' false => rw [hol, if_neg Bool.false_ne_true] at hS
         all_goals (
           iterate 3 refine zW ?_
           refine aops_call_v zRc (hS) rfl rfl ?_
           iterate 4 refine zW ?_
           refine zAl fun b8 => ?_
           iterate 12 refine zW ?_
           refine zC (fun hc => ?_) fun hc => ?_
           · first
             | (exact absurd hc (by decide))
             | (refine zW ?_; refine zW ?_
                refine aops_p (AP.up (ap_build zKr rfl zRc zFill) (d' := mtv zMt) (Up.agg (by repeat (first | exact UpL.nil | apply UpL.cons (by first | exact Up.same | exact Up.int | exact Up.nil))))) rfl rfl rfl ?_
                iterate 7 refine zW ?_
                refine zPi ?_
                first | rfl | (rw [if_pos rfl]; rfl) | (rw [if_neg Bool.false_ne_true]; rfl) | (rw [if_neg Bool.false_ne_true, if_pos rfl]; rfl) | (rw [if_neg Bool.false_ne_true, if_neg Bool.false_ne_true]; rfl)
               )
           · first
             | (exact absurd hc (by decide))
             | (iterate 6 refine zW ?_
                (refine aops_call zRc (clvO_con m.vs (by omega)) zSplit rfl rfl ?_; rintro _ _ ⟨v30, rfl, rfl⟩)
                refine zW ?_
                (refine aops_arr_one (v := v30) zUpd rfl (fun hv30 => ?_); refine zW ?_)
                iterate 3 refine zW ?_
                have hpl : j < m.vs.length := (List.getElem?_eq_some_iff.1 hb).1
                refine awp_arr_openc zUpd (by intro e; rw [e] at hb'; cases hb') (fun g cap hcp hv3 => ?_)
                subst hv3
                iterate 6 refine zW ?_
                refine aops_store_ownF (off := 0) rfl rfl zFlat zUpd rfl hb' zRc ?_
                iterate 10 refine zW ?_
                refine awp_cond_f rfl zDec ?_
                iterate 3 refine zW ?_
                rw [show D.agg [.i (turn x b { b with hs := putR b.hs (sayM a) }).node, .i (turn x b { b with hs := putR b.hs (sayM a) }).seq, .i (turn x b { b with hs := putR b.hs (sayM a) }).t.th, .sl 1 ((turn x b { b with hs := putR b.hs (sayM a) }).t.nodes.map .i), .sl 3 (avs (turn x b { b with hs := putR b.hs (sayM a) }).t.inner), .sl 2 ((turn x b { b with hs := putR b.hs (sayM a) }).votes.map clv), .sl 2 ((turn x b { b with hs := putR b.hs (sayM a) }).acc.map clv), .sl 2 ((turn x b { b with hs := putR b.hs (sayM a) }).cf.map clv), .sl 7 ((turn x b { b with hs := putR b.hs (sayM a) }).hs.map msv)] = vtv (turn x b { b with hs := putR b.hs (sayM a) }) from rfl, ← List.map_set]
                refine awp_freeze (.slice (some ⟨g, 0, none⟩) (m.vs.map vtv).length cap) [2,4] zRem zSelC zHeapA ?_
                iterate 7 refine zW ?_
                refine zPi ?_
                first | rfl | (rw [if_pos rfl]; rfl) | (rw [if_neg Bool.false_ne_true]; rfl) | (rw [if_neg Bool.false_ne_true, if_pos rfl]; rfl) | (rw [if_neg Bool.false_ne_true, if_neg Bool.false_ne_true]; rfl)
               )
           )
        )
    )
theorem afresh_con (m : Mt) (hm : m.vs.length ≤ 1000) (hz : ∀ v ∈ m.vs, VSz v) : Con Tryz.prog 24 [mtv m] [] (Is (mtv m) []) := by
  have hcap : capB = 140737488355328 := rfl
  have hml : (m.vs.map vtv).length = m.vs.length := by simp
  refine con_intro Tryz.func24 rfl Tryz.call24 rfl ?_
  refine zW ?_; refine zW ?_
  refine zBx fun b1 => ?_
  refine zAl fun b2 => ?_
  iterate 19 refine zW ?_
  first | refine zLn fun _ => ?_ | refine zW ?_
  iterate 4 refine zW ?_
  refine awp_loop3 [1, 2, 12, 13] [.box b2 _ _] (fun (k : Nat) (w : Value) (q : List Vt) r => (14, .i (k : Int)) :: r) (fun k w q r => .box b1 49 [.v w, .i m.stopped, .i 0] :: .arr w 57 9 (q.map vtv) :: r) (fun k w q => k ≤ m.vs.length ∧ q = m.vs.take k) (fun k w q => m.vs.length - k) (0) (.slice none 0 0) ([]) zRc ⟨by omega, by simp⟩ ((wk_own 57 9 rfl).trans (zWk)) ?_
  intro k w q ⟨hk, hI⟩
  have hql : q.length = k := by rw [hI]; simp; omega
  iterate 6 refine zW ?_
  refine zC (fun hc => ?_) fun hc => ?_
  · have hlt : k < m.vs.length := by have := of_decide_eq_true hc; omega
    obtain ⟨v, hv, hd⟩ := drop_cons hlt
    have hv' := getMap vtv hv
    have hvz := hz v (List.mem_of_getElem? hv)
    have hhl : (v.hs.map msv).length = v.hs.length := by simp
    have hhl2 := hvz.hl
    iterate 8 refine zW ?_
    refine zAl fun b5 => ?_
    iterate 4 refine zW ?_
    refine awp_draw2 (stB [13, 14, 15, 16, 17, 18, 19]) (by kernel_rfl) ?_
    first | refine aany2_pure 0 rfl (.none rfl) zKr zKr zKr (ap_fieldAddr (off := 2) (sz := 3) (g := true) rfl rfl) rfl rfl ?_ | refine aany2_pure 0 rfl (.none rfl) zKr zKr zKr (ap_fieldAddr_el (off := 2) (sz := 3) (g := true) rfl rfl zRc) rfl rfl ?_
    first | refine aany2_take 1 rfl (.none rfl) zKr zKr zKr zKr (stB_out zKr) (aq_load rfl zUpd List.not_mem_nil rfl rfl zRc) rfl rfl ?_ | refine aany2_take 1 rfl (.none rfl) zKr zKr zKr zKr (stB_out zKr) (aq_load_el rfl rfl rfl rfl (fun _ h => absurd h List.not_mem_nil)) rfl rfl ?_
    first | refine aany2_pure 3 rfl (.none rfl) zKr zKr zKr (ap_fieldAddr (off := 5) (sz := 1) (g := false) rfl rfl) rfl rfl ?_ | refine aany2_pure 3 rfl (.none rfl) zKr zKr zKr (ap_fieldAddr_el (off := 5) (sz := 1) (g := false) rfl rfl zRc) rfl rfl ?_
    first | refine aany2_take 4 rfl (.none rfl) zKr zKr zKr zKr (stB_out zKr) (aq_load1 rfl zUpd List.not_mem_nil rfl zRc) rfl rfl ?_ | refine aany2_take 4 rfl (.none rfl) zKr zKr zKr zKr (stB_out zKr) (aq_load_el1 rfl rfl zScal (fun _ h => absurd h List.not_mem_nil)) rfl rfl ?_ | refine aany2_take 4 rfl (.none rfl) zKr zKr zKr zKr (stB_out zKr) (aq_load_el1' rfl rfl zScal (fun _ h => absurd h List.not_mem_nil)) rfl rfl ?_ | refine aany2_take 4 rfl (.none rfl) zKr zKr zKr zKr (stB_out zKr) (aq_load_own1 rfl zUpd List.not_mem_nil rfl (by first | with_reducible assumption | assumption | rfl) zScal) rfl rfl ?_
    first | refine aany2_pure 6 rfl (.none rfl) zKr zKr zKr (ap_fieldAddr (off := 6) (sz := 1) (g := false) rfl rfl) rfl rfl ?_ | refine aany2_pure 6 rfl (.none rfl) zKr zKr zKr (ap_fieldAddr_el (off := 6) (sz := 1) (g := false) rfl rfl zRc) rfl rfl ?_
    first | refine aany2_take 7 rfl (.none rfl) zKr zKr zKr zKr (stB_out zKr) (aq_load1 rfl zUpd List.not_mem_nil rfl zRc) rfl rfl ?_ | refine aany2_take 7 rfl (.none rfl) zKr zKr zKr zKr (stB_out zKr) (aq_load_el1 rfl rfl zScal (fun _ h => absurd h List.not_mem_nil)) rfl rfl ?_ | refine aany2_take 7 rfl (.none rfl) zKr zKr zKr zKr (stB_out zKr) (aq_load_el1' rfl rfl zScal (fun _ h => absurd h List.not_mem_nil)) rfl rfl ?_ | refine aany2_take 7 rfl (.none rfl) zKr zKr zKr zKr (stB_out zKr) (aq_load_own1 rfl zUpd List.not_mem_nil rfl (by first | with_reducible assumption | assumption | rfl) zScal) rfl rfl ?_
    first | refine aany2_pure 9 rfl (.none rfl) zKr zKr zKr (ap_fieldAddr (off := 7) (sz := 1) (g := false) rfl rfl) rfl rfl ?_ | refine aany2_pure 9 rfl (.none rfl) zKr zKr zKr (ap_fieldAddr_el (off := 7) (sz := 1) (g := false) rfl rfl zRc) rfl rfl ?_
    first | refine aany2_take 10 rfl (.none rfl) zKr zKr zKr zKr (stB_out zKr) (aq_load1 rfl zUpd List.not_mem_nil rfl zRc) rfl rfl ?_ | refine aany2_take 10 rfl (.none rfl) zKr zKr zKr zKr (stB_out zKr) (aq_load_el1 rfl rfl zScal (fun _ h => absurd h List.not_mem_nil)) rfl rfl ?_ | refine aany2_take 10 rfl (.none rfl) zKr zKr zKr zKr (stB_out zKr) (aq_load_el1' rfl rfl zScal (fun _ h => absurd h List.not_mem_nil)) rfl rfl ?_ | refine aany2_take 10 rfl (.none rfl) zKr zKr zKr zKr (stB_out zKr) (aq_load_own1 rfl zUpd List.not_mem_nil rfl (by first | with_reducible assumption | assumption | rfl) zScal) rfl rfl ?_
    refine aany2_call 2 zKr rfl zRc (atrust_con 200000 (by omega) v.t hvz.t) rfl rfl ?_
    rintro _ _ ⟨rfl, rfl⟩
    refine ⟨rfl, ?_⟩
    first | refine aany2_pure 12 rfl (.none rfl) zKr zKr zKr (ap_fieldAddr (off := 2) (sz := 3) (g := true) rfl rfl) rfl rfl ?_ | refine aany2_pure 12 rfl (.none rfl) zKr zKr zKr (ap_fieldAddr_el (off := 2) (sz := 3) (g := true) rfl rfl zRc) rfl rfl ?_
    refine aany2_call 5 zKr rfl zRc (clc_con v.votes (by have := hvz.votes; omega)) rfl rfl ?_
    rintro _ _ ⟨rfl, rfl⟩
    refine ⟨rfl, ?_⟩
    refine aany2_call 8 zKr rfl zRc (clc_con v.acc (by have := hvz.acc; omega)) rfl rfl ?_
    rintro _ _ ⟨rfl, rfl⟩
    refine ⟨rfl, ?_⟩
    refine aany2_call 11 zKr rfl zRc (clc_con v.cf (by have := hvz.cf; omega)) rfl rfl ?_
    rintro _ _ ⟨rfl, rfl⟩
    refine ⟨rfl, ?_⟩
    refine aany2_switch (Hm := [.box b5 _ _]) (by kernel_rfl) (by kernel_rfl) (by repeat (first | exact .nil | exact Split.none _ | apply Split.left | apply Split.right)) ?_
    refine zOn 13 ?_
    refine zW ?_; refine zW ?_
    refine zT 14 ?_
    refine zOn 15 ?_
    refine zW ?_; refine zW ?_
    refine zT 16 ?_
    refine zOn 17 ?_
    refine zW ?_; refine zW ?_
    refine zT 18 ?_
    refine zOn 19 ?_
    iterate 3 refine zW ?_
    all_goals (
      iterate 18 refine zW ?_
      first | refine zLn fun _ => ?_ | refine zW ?_
      iterate 4 refine zW ?_
      refine awp_loop3 [1, 2, 5, 12, 13, 14, 37, 38] [.box b1 _ _, .box b2 _ _, .arr w _ _ _] (fun (j : Nat) (u : Value) (r2 : List Msg) r => (39, .i (j : Int)) :: r) (fun j u r2 r => .box b5 57 [.i v.node, .i v.seq, .i v.t.th, .sl 1 (v.t.nodes.map .i), .sl 3 (avs v.t.inner), .sl 2 (v.votes.map clv), .sl 2 (v.acc.map clv), .sl 2 (v.cf.map clv), .v u] :: .arr u 44 7 (r2.map msv) :: r) (fun j u r2 => j ≤ v.hs.length ∧ r2 = v.hs.take j) (fun j u r2 => v.hs.length - j) (0) (.slice none 0 0) ([]) zRc ⟨by omega, by simp⟩ ((wk_own 44 7 rfl).trans (zWk)) ?_
      intro j u r2 ⟨hj, hJ⟩
      have hrl : r2.length = j := by rw [hJ]; simp; omega
      iterate 6 refine zW ?_
      refine zC (fun hc => ?_) fun hc => ?_
      · have hlt2 : j < v.hs.length := by have := of_decide_eq_true hc; omega
        obtain ⟨z, hzz, hdz⟩ := drop_cons hlt2
        have hz' := getMap msv hzz
        have hzm := List.mem_of_getElem? hzz
        iterate 8 refine zW ?_
        refine zAl fun b8 => ?_
        iterate 3 refine zW ?_
        refine zDr [.box b5 _ _, .arr u _ _ _] ?_
        refine zT 0 ?_
        refine zT 2 ?_
        refine zE2 1 3 ?_ ?_
        rotate_left
        case' _ =>
          refine aops_call_v zRc (amsg_con z (hvz.hs z hzm).1 (hvz.hs z hzm).2.1 (hvz.hs z hzm).2.2) rfl rfl ?_
          refine zW ?_
          refine zE2 1 4 ?_ ?_
          rotate_left
          case' _ =>
            refine aops_lit (e := 44) (sz := 7) (by_ := 120) rfl rfl zRc rfl rfl rfl rfl ?_
            refine zW ?_
            refine zOn 1 ?_
            refine zW ?_; refine zW ?_
            refine zOn 5 ?_
            first | refine aops_append (e := 44) (sz := 7) (by_ := 120) rfl zUpd rfl rfl rfl rfl rfl (by simp only [List.length_cons, List.length_nil, List.length_append, List.length_map, avs_len]; omega) (fun v48 hv48 => ?_) | refine aops_append_nil (e := 44) (sz := 7) (by_ := 120) rfl rfl rfl rfl rfl rfl (by simp only [List.length_cons, List.length_nil, List.length_append, List.length_map, avs_len]; omega) (fun v48 hv48 => ?_)
            refine zW ?_
            refine zT 6 ?_
            refine zOn 7 ?_
            iterate 3 refine zW ?_
          rotate_right
          case' _ =>
            refine zW ?_; refine zW ?_
            refine zOn 4 ?_
            refine aops_lit (e := 44) (sz := 7) (by_ := 120) rfl rfl zRc rfl rfl rfl rfl ?_
            refine zW ?_
            refine zOn 5 ?_
            first | refine aops_append (e := 44) (sz := 7) (by_ := 120) rfl zUpd rfl rfl rfl rfl rfl (by simp only [List.length_cons, List.length_nil, List.length_append, List.length_map, avs_len]; omega) (fun v48 hv48 => ?_) | refine aops_append_nil (e := 44) (sz := 7) (by_ := 120) rfl rfl rfl rfl rfl rfl (by simp only [List.length_cons, List.length_nil, List.length_append, List.length_map, avs_len]; omega) (fun v48 hv48 => ?_)
            refine zW ?_
            refine zT 6 ?_
            refine zOn 7 ?_
            iterate 3 refine zW ?_
        rotate_right
        case' _ =>
          refine zW ?_; refine zW ?_
          refine zOn 3 ?_
          refine aops_call_v zRc (amsg_con z (hvz.hs z hzm).1 (hvz.hs z hzm).2.1 (hvz.hs z hzm).2.2) rfl rfl ?_
          refine zW ?_
          refine zOn 4 ?_
          refine aops_lit (e := 44) (sz := 7) (by_ := 120) rfl rfl zRc rfl rfl rfl rfl ?_
          refine zW ?_
          refine zOn 5 ?_
          first | refine aops_append (e := 44) (sz := 7) (by_ := 120) rfl zUpd rfl rfl rfl rfl rfl (by simp only [List.length_cons, List.length_nil, List.length_append, List.length_map, avs_len]; omega) (fun v48 hv48 => ?_) | refine aops_append_nil (e := 44) (sz := 7) (by_ := 120) rfl rfl rfl rfl rfl rfl (by simp only [List.length_cons, List.length_nil, List.length_append, List.length_map, avs_len]; omega) (fun v48 hv48 => ?_)
          refine zW ?_
          refine zT 6 ?_
          refine zOn 7 ?_
          iterate 3 refine zW ?_
        all_goals (
          iterate 7 refine zW ?_
          rw [show D.agg [.i z.node, .i z.seq, .i z.t.th, .sl 1 (z.t.nodes.map .i), .sl 3 (avs z.t.inner), .sl 2 (z.votes.map clv), .sl 2 (z.acc.map clv)] = msv z from rfl, msv_snoc2]
          refine ⟨j + 1, _, _, ⟨by omega, ?_⟩, by omega, zWk⟩
          rw [hJ, List.take_add_one, hzz]; simp
          )
      · have hge2 : v.hs.length ≤ j := by have := of_decide_eq_false hc; omega
        rw [List.take_of_length_le hge2] at hJ
        subst hJ
        refine zFz u [1,2,5,12,13,14] ?_
        iterate 9 refine zW ?_
        refine aops_lit (e := 57) (sz := 9) (by_ := 168) rfl rfl zRc rfl rfl rfl rfl ?_
        first | refine aops_append (e := 57) (sz := 9) (by_ := 168) rfl zUpd rfl rfl rfl rfl rfl (by simp only [List.length_cons, List.length_nil, List.length_append, List.length_map, avs_len]; omega) (fun v55 hv55 => ?_) | refine aops_append_nil (e := 57) (sz := 9) (by_ := 168) rfl rfl rfl rfl rfl rfl (by simp only [List.length_cons, List.length_nil, List.length_append, List.length_map, avs_len]; omega) (fun v55 hv55 => ?_)
        refine zW ?_; refine zW ?_
        rw [show D.agg [.i v.node, .i v.seq, .i v.t.th, .sl 1 (v.t.nodes.map .i), .sl 3 (avs v.t.inner), .sl 2 (v.votes.map clv), .sl 2 (v.acc.map clv), .sl 2 (v.cf.map clv), .sl 7 (v.hs.map msv)] = vtv v from rfl, vtv_snoc]
        iterate 8 refine zW ?_
        refine ⟨k + 1, _, _, ⟨by omega, ?_⟩, by omega, zWk⟩
        rw [hI, List.take_add_one, hv]
        simp
      )
  · have hge : m.vs.length ≤ k := by have := of_decide_eq_false hc; omega
    refine zFz w [1,2] ?_
    iterate 12 refine zW ?_
    refine zPi ?_
    rw [hI, List.take_of_length_le hge]; rfl
def sndR (x : Cl) (m : Mt) (e : Ev) (d : D) : Prop := (∃ m', stepM x m e = some m' ∧ d = .tup [mtv m', .i 0]) ∨ (stepM x m e = none ∧ ∃ q : Int, ¬ q = 0 ∧ d = .tup [mtv zMt, .i q])
theorem sndY {x : Cl} {m m2 : Mt} {e : Ev} {d : D} (h : stepM x m e = some m2) (hd : sndR x m e d) : d = .tup [mtv m2, .i 0] := by
  rcases hd with ⟨m', h1, h2⟩ | ⟨h1, _⟩
  · rw [h] at h1; cases h1; exact h2
  · rw [h] at h1; cases h1
theorem sndN {x : Cl} {m : Mt} {e : Ev} {d : D} (h : stepM x m e = none) (hd : sndR x m e d) : ∃ q : Int, ¬ q = 0 ∧ d = .tup [mtv zMt, .i q] := by
  rcases hd with ⟨m', h1, h2⟩ | ⟨_, h2⟩
  · rw [h] at h1; cases h1
  · exact h2
theorem sndR_con (c : List Mem) (hC : Cfg c) (h5 : c.length ≤ 5) (x : Cl) (hx : validCl x = true) (m : Mt) (hI : MI c x m) (i j : Nat) (hi : i < c.length) (hj : j < c.length) (hs : SegI m i j) :
    Con Tryz.prog 23 [mtv m, plyD 2 i j ⟨0, 0⟩] [] (fun d H => H = [] ∧ sndR x m (.send i j) d) := by
  have hl := hI.len
  obtain ⟨a, ha⟩ : ∃ a, m.vs[i]? = some a := ⟨_, List.getElem?_eq_getElem (by omega)⟩
  obtain ⟨b, hb⟩ : ∃ b, m.vs[j]? = some b := ⟨_, List.getElem?_eq_getElem (by omega)⟩
  refine (stepS_con c hC h5 x hx m hI i j hi hj a b ha hb fun h1 h2 => hs.fits hI hb h2 h1).mono fun d H ⟨h1, h2⟩ => ⟨h2, ?_⟩
  subst h1
  unfold sndR
  simp only [stepM]
  by_cases hij : i = j
  · right
    rw [if_pos (.inl hij), if_pos hij]
    exact ⟨rfl, 1, by decide, rfl⟩
  · cases hst : m.stopped.testBit j with
    | true =>
      right
      rw [if_pos (.inr rfl), if_neg hij, if_pos rfl]
      exact ⟨rfl, 13, by decide, rfl⟩
    | false =>
      rw [if_neg (by rintro (h | h); exact hij h; cases h), if_neg hij, if_neg (by decide), ha, hb]
      simp only [Option.bind_some]
      unfold hearM
      cases ho : oldR b.hs (sayM a) with
      | true =>
        right
        rw [if_pos rfl, if_pos rfl]
        exact ⟨rfl, 9, by decide, rfl⟩
      | false =>
        left
        rw [if_neg (by decide), if_neg (by decide)]
        exact ⟨_, rfl, rfl⟩
theorem stpR_con (c : List Mem) (hC : Cfg c) (h5 : c.length ≤ 5) (x : Cl) (hx : validCl x = true) (m : Mt) (hI : MI c x m) (e : Ev) (he : e.own = true) (hk : e.fr < c.length) :
    Con Tryz.prog 23 [mtv m, plyD e.kd e.fr 0 (e.cl x)] [] (fun d H => H = [] ∧ sndR x m e d) := by
  have hl := hI.len
  cases e with
  | send i j => cases he
  | vote k =>
    obtain ⟨v, hv⟩ : ∃ v, m.vs[k]? = some v := ⟨_, List.getElem?_eq_getElem (by have : k < c.length := hk; omega)⟩
    refine (stepV_con c hC h5 x hx m hI k v hv).mono fun d H ⟨h1, h2⟩ => ⟨h2, ?_⟩
    subst h1
    unfold sndR
    simp only [stepM]
    cases hst : m.stopped.testBit k with
    | true =>
      right
      rw [if_pos rfl, if_pos rfl]
      exact ⟨rfl, 13, by decide, rfl⟩
    | false =>
      left
      rw [if_neg (by decide), if_neg (by decide), hv]
      exact ⟨_, rfl, rfl⟩
  | stop k =>
    obtain ⟨v, hv⟩ : ∃ v, m.vs[k]? = some v := ⟨_, List.getElem?_eq_getElem (by have : k < c.length := hk; omega)⟩
    refine (stepT_con c hC h5 x hx m hI k v hv).mono fun d H ⟨h1, h2⟩ => ⟨h2, ?_⟩
    subst h1
    unfold sndR
    simp only [stepM]
    cases hst : m.stopped.testBit k with
    | true =>
      right
      rw [if_pos rfl, if_pos rfl]
      exact ⟨rfl, 13, by decide, rfl⟩
    | false =>
      left
      rw [if_neg (by decide), if_neg (by decide), hv]
      refine ⟨_, rfl, ?_⟩
      rw [show m.vs.set k v = m.vs from by
        apply List.ext_getElem?
        intro i
        rw [List.getElem?_set]
        split
        · rename_i e
          subst e
          split
          · exact hv.symm
          · rw [List.getElem?_eq_none (by omega)]
        · rfl]
theorem mi_sz {c : List Mem} {x : Cl} {m : Mt} (hC : Cfg c) (hx : validCl x = true) (h5 : c.length ≤ 5) (hI : MI c x m) : ∀ v ∈ m.vs, VSz v := by
  intro v hv
  obtain ⟨k, hk⟩ := List.getElem?_of_mem hv
  exact (mi_vg hC hx h5 hI hk).1.nh.sz
theorem nodesF_con {c : List Mem} (hC : Cfg c) : Con Tryz.prog 61 [.i ((2 ^ c.length - 1 : Nat) : Int)] [] (Is (.sl 1 (((List.range c.length).map fun k : Nat => (k : Int)).map .i)) []) := by
  have h := Nodes_con ((2 ^ c.length - 1 : Nat) : Int)
  rw [nodes_full hC.len.2] at h
  exact h
theorem nd_get {n k : Nat} (h : k < n) : (((List.range n).map fun k : Nat => (k : Int)).map D.i)[k]? = some (.i (k : Int)) := by
  rw [List.getElem?_map, List.getElem?_map, List.getElem?_range h]; rfl
theorem round_con (c : List Mem) (hC : Cfg c) (h5 : c.length ≤ 5) (x : Cl) (hx : validCl x = true) (m : Mt) (hI : MI c x m) (hS : SegI m 0 0) : Con Tryz.prog 26 [mtv m] [] (fun d H => H = [] ∧ ∃ m1 f, d = .tup [mtv m1, .b f] ∧ RndI c x m m1 c.length 0 f) := by
  have hcap : capB = 140737488355328 := rfl
  have hvl : (m.vs.map vtv).length = m.vs.length := by simp
  have hcl := hI.len
  have hl10 := hC.len
  have h10 := pow_le10 hC.len.2
  have hst := hI.st
  have hpw : 2 ^ (m.vs.map vtv).length = 2 ^ c.length := by rw [hvl, hcl]
  have hvc : (m.vs.map vtv).length = c.length := by rw [hvl, hcl]
  have hvc2 : (((m.vs.map vtv).length : Nat) : Int) = ((c.length : Nat) : Int) := by rw [hvc]
  have hndl : (((List.range c.length).map fun k : Nat => (k : Int)).map D.i).length = c.length := by simp
  have hpos : 0 < 2 ^ c.length := Nat.pow_pos (by omega)
  refine con_intro Tryz.func26 rfl Tryz.call26 rfl ?_
  refine zW ?_; refine zW ?_
  refine zBx fun b1 => ?_
  refine zAl fun b2 => ?_
  iterate 4 refine zW ?_
  refine zDr [] ?_
  refine zT 0 ?_
  refine zT 1 ?_
  refine zT 2 ?_
  refine aany_take 3 rfl zGd zKr zKr zKr (AP.ar (ap_shl (p := 1) rfl rfl rfl (by omega) (by omega))) rfl rfl ?_
  refine aany_take 4 rfl zGd zKr zKr zKr (AP.ar (ap_arith (m := ((2 ^ c.length - 1 : Nat) : Int)) rfl rfl (by simp only [addI, Option.some.injEq]; omega) (by omega))) rfl rfl ?_
  refine zT 5 ?_
  refine zT 6 ?_
  refine aany_take 7 rfl zGd zKr zKr zKr (AP.ar (ap_arith (m := ((2 ^ c.length - 1 : Nat) : Int)) rfl rfl (by simp only [addI, Option.some.injEq]; omega) (by omega))) rfl rfl ?_
  refine zOn 8 ?_
  refine aops_call_v zRc (nodesF_con hC) rfl rfl ?_
  refine zW ?_
  refine zT 9 ?_
  refine zW ?_
  all_goals (
    iterate 10 refine zW ?_
    first | refine zLn fun _ => ?_ | refine zW ?_
    iterate 4 refine zW ?_
    refine awp_loop3 [1, 2, 4, 21, 22] [.box b2 _ _] (fun (i : Nat) (m1 : Mt) (f : Bool) r => (5, .b f) :: (23, .i (i : Int)) :: r) (fun i m1 f r => .box b1 49 [.sl 9 (m1.vs.map vtv), .i m1.stopped, .i 0] :: r) (fun i m1 f => i ≤ c.length ∧ RndI c x m m1 i 0 f) (fun i m1 f => c.length - i) (0) (m) (false) zRc ⟨by omega, .start hI hS⟩ (zWk) ?_
    intro i m1 f ⟨hic, hR⟩
    iterate 6 refine zW ?_
    refine zC (fun hc => ?_) fun hc => ?_
    · have hi : i < c.length := by have := of_decide_eq_true hc; omega
      have hx' := nd_get hi
      iterate 14 refine zW ?_
      first | refine zLn fun _ => ?_ | refine zW ?_
      iterate 4 refine zW ?_
      refine awp_loop3 [1, 2, 4, 7, 21, 22, 23, 27, 28] [.box b2 _ _] (fun (j : Nat) (m1 : Mt) (f : Bool) r => (5, .b f) :: (29, .i (j : Int)) :: r) (fun j m1 f r => .box b1 49 [.sl 9 (m1.vs.map vtv), .i m1.stopped, .i 0] :: r) (fun j m1 f => j ≤ c.length ∧ RndI c x m m1 i j f) (fun j m1 f => c.length - j) (0) (m1) (f) zRc ⟨by omega, hR⟩ (zWk) ?_
      intro j m1 f ⟨hjc, hR⟩
      iterate 6 refine zW ?_
      refine zC (fun hc => ?_) fun hc => ?_
      · have hj : j < c.length := by have := of_decide_eq_true hc; omega
        have hy' := nd_get hj
        iterate 12 refine zW ?_
        rcases hm2 : stepM x m1 (.send i j) with _ | m2
        all_goals (
          iterate 4 refine zW ?_
          refine aops_p (AP.up (ap_build zKr rfl zRc zFill) (d' := plyD 2 i j ⟨0, 0⟩) (Up.agg (by repeat (first | exact UpL.nil | apply UpL.cons (by first | exact Up.same | exact Up.int | exact Up.nil))))) rfl rfl rfl ?_
          (refine aops_call zRc (sndR_con c hC h5 x hx m1 hR.mi i j hi hj hR.seg) zSplit rfl rfl ?_; rintro d9 _ ⟨rfl, hd9⟩; first | (obtain rfl := sndY hm2 hd9) | (obtain ⟨q, hq, rfl⟩ := sndN hm2 hd9))
          iterate 3 refine zW ?_
          refine zAl fun b10 => ?_
          iterate 10 refine zW ?_
          refine zC (fun hc => ?_) fun hc => ?_
          · first
            | (exact absurd hc (by decide))
            | (exact absurd (of_decide_eq_true hc) hq)
            | (iterate 12 refine zW ?_
               first
               | (refine ⟨j + 1, m2, true, ⟨by omega, hR.yes hC hx hm2⟩, by omega, zWk⟩)
               | (refine ⟨j + 1, m1, f, ⟨by omega, hR.no hi hm2⟩, by omega, zWk⟩)
              )
          · first
            | (exact absurd hc (by decide))
            | (exact absurd (of_decide_eq_true hc) hq)
            | (iterate 8 refine zW ?_
               first
               | (refine ⟨j + 1, m2, true, ⟨by omega, hR.yes hC hx hm2⟩, by omega, zWk⟩)
               | (refine ⟨j + 1, m1, f, ⟨by omega, hR.no hi hm2⟩, by omega, zWk⟩)
              )
          )
      · have hjc2 : j = c.length := by have := of_decide_eq_false hc; omega
        subst hjc2
        iterate 11 refine zW ?_
        refine ⟨i + 1, m1, f, ⟨by omega, hR.row⟩, by omega, zWk⟩
    · have hic2 : i = c.length := by have := of_decide_eq_false hc; omega
      iterate 14 refine zW ?_
      subst hic2
      exact post_ret (.cell rfl zUpd rfl rfl (.tmp rfl .nil)) zKeep ⟨rfl, m1, f, rfl, hR⟩
    )
structure CalI (c : List Mem) (x : Cl) (m m1 : Mt) (f : Bool) : Prop where
  sends : Sends x m m1
  mi : MI c x m1
  seg : SegI m1 0 0
  quiet : f = false → Quiet x c.length m1
theorem calI_next {c : List Mem} {x : Cl} {m m1 m2 : Mt} {f : Bool} (h : CalI c x m m1 true) (hR : RndI c x m1 m2 c.length 0 f) : CalI c x m m2 f ∧ 2 * mqS m2 + f.toNat < 2 * mqS m1 + true.toNat := by
  refine ⟨⟨h.sends.trans hR.sends, hR.mi, hR.seg0, fun e => ?_⟩, ?_⟩
  · have h1 := hR.still e
    rw [h1.1]; exact h1.2
  · cases f with
    | true => have := hR.dec rfl; omega
    | false => rw [(hR.still rfl).1]; simp
theorem calm_con (c : List Mem) (hC : Cfg c) (h5 : c.length ≤ 5) (x : Cl) (hx : validCl x = true) (m : Mt) (hI : MI c x m) (hS : SegI m 0 0) : Con Tryz.prog 11 [mtv m] [] (fun d H => H = [] ∧ ∃ m1, d = .tup [mtv m1, .i 0] ∧ CalI c x m m1 false) := by
  have hcap : capB = 140737488355328 := rfl
  refine con_intro Tryz.func11 rfl Tryz.call11 rfl ?_
  refine zW ?_; refine zW ?_
  refine zBx fun b1 => ?_
  refine zAl fun b2 => ?_
  iterate 7 refine zW ?_
  refine aops_call_v zRc (avalid_con c hC h5 x hx m hI) rfl rfl ?_
  iterate 3 refine zW ?_
  refine awp_cond_f rfl zDec ?_
  iterate 9 refine zW ?_
  refine awp_loop2 [1, 2] [.box b2 _ _] (fun (m1 : Mt) (f : Bool) r => (4, .b f) :: r) (fun m1 f r => .box b1 49 [.sl 9 (m1.vs.map vtv), .i m1.stopped, .i 0] :: r) (fun m1 f => CalI c x m m1 f) (fun m1 f => 2 * mqS m1 + f.toNat) (m) (true) zRc ⟨.refl m, hI, hS, fun h => absurd h (by decide)⟩ (zWk) ?_
  intro m1 f hR
  iterate 6 refine zW ?_
  refine zC (fun hc => ?_) fun hc => ?_
  · subst hc
    iterate 5 refine zW ?_
    (refine aops_call zRc (round_con c hC h5 x hx m1 hR.mi hR.seg) zSplit rfl rfl ?_; rintro _ _ ⟨rfl, m2, f2, rfl, hR2⟩)
    iterate 8 refine zW ?_
    obtain ⟨h1, h2⟩ := calI_next hR hR2
    refine ⟨m2, f2, h1, h2, zWk⟩
  · subst hc
    iterate 8 refine zW ?_
    refine aops_call_v zRc (afresh_con m1 (by have := hR.mi.len; have := hC.len; omega) (mi_sz hC hx h5 hR.mi)) rfl rfl ?_
    iterate 5 refine zW ?_
    exact post_ret (.cell rfl zUpd rfl rfl (.tmp rfl .nil)) zKeep ⟨rfl, m1, rfl, hR⟩
theorem begin_con (c : List Mem) (hC : Cfg c) (h5 : c.length ≤ 5) : Con Tryz.prog 22 [cv c, .i 0] [] (Is (.tup [mtv (beginM c), .i 0]) []) := by
  have hcap : capB = 140737488355328 := rfl
  have hml : (c.map mv).length = c.length := by simp
  have hl10 := hC.len
  have hpos : 0 < 2 ^ c.length := Nat.pow_pos (by omega)
  have hpw : 2 ^ (c.map mv).length = 2 ^ c.length := by rw [hml]
  have h10 := pow_le10 hC.len.2
  refine con_intro Tryz.func22 rfl Tryz.call22 rfl ?_
  refine zW ?_; refine zW ?_
  refine zBx fun b2 => ?_
  refine zAl fun b4 => ?_
  iterate 7 refine zW ?_
  refine aops_call_v zRc (validCfg_con hC) rfl rfl ?_
  iterate 9 refine zW ?_
  refine awp_cond_f rfl zDec ?_
  iterate 7 refine zW ?_
  first | refine zLn fun _ => ?_ | refine zW ?_
  refine zW ?_; refine zW ?_
  iterate 7 all_goals first | refine zW ?_ | (refine zG (fun hg => ?_) fun hg => ?_; case' _ => refine zW ?_)
  all_goals first | (refine zY ?_; (first | refine zLn fun _ => ?_ | refine zW ?_)) | refine zSk ?_ | (refine zG (fun hg => ?_) fun hg => ?_; case' _ => (first | refine zLn fun _ => ?_ | refine zW ?_))
  all_goals first | (refine zY ?_; refine aops_p (ap_shl (p := 1) rfl rfl rfl (by omega) (by omega)) rfl rfl rfl ?_) | refine zSk ?_ | (refine zG (fun hg => ?_) fun hg => ?_; case' _ => refine aops_p (ap_shl (p := 1) rfl rfl rfl (by omega) (by omega)) rfl rfl rfl ?_)
  iterate 2 all_goals first | refine zW ?_ | (refine zG (fun hg => ?_) fun hg => ?_; case' _ => refine zW ?_)
  all_goals (
    refine zW ?_; refine zW ?_
    refine awp_cond_f rfl zDec ?_
    iterate 6 refine zW ?_
    refine zAl fun b7 => ?_
    iterate 8 refine zW ?_
    first | refine zLn fun _ => ?_ | refine zW ?_
    iterate 4 refine zW ?_
    refine awp_loop3 [1, 4, 7, 39, 40] [.box b2 _ _, .box b4 _ _] (fun (k : Nat) (w : Value) (q : List Vt) r => (41, .i (k : Int)) :: r) (fun k w q r => .box b7 49 [.v w, .i 0, .i 0] :: .arr w 57 9 (q.map vtv) :: r) (fun k w q => k ≤ c.length ∧ q = (beginGo 0 c).take k) (fun k w q => c.length - k) (0) (.slice none 0 0) ([]) zRc ⟨by omega, by simp⟩ ((wk_own 57 9 rfl).trans (zWk)) ?_
    intro k w q ⟨hk, hI⟩
    have hql : q.length = k := by rw [hI, List.length_take, begin_len]; omega
    iterate 6 refine zW ?_
    refine zC (fun hc => ?_) fun hc => ?_
    · have hlt : k < c.length := by have := of_decide_eq_true hc; omega
      obtain ⟨x, hx, hd⟩ := drop_cons hlt
      have hx' := getMap mv hx
      have hxm := List.mem_of_getElem? hx
      have hdc : (!x.decl) = false := by rw [(hC.decl x hxm).1]; rfl
      iterate 9 refine zW ?_
      refine zAl fun b9 => ?_
      iterate 8 refine zW ?_
      refine zAl fun b10 => ?_
      iterate 11 refine zW ?_
      refine awp_cond_f rfl zDec ?_
      iterate 6 refine zW ?_
      refine aops_call_v zRc (vstart_con k (by omega) x.t (hC.decl x hxm).2.1 (by have := hC.size x hxm; omega)) rfl rfl ?_
      iterate 3 refine zW ?_
      refine zAl fun b11 => ?_
      iterate 8 refine zW ?_
      refine aops_lit (e := 57) (sz := 9) (by_ := 168) rfl rfl zRc rfl rfl rfl rfl ?_
      first | refine aops_append (e := 57) (sz := 9) (by_ := 168) rfl zUpd rfl rfl rfl rfl rfl (by simp only [List.length_cons, List.length_nil, List.length_append, List.length_map, avs_len]; omega) (fun v68 hv68 => ?_) | refine aops_append_nil (e := 57) (sz := 9) (by_ := 168) rfl rfl rfl rfl rfl rfl (by simp only [List.length_cons, List.length_nil, List.length_append, List.length_map, avs_len]; omega) (fun v68 hv68 => ?_)
      iterate 10 refine zW ?_
      rw [show D.agg [.i (newV k x.t).node, .i (newV k x.t).seq, .i (newV k x.t).t.th, .sl 1 ((newV k x.t).t.nodes.map .i), .sl 3 (avs (newV k x.t).t.inner), .sl 2 ((newV k x.t).votes.map clv), .sl 2 ((newV k x.t).acc.map clv), .sl 2 ((newV k x.t).cf.map clv), .sl 7 ((newV k x.t).hs.map msv)] = vtv (newV k x.t) from rfl, vtv_snoc]
      refine ⟨k + 1, _, _, ⟨by omega, ?_⟩, by omega, zWk⟩
      rw [hI, List.take_add_one, begin_at, hx]; simp
    · have hge : c.length ≤ k := by have := of_decide_eq_false hc; omega
      refine zFz w [4,7] ?_
      iterate 13 refine zW ?_
      refine zPi ?_
      rw [hI, List.take_of_length_le (by rw [begin_len]; omega)]; rfl
    )
theorem run_next {x : Cl} {m1 m0 : Mt} {l l0 : List Ev} {k : Nat} {e : Ev} (h : runM x m1 (l.drop k) = m0) (hd : l.drop k = e :: l.drop (k + 1)) : runM x ((stepM x m1 e).getD m1) (l.drop (k + 1)) = m0 := by
  rw [hd, runM_cons] at h
  exact h
theorem evD_get {x : Cl} {l : List Ev} {k : Nat} {e : Ev} (h : l[k]? = some e) : (l.map fun e => plyD e.kd e.fr 0 (e.cl x))[k]? = some (plyD e.kd e.fr 0 (e.cl x)) := by rw [List.getElem?_map, h]; rfl
theorem run_con (c : List Mem) (hC : Cfg c) (h5 : c.length ≤ 5) (x : Cl) (hx : validCl x = true) (l : List Ev) (hl : l.length ≤ 400) (he : ∀ e ∈ l, e.own = true ∧ e.fr < c.length) : Con Tryz.prog 10 [cv c, .i 0, .sl 15 (l.map fun e => plyD e.kd e.fr 0 (e.cl x))] [] (fun d H => H = [] ∧ ∃ q, d = .tup [mtv (runM x (beginM c) l), q, .i 0]) := by
  have hcap : capB = 140737488355328 := rfl
  have hml : (l.map fun e => plyD e.kd e.fr 0 (e.cl x)).length = l.length := by simp
  have hl10 := hC.len
  refine con_intro Tryz.func10 rfl Tryz.call10 rfl ?_
  refine zW ?_; refine zW ?_
  refine zBx fun b3 => ?_
  refine zAl fun b6 => ?_
  iterate 8 refine zW ?_
  refine aops_call_v zRc (begin_con c hC h5) rfl rfl ?_
  iterate 3 refine zW ?_
  refine zAl fun b9 => ?_
  iterate 11 refine zW ?_
  refine awp_cond_f rfl zDec ?_
  iterate 6 refine zW ?_
  first | refine zLn fun _ => ?_ | refine zW ?_
  iterate 3 refine zW ?_
  refine awp_cond_f rfl zDec ?_
  iterate 11 refine zW ?_
  first | refine zLn fun _ => ?_ | refine zW ?_
  iterate 4 refine zW ?_
  refine awp_loop4 [6, 9, 30, 31] [.box b6 _ _] (fun (k : Nat) (m1 : Mt) (w : Value) (q : List Int) r => (11, .v w) :: (32, .i (k : Int)) :: r) (fun k m1 w q r => .box b9 49 [.sl 9 (m1.vs.map vtv), .i m1.stopped, .i 0] :: .arr w 30 1 (q.map .i) :: r) (fun k m1 w q => k ≤ l.length ∧ q.length = k ∧ MI c x m1 ∧ runM x m1 (l.drop k) = runM x (beginM c) l) (fun k m1 w q => l.length - k) (0) (beginM c) (.slice none 0 0) ([]) zRc ⟨by omega, rfl, MI.begin hC, by simp⟩ ((wk_own 30 1 rfl).trans (zWk)) ?_
  intro k m1 w q ⟨hk, hq9, hI, hR⟩
  iterate 6 refine zW ?_
  refine zC (fun hc => ?_) fun hc => ?_
  · have hlt : k < l.length := by have := of_decide_eq_true hc; omega
    obtain ⟨e, hx1, hd⟩ := drop_cons hlt
    have hx' := evD_get (x := x) hx1
    have hem := List.mem_of_getElem? hx1
    iterate 8 refine zW ?_
    refine zAl fun b13 => ?_
    iterate 4 refine zW ?_
    rcases hm2 : stepM x m1 e with _ | m2
    all_goals (
      iterate 3 refine zW ?_
      (refine aops_call zRc (stpR_con c hC h5 x hx m1 hI e (he e hem).1 (he e hem).2) zSplit rfl rfl ?_; rintro d9 _ ⟨rfl, hd9⟩; first | (obtain rfl := sndY hm2 hd9) | (obtain ⟨q9, hq, rfl⟩ := sndN hm2 hd9))
      iterate 3 refine zW ?_
      refine zAl fun b14 => ?_
      iterate 11 refine zW ?_
      refine zC (fun hc => ?_) fun hc => ?_
      · first
        | (exact absurd hc (by decide))
        | (exact absurd (of_decide_eq_true hc) hq)
        | (iterate 8 refine zW ?_
           refine aops_lit (e := 30) (sz := 1) (by_ := 8) rfl rfl zRc rfl rfl rfl rfl ?_
           first | refine aops_append (e := 30) (sz := 1) (by_ := 8) rfl zUpd rfl rfl rfl rfl rfl (by simp only [List.length_cons, List.length_nil, List.length_append, List.length_map, avs_len]; omega) (fun v48 hv48 => ?_) | refine aops_append_nil (e := 30) (sz := 1) (by_ := 8) rfl rfl rfl rfl rfl rfl (by simp only [List.length_cons, List.length_nil, List.length_append, List.length_map, avs_len]; omega) (fun v48 hv48 => ?_)
           iterate 9 refine zW ?_
           rw [mapi_snoc]
           first
           | (refine ⟨k + 1, m2, _, q ++ [0], ⟨by omega, by simp only [List.length_append, List.length_cons, List.length_nil]; omega, hI.step hC hx hm2, ?_⟩, by omega, zWk⟩; have h9 := run_next (l0 := l) hR hd; rw [hm2] at h9; exact h9)
           | (refine ⟨k + 1, m1, _, q ++ [q9], ⟨by omega, by simp only [List.length_append, List.length_cons, List.length_nil]; omega, hI, ?_⟩, by omega, zWk⟩; have h9 := run_next (l0 := l) hR hd; rw [hm2] at h9; exact h9)
          )
      · first
        | (exact absurd hc (by decide))
        | (exact absurd (of_decide_eq_true hc) hq)
        | (iterate 5 refine zW ?_
           refine aops_lit (e := 30) (sz := 1) (by_ := 8) rfl rfl zRc rfl rfl rfl rfl ?_
           first | refine aops_append (e := 30) (sz := 1) (by_ := 8) rfl zUpd rfl rfl rfl rfl rfl (by simp only [List.length_cons, List.length_nil, List.length_append, List.length_map, avs_len]; omega) (fun v48 hv48 => ?_) | refine aops_append_nil (e := 30) (sz := 1) (by_ := 8) rfl rfl rfl rfl rfl rfl (by simp only [List.length_cons, List.length_nil, List.length_append, List.length_map, avs_len]; omega) (fun v48 hv48 => ?_)
           iterate 9 refine zW ?_
           rw [mapi_snoc]
           first
           | (refine ⟨k + 1, m2, _, q ++ [0], ⟨by omega, by simp only [List.length_append, List.length_cons, List.length_nil]; omega, hI.step hC hx hm2, ?_⟩, by omega, zWk⟩; have h9 := run_next (l0 := l) hR hd; rw [hm2] at h9; exact h9)
           | (refine ⟨k + 1, m1, _, q ++ [q9], ⟨by omega, by simp only [List.length_append, List.length_cons, List.length_nil]; omega, hI, ?_⟩, by omega, zWk⟩; have h9 := run_next (l0 := l) hR hd; rw [hm2] at h9; exact h9)
          )
      )
  · have hge : l.length ≤ k := by have := of_decide_eq_false hc; omega
    refine zFz w [6,9,11] ?_
    iterate 8 refine zW ?_
    refine aops_call_v zRc (afresh_con m1 (by have := hI.len; omega) (mi_sz hC hx h5 hI)) rfl rfl ?_
    iterate 7 refine zW ?_
    rw [drop_nil hge] at hR
    refine post_ret (.cell rfl zUpd rfl rfl (.tmp rfl (.tmp rfl .nil))) zKeep ⟨rfl, .sl 1 (q.map .i), ?_⟩
    rw [← hR]; rfl
end Go.Proofs.YtmolbagfkdbdnaaGreatDoor
