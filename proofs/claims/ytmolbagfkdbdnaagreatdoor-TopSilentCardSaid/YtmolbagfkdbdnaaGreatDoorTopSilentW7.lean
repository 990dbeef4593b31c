/- Walks: each says what one function of the program answers, for the arguments that its statement names. No condition beyond what each theorem says. -/
import Derived.Test.YtmolbagfkdbdnaaGreatDoorTopSilentW6
import Derived.Test.YtmolbagfkdbdnaaGreatDoorProg
import Derived.KernelRfl
import Derived.Tactics
import Derived.Tactics2
import Derived.StillTactics
import Derived.Shelf.SlSortCmp.Whole1
import Derived.Shelf.SlSortCmp.NoneTotal
import Derived.Shelf.Strconv.Atoi
set_option linter.unusedVariables false
set_option linter.unusedSimpArgs false
set_option maxRecDepth 4000
set_option maxHeartbeats 2000000
namespace Go.Proofs.YtmolbagfkdbdnaaGreatDoor
open Go Go.Av Go.Tq
theorem turned_con (x : Cl) (b v : Vt) (h : NH x v) (ht : b.t = v.t) (hs : 0 ≤ v.seq ∧ v.seq ≤ 1000) : Con Tryz.prog 127 [vtv b, vtv v] [] (Is (vtv (turn x b v)) []) := by
  have hcap : capB = 140737488355328 := rfl
  have hsq : (Tq.settle x v).seq = v.seq := rfl
  have hz := nh_settle h
  refine con_intro Tryz.func127 rfl Tryz.call127 rfl ?_
  refine zW ?_; refine zW ?_
  refine zBx fun b2 => ?_
  refine zBx fun b3 => ?_
  refine zAl fun b4 => ?_
  iterate 5 refine zW ?_
  refine aops_call_v zRc (settled_con x v h) rfl rfl ?_
  iterate 10 refine zW ?_
  refine aops_call_v zRc (same_is2 ht) rfl rfl ?_
  refine zW ?_; refine zW ?_
  iterate 4 all_goals first | refine zW ?_ | (refine zG (fun hg => ?_) fun hg => ?_; case' _ => refine zW ?_)
  all_goals first | (refine zY ?_; refine aops_call_b zRc (eqC_con b.votes (Tq.settle x v).votes) rfl rfl fun c18 hc18 => ?_) | refine zSk ?_ | (refine zG (fun hg => ?_) fun hg => ?_; case' _ => refine aops_call_b zRc (eqC_con b.votes (Tq.settle x v).votes) rfl rfl fun c18 hc18 => ?_)
  iterate 7 all_goals first | refine zW ?_ | (refine zG (fun hg => ?_) fun hg => ?_; case' _ => refine zW ?_)
  all_goals first | (refine zY ?_; refine aops_call_b zRc (eqC_con b.acc (Tq.settle x v).acc) rfl rfl fun c26 hc26 => ?_) | refine zSk ?_ | (refine zG (fun hg => ?_) fun hg => ?_; case' _ => refine aops_call_b zRc (eqC_con b.acc (Tq.settle x v).acc) rfl rfl fun c26 hc26 => ?_)
  iterate 2 all_goals first | refine zW ?_ | (refine zG (fun hg => ?_) fun hg => ?_; case' _ => refine zW ?_)
  all_goals (
    refine zW ?_; refine zW ?_
    refine zC (fun hc => ?_) fun hc => ?_
    · first
      | (exact absurd hc (by decide))
      | (iterate 11 refine zW ?_
         refine aops_call_v zRc ((by first | exact vfresh_con (Tq.settle x v) hz | exact vfresh_con { Tq.settle x v with seq := (Tq.settle x v).seq + 1 } ⟨hz.t, hz.votes, hz.acc, hz.cf, hz.hl, hz.hs⟩)) rfl rfl ?_
         iterate 4 refine zW ?_
         refine zPi ?_
         first | (cases c18 <;> cases c26) | cases c18
         all_goals first | (rw [turn_eq hc18 hc26]; rfl) | (rw [turn_ne (.inl hc18)]; rfl) | (rw [turn_ne (.inr hc26)]; rfl) | (exfalso; simp_all; done)
        )
    · first
      | (exact absurd hc (by decide))
      | (iterate 5 refine zW ?_
         refine aops_call_v zRc ((by first | exact vfresh_con (Tq.settle x v) hz | exact vfresh_con { Tq.settle x v with seq := (Tq.settle x v).seq + 1 } ⟨hz.t, hz.votes, hz.acc, hz.cf, hz.hl, hz.hs⟩)) rfl rfl ?_
         iterate 4 refine zW ?_
         refine zPi ?_
         first | (cases c18 <;> cases c26) | cases c18
         all_goals first | (rw [turn_eq hc18 hc26]; rfl) | (rw [turn_ne (.inl hc18)]; rfl) | (rw [turn_ne (.inr hc26)]; rfl) | (exfalso; simp_all; done)
        )
    )
/-- A voter as it is in a meeting. -/
structure VG (x : Cl) (v : Vt) : Prop where
  nh : NH x v
  node : 0 ≤ v.node ∧ v.node < 10
  seq : 1 ≤ v.seq ∧ v.seq ≤ 900
  vt : validT v.t = 0
  fa : v.cf ≠ [] → v.acc ≠ []
  pl : ∀ m ∈ v.hs, plainM m = true ∧ m.node ≠ v.node
  srt : v.hs.Pairwise fun a b => a.node < b.node
theorem vt0_con {t : Trust} (h : validT t = 0) : Con Tryz.prog 73 [av t] [] (Is (.i 0) []) := by
  have h1 := validT_con t (by have := size_of_valid h; omega)
  rw [h] at h1
  exact h1
theorem pl1_con {x : Cl} {l : List Cl} (hx : validCl x = true) (h : OneV x l) : Con Tryz.prog 91 [.sl 2 (l.map clv)] [] (Is (.b true) []) := by
  have h1 := cplain_con l
  rw [h.plain hx] at h1
  exact h1
theorem co1_con {x : Cl} {l : List Cl} (hx : validCl x = true) (h : OneV x l) : Con Tryz.prog 92 [.sl 2 (l.map clv)] [] (Is (.b true) []) :=
  cons_con l h.len fun y hy => by
    rcases h with rfl | rfl
    · cases hy
    · rw [List.mem_singleton.1 hy]; exact hx
theorem fp1_con {m : Msg} (hs : sizeT m.t ≤ 1000000000) (h : plainM m = true) : Con Tryz.prog 90 [msv m] [] (Is (.b true) []) := by
  have h1 := fplain_con m hs
  rw [h] at h1
  exact h1
theorem cf_any {x : Cl} {v : Vt} (h : VG x v) : (v.cf.any fun y => !hasC v.acc y) = false := by
  rcases h.nh.of with e | e
  · rw [e]; rfl
  · have h1 := h.fa (by rw [e]; simp)
    rcases h.nh.oa with e2 | e2
    · exact absurd e2 h1
    · rw [e, e2]; simp [hasC]
theorem hs_prev {v : Vt} (h : v.hs.Pairwise fun a b => a.node < b.node) {k : Nat} {m : Msg} (hk : 0 < k) (hm : v.hs[k]? = some m) : ∃ y, v.hs[k - 1]? = some y ∧ y.node < m.node := by
  have hl := (List.getElem?_eq_some_iff.1 hm).1
  refine ⟨v.hs[k - 1], List.getElem?_eq_getElem (by omega), ?_⟩
  have h1 := List.pairwise_iff_getElem.1 h (k - 1) k (by omega) hl (by omega)
  rwa [(List.getElem?_eq_some_iff.1 hm).2] at h1
theorem val1_con (b : Nat) (v : Vt) (x : Cl) : Con Tryz.prog 94 [clv x, .p b 0] [.box b 57 [.i v.node, .i v.seq, .i v.t.th, .sl 1 (v.t.nodes.map .i), .sl 3 (avs v.t.inner), .sl 2 (v.votes.map clv), .sl 2 (v.acc.map clv), .sl 2 (v.cf.map clv), .sl 7 (v.hs.map msv)]] (Is (.b (!hasC v.acc x)) [.box b 57 [.i v.node, .i v.seq, .i v.t.th, .sl 1 (v.t.nodes.map .i), .sl 3 (avs v.t.inner), .sl 2 (v.votes.map clv), .sl 2 (v.acc.map clv), .sl 2 (v.cf.map clv), .sl 7 (v.hs.map msv)]]) := by
  have hcap : capB = 140737488355328 := rfl
  refine con_intro Tryz.func94 rfl Tryz.call94 rfl ?_
  refine zW ?_; refine zW ?_
  refine zBx fun b2 => ?_
  iterate 8 refine zW ?_
  refine aops_call_v zRc (chas_con v.acc x) rfl rfl ?_
  iterate 5 refine zW ?_
  (refine zPi ?_; exact rfl)
theorem vvalid_con (x : Cl) (v : Vt) (h : VG x v) : Con Tryz.prog 57 [vtv v] [] (Is (.b true) []) := by
  have hcap : capB = 140737488355328 := rfl
  have hml : (v.hs.map msv).length = v.hs.length := by simp
  have hn := h.node
  have hsq := h.seq
  have h5 := h.nh.h5
  refine con_intro Tryz.func57 rfl Tryz.call57 rfl ?_
  refine zW ?_; refine zW ?_
  refine zBx fun b1 => ?_
  iterate 10 refine zW ?_
  iterate 17 all_goals first | refine zW ?_ | (refine zG (fun hg => ?_) fun hg => ?_; case' _ => refine zW ?_)
  all_goals first | (refine zY ?_; refine aops_call_v zRc (vt0_con h.vt) rfl rfl ?_) | refine zSk ?_ | (refine zG (fun hg => ?_) fun hg => ?_; case' _ => refine aops_call_v zRc (vt0_con h.vt) rfl rfl ?_)
  iterate 2 all_goals first | refine zW ?_ | (refine zG (fun hg => ?_) fun hg => ?_; case' _ => refine zW ?_)
  all_goals (
    refine zW ?_; refine zW ?_
    refine awp_cond_f rfl zDec ?_
    iterate 7 refine zW ?_
    refine aops_call_v zRc (pl1_con h.nh.vx h.nh.ov) rfl rfl ?_
    refine zW ?_; refine zW ?_
    iterate 2 all_goals first | refine zW ?_ | (refine zG (fun hg => ?_) fun hg => ?_; case' _ => refine zW ?_)
    all_goals first | (refine zY ?_; refine aops_call_v zRc (pl1_con h.nh.vx h.nh.oa) rfl rfl ?_) | refine zSk ?_ | (refine zG (fun hg => ?_) fun hg => ?_; case' _ => refine aops_call_v zRc (pl1_con h.nh.vx h.nh.oa) rfl rfl ?_)
    iterate 5 all_goals first | refine zW ?_ | (refine zG (fun hg => ?_) fun hg => ?_; case' _ => refine zW ?_)
    all_goals first | (refine zY ?_; refine aops_call_v zRc (pl1_con h.nh.vx h.nh.of) rfl rfl ?_) | refine zSk ?_ | (refine zG (fun hg => ?_) fun hg => ?_; case' _ => refine aops_call_v zRc (pl1_con h.nh.vx h.nh.of) rfl rfl ?_)
    iterate 5 all_goals first | refine zW ?_ | (refine zG (fun hg => ?_) fun hg => ?_; case' _ => refine zW ?_)
    all_goals first | (refine zY ?_; refine aops_call_v zRc (co1_con h.nh.vx h.nh.ov) rfl rfl ?_) | refine zSk ?_ | (refine zG (fun hg => ?_) fun hg => ?_; case' _ => refine aops_call_v zRc (co1_con h.nh.vx h.nh.ov) rfl rfl ?_)
    iterate 5 all_goals first | refine zW ?_ | (refine zG (fun hg => ?_) fun hg => ?_; case' _ => refine zW ?_)
    all_goals first | (refine zY ?_; refine aops_call_v zRc (co1_con h.nh.vx h.nh.oa) rfl rfl ?_) | refine zSk ?_ | (refine zG (fun hg => ?_) fun hg => ?_; case' _ => refine aops_call_v zRc (co1_con h.nh.vx h.nh.oa) rfl rfl ?_)
    iterate 2 all_goals first | refine zW ?_ | (refine zG (fun hg => ?_) fun hg => ?_; case' _ => refine zW ?_)
    all_goals (
      refine zW ?_; refine zW ?_
      refine awp_cond_f rfl zDec ?_
      iterate 8 refine zW ?_
      refine aops_call_is zRc (containsFC_con b1 57 [.i v.node, .i v.seq, .i v.t.th, .sl 1 (v.t.nodes.map .i), .sl 3 (avs v.t.inner), .sl 2 (v.votes.map clv), .sl 2 (v.acc.map clv), .sl 2 (v.cf.map clv), .sl 7 (v.hs.map msv)] 94 (fun y => !hasC v.acc y) v.cf (fun y _ => val1_con b1 v y)) zSplit rfl rfl ?_
      refine zW ?_; refine zW ?_
      refine awp_cond_f rfl (cf_any h) ?_
      iterate 7 refine zW ?_
      first | refine zLn fun _ => ?_ | refine zW ?_
      iterate 4 refine zW ?_
      refine awp_loop1 [1, 62, 63] [.box b1 _ _] (fun (k : Nat) r => (64, .i (k : Int)) :: r) (fun k r => r) (fun k => k ≤ v.hs.length) (fun k => v.hs.length - k) (0) zRc (by omega) (zWk) ?_
      intro k hk
      iterate 6 refine zW ?_
      refine zC (fun hc => ?_) fun hc => ?_
      · have hlt : k < v.hs.length := by have := of_decide_eq_true hc; omega
        obtain ⟨m, hm, hd⟩ := drop_cons hlt
        have hm' := getMap msv hm
        have hmm := List.mem_of_getElem? hm
        have hne := (h.pl m hmm).2
        iterate 5 refine zW ?_
        rcases Nat.eq_zero_or_pos k with hk0 | hk0
        case' inr => obtain ⟨y, hy, hyn⟩ := hs_prev h.srt hk0 hm; have hy' := getMap msv hy
        all_goals (
          iterate 4 refine zW ?_
          refine zAl fun b4 => ?_
          iterate 5 refine zW ?_
          refine zDr [] ?_
          refine zT 0 ?_
          refine zOn 1 ?_
          refine aops_call_v zRc (fp1_con (by have := (h.nh.sz.hs m hmm).1; omega) (h.pl m hmm).1) rfl rfl ?_
          refine zW ?_
          refine zT 2 ?_
          refine zT 3 ?_
          refine aany_guard 3 rfl (fun hg => ?_) fun hg => ?_
          rotate_left
          case' _ =>
            first
            | (exact absurd hg (by decide))
            | (exfalso; have h00 := of_decide_eq_true hg; omega)
            | (exfalso; simp at hg; done)
            | (refine zT 4 ?_
               refine zT 5 ?_
               refine zT 6 ?_
               refine zT 7 ?_
               refine zT 8 ?_
               refine zT 9 ?_
               refine zT 10 ?_
               refine aany_guard 10 rfl (fun hg => ?_) fun hg => ?_
               rotate_left
               case' _ =>
                 first
                 | (exact absurd hg (by decide))
                 | (exfalso; have h00 := of_decide_eq_true hg; omega)
                 | (exfalso; simp at hg; done)
                 | (refine zT 11 ?_
                    refine zT 12 ?_
                    refine zT 13 ?_
                    refine aany_guard 13 rfl (fun hg => ?_) fun hg => ?_
                    rotate_left
                    case' _ =>
                      first
                      | (exact absurd hg (by decide))
                      | (exfalso; have h00 := of_decide_eq_true hg; omega)
                      | (exfalso; simp at hg; done)
                      | (refine zK 14 ?_
                         refine zK 15 ?_
                         refine zK 16 ?_
                         refine zK 17 ?_
                         refine zK 18 ?_
                         refine zK 19 ?_
                         refine zK 20 ?_
                         refine zK 21 ?_
                         refine zK 22 ?_
                         refine zK 23 ?_
                         refine zT 24 ?_
                         refine zT 25 ?_
                         refine zW ?_
                        )
                    rotate_right
                    case' _ =>
                      first
                      | (exact absurd hg (by decide))
                      | (exfalso; have h00 := of_decide_eq_true hg; omega)
                      | (exfalso; simp at hg; done)
                      | (refine zT 14 ?_
                         refine zT 15 ?_
                         refine zT 16 ?_
                         refine zT 17 ?_
                         refine aany_take 18 rfl zGd zKr zKr zKr (AP.ar (ap_index (k := k - 1) rfl rfl rfl rfl (by decide) (by omega) (by with_reducible assumption))) rfl rfl ?_
                         refine zT 19 ?_
                         refine zT 20 ?_
                         refine zT 21 ?_
                         refine zT 22 ?_
                         refine zT 23 ?_
                         refine zT 24 ?_
                         refine zT 25 ?_
                         refine zW ?_
                        )
                   )
               rotate_right
               case' _ =>
                 first
                 | (exact absurd hg (by decide))
                 | (exfalso; have h00 := of_decide_eq_true hg; omega)
                 | (exfalso; simp at hg; done)
                 | (refine zK 11 ?_
                    refine zK 12 ?_
                    refine zKu 13 ?_
                    refine zK 14 ?_
                    refine zK 15 ?_
                    refine zK 16 ?_
                    refine zK 17 ?_
                    refine zK 18 ?_
                    refine zK 19 ?_
                    refine zK 20 ?_
                    refine zK 21 ?_
                    refine zK 22 ?_
                    refine zK 23 ?_
                    refine zK 24 ?_
                    refine zT 25 ?_
                    refine zW ?_
                   )
              )
          rotate_right
          case' _ =>
            first
            | (exact absurd hg (by decide))
            | (exfalso; have h00 := of_decide_eq_true hg; omega)
            | (exfalso; simp at hg; done)
            | (refine zK 4 ?_
               refine zK 5 ?_
               refine zK 6 ?_
               refine zK 7 ?_
               refine zK 8 ?_
               refine zT 9 ?_
               refine zT 10 ?_
               refine zK 11 ?_
               refine zK 12 ?_
               refine zKu 13 ?_
               refine zK 14 ?_
               refine zK 15 ?_
               refine zK 16 ?_
               refine zK 17 ?_
               refine zK 18 ?_
               refine zK 19 ?_
               refine zK 20 ?_
               refine zK 21 ?_
               refine zK 22 ?_
               refine zK 23 ?_
               refine zK 24 ?_
               refine zT 25 ?_
               refine zW ?_
              )
          all_goals (
            refine zW ?_
            refine awp_cond_f rfl zDec ?_
            iterate 8 refine zW ?_
            refine ⟨k + 1, by omega, by omega, zWk⟩
            )
          )
      · iterate 11 refine zW ?_
        (refine zPi ?_; exact rfl)
      )
    )
def contra (x y : Cl) : Bool := decide (x.a = y.a) && !decide (x.b = y.b)
theorem contra_one {x : Cl} {l : List Cl} (h : OneV x l) : (l.any fun y => contra x y) = false := by
  rcases h with rfl | rfl
  · rfl
  · simp [contra]
theorem voteM_has {x : Cl} {v : Vt} (ho : OneV x v.votes) (h : hasC v.votes x = true) : voteM x v = v := by
  unfold voteM
  rw [if_neg]
  intro e
  rw [e] at h
  cases h
theorem vote_nil {x : Cl} {v : Vt} (ho : OneV x v.votes) (h : hasC v.votes x = false) : v.votes = [] := by
  rw [ho.has] at h
  have : v.votes.isEmpty = true := by simpa using h
  exact List.isEmpty_iff.1 this
theorem voteM_nil {x : Cl} {v : Vt} (h : v.votes = []) : voteM x v = turn x v { v with votes := [x] } := by
  unfold voteM
  rw [if_pos h]
theorem nh_votes {x : Cl} {v : Vt} (h : NH x v) : NH x { v with votes := [x] } :=
  ⟨⟨h.sz.t, by show [x].length ≤ _; simp, h.sz.acc, h.sz.cf, h.sz.hl, h.sz.hs⟩, h.vx, .inr rfl, h.oa, h.of, h.ho, h.h5⟩
theorem cv1_con {x : Cl} (h : validCl x = true) : Con Tryz.prog 122 [clv x] [] (Is (.b true) []) := by
  have h1 := cvalid_con x
  rw [h] at h1
  exact h1
theorem contra_con (x y : Cl) : Con Tryz.prog 124 [clv x, clv y] [] (Is (.b (contra x y)) []) := by
  have hcap : capB = 140737488355328 := rfl
  refine con_intro Tryz.func124 rfl Tryz.call124 rfl ?_
  refine zW ?_; refine zW ?_
  refine zBx fun b2 => ?_
  refine zBx fun b3 => ?_
  iterate 11 refine zW ?_
  iterate 7 all_goals first | refine zW ?_ | (refine zG (fun hg => ?_) fun hg => ?_; case' _ => refine zW ?_)
  all_goals (
    iterate 3 refine zW ?_
    refine zPi ?_
    unfold contra
    simp only [resD]
    first | (simp_all; done) | (simp_all; omega)
    )
theorem vote1_con (b : Nat) (x y : Cl) : Con Tryz.prog 123 [clv y, .p b 0] [.box b 36 [.i x.a, .i x.b]] (Is (.b (contra x y)) [.box b 36 [.i x.a, .i x.b]]) := by
  have hcap : capB = 140737488355328 := rfl
  refine con_intro Tryz.func123 rfl Tryz.call123 rfl ?_
  refine zW ?_; refine zW ?_
  refine zBx fun b2 => ?_
  iterate 7 refine zW ?_
  refine aops_call_v zRc (contra_con x y) rfl rfl ?_
  iterate 4 refine zW ?_
  (refine zPi ?_; exact rfl)
theorem vote_con (x : Cl) (v : Vt) (h : VG x v) : Con Tryz.prog 86 [vtv v, clv x] [] (Is (.tup [vtv (voteM x v), .i 0]) []) := by
  have hcap : capB = 140737488355328 := rfl
  have hva := contra_one h.nh.ov
  have hac := contra_one h.nh.oa
  have hsq := h.seq
  refine con_intro Tryz.func86 rfl Tryz.call86 rfl ?_
  refine zW ?_; refine zW ?_
  refine zBx fun b2 => ?_
  refine zBx fun b3 => ?_
  refine zAl fun b4 => ?_
  iterate 7 refine zW ?_
  refine aops_call_v zRc (vvalid_con x v h) rfl rfl ?_
  refine zW ?_; refine zW ?_
  all_goals first | refine zW ?_ | (refine zG (fun hg => ?_) fun hg => ?_; case' _ => refine zW ?_)
  all_goals first | (refine zY ?_; refine aops_call_v zRc (cv1_con h.nh.vx) rfl rfl ?_) | refine zSk ?_ | (refine zG (fun hg => ?_) fun hg => ?_; case' _ => refine aops_call_v zRc (cv1_con h.nh.vx) rfl rfl ?_)
  iterate 2 all_goals first | refine zW ?_ | (refine zG (fun hg => ?_) fun hg => ?_; case' _ => refine zW ?_)
  all_goals (
    refine zW ?_; refine zW ?_
    refine awp_cond_f rfl zDec ?_
    iterate 14 refine zW ?_
    refine aops_call_is zRc (containsFC_con b3 36 [.i x.a, .i x.b] 123 (fun y => contra x y) v.votes (fun y _ => vote1_con b3 x y)) zSplit rfl rfl ?_
    refine zW ?_
    iterate 3 all_goals first | refine zW ?_ | (refine zG (fun hg => ?_) fun hg => ?_; case' _ => refine zW ?_)
    all_goals first | (refine zY ?_; refine aops_call_is zRc (containsFC_con b3 36 [.i x.a, .i x.b] 123 (fun y => contra x y) v.acc (fun y _ => vote1_con b3 x y)) zSplit rfl rfl ?_) | refine zSk ?_ | (refine zG (fun hg => ?_) fun hg => ?_; case' _ => refine aops_call_is zRc (containsFC_con b3 36 [.i x.a, .i x.b] 123 (fun y => contra x y) v.acc (fun y _ => vote1_con b3 x y)) zSplit rfl rfl ?_)
    all_goals refine zW ?_
    all_goals (
      refine zW ?_; refine zW ?_
      refine awp_cond_f rfl zDec ?_
      iterate 8 refine zW ?_
      refine aops_call_b zRc (chas_con v.votes x) rfl rfl fun c32 hc32 => ?_
      refine zW ?_; refine zW ?_
      refine zC (fun hc => ?_) fun hc => ?_
      · iterate 3 refine zW ?_
        refine aops_call_v zRc (vfresh_con v h.nh.sz) rfl rfl ?_
        iterate 6 refine zW ?_
        refine zPi ?_
        rw [voteM_has h.nh.ov (hc32.trans hc)]; rfl
      · iterate 5 refine zW ?_
        refine zAl fun b7 => ?_
        iterate 8 refine zW ?_
        refine aops_call_v zRc (put_con v.votes x h.nh.ov h.nh.vx) rfl rfl ?_
        iterate 8 refine zW ?_
        refine aops_call_v zRc (turned_con x v { v with votes := [x] } (nh_votes h.nh) rfl ⟨by show 0 ≤ v.seq; omega, by show v.seq ≤ 1000; omega⟩) rfl rfl ?_
        iterate 5 refine zW ?_
        refine zPi ?_
        rw [voteM_nil (vote_nil h.nh.ov (hc32.trans hc))]; rfl
      )
    )
theorem vstart_con (k : Nat) (hk : k < 10) (t : Trust) (ht : validT t = 0) (hs : sizeT t ≤ 200000) : Con Tryz.prog 50 [.i k, av t] [] (Is (.tup [vtv (newV k t), .i 0]) []) := by
  have hcap : capB = 140737488355328 := rfl
  refine con_intro Tryz.func50 rfl Tryz.call50 rfl ?_
  refine zW ?_; refine zW ?_
  refine zBx fun b3 => ?_
  refine zAl fun b4 => ?_
  iterate 9 refine zW ?_
  iterate 3 all_goals first | refine zW ?_ | (refine zG (fun hg => ?_) fun hg => ?_; case' _ => refine zW ?_)
  all_goals (
    refine zW ?_; refine zW ?_
    refine awp_cond_f rfl zDec ?_
    iterate 6 refine zW ?_
    refine aops_call_v zRc (vt0_con ht) rfl rfl ?_
    iterate 9 refine zW ?_
    refine awp_cond_f rfl zDec ?_
    iterate 6 refine zW ?_
    refine aops_call_v zRc (vtrust_con 200000 (by omega) t hs) rfl rfl ?_
    refine aops_p (AP.up (ap_build zKr rfl zRc zFill) (d' := vtv (newV k t)) (Up.agg (by repeat (first | exact UpL.nil | apply UpL.cons (by first | exact Up.same | exact Up.int | exact Up.nil))))) rfl rfl rfl ?_
    iterate 5 refine zW ?_
    refine zPi ?_
    rfl
    )
theorem hmid {i j : Nat} (h : i + j ≤ 100000) : IntKind.i64.wrap (Int.fdiv (IntKind.u64.wrap ((i : Int) + (j : Int))) (2 ^ 1)) = (((i + j) / 2 : Nat) : Int) := by
  have e1 : IntKind.u64.wrap ((i : Int) + (j : Int)) = ((i + j : Nat) : Int) := by
    simp [IntKind.wrap, IntKind.bits, IntKind.signed]
    omega
  rw [e1]
  have e2 : Int.fdiv ((i + j : Nat) : Int) (2 ^ 1) = (((i + j) / 2 : Nat) : Int) := by
    rw [Int.fdiv_eq_ediv_of_nonneg _ (by decide)]
    omega
  rw [e2]
  simp [IntKind.wrap, IntKind.bits, IntKind.signed]
  omega
theorem cmpZ_lt {a b : Int} (h : decide (cmpZ a b < 0) = true) : a < b := by
  have h1 := of_decide_eq_true h
  unfold cmpZ at h1
  split at h1
  · assumption
  · split at h1 <;> omega
theorem cmpZ_nlt {a b : Int} (h : decide (cmpZ a b < 0) = false) : ¬ a < b := by
  have h1 := of_decide_eq_false h
  intro h2
  apply h1
  unfold cmpZ
  rw [if_pos h2]
  decide
theorem cmpZ_zero {a b : Int} : decide (cmpZ a b = 0) = decide (a = b) := by
  unfold cmpZ
  rcases Int.lt_trichotomy a b with h | h | h
  · rw [if_pos h]; simp; omega
  · subst h; simp
  · rw [if_neg (by omega), if_pos h]; simp; omega
theorem srt_lt {l : List Msg} (hs : l.Pairwise fun a b => a.node < b.node) {i k : Nat} {y z : Msg} (hy : l[i]? = some y) (hz : l[k]? = some z) (h : i < k) : y.node < z.node := by
  have h1 := (List.getElem?_eq_some_iff.1 hy)
  have h2 := (List.getElem?_eq_some_iff.1 hz)
  have h3 := List.pairwise_iff_getElem.1 hs i k h1.1 h2.1 h
  rwa [h1.2, h2.2] at h3
theorem srt_le {l : List Msg} (hs : l.Pairwise fun a b => a.node < b.node) {i k : Nat} {y z : Msg} (hy : l[i]? = some y) (hz : l[k]? = some z) (h : i ≤ k) : y.node ≤ z.node := by
  rcases Nat.lt_or_ge i k with h1 | h1
  · exact Int.le_of_lt (srt_lt hs hy hz h1)
  · obtain rfl : i = k := by omega
    rw [hy] at hz
    cases hz
    exact Int.le_refl _
theorem isAt_none {l : List Msg} {t : Int} {p : Nat} (h : l.length ≤ p) : isAt l t p = false := by
  unfold isAt
  rw [List.getElem?_eq_none h]
theorem isAt_some {l : List Msg} {t : Int} {p : Nat} {y : Msg} (h : l[p]? = some y) : isAt l t p = decide (y.node = t) := by
  unfold isAt
  rw [h]
theorem isAt_get {l : List Msg} {t : Int} {p : Nat} (h : isAt l t p = true) : ∃ y, l[p]? = some y ∧ y.node = t := by
  unfold isAt at h
  cases hy : l[p]? with
  | none => rw [hy] at h; cases h
  | some y => rw [hy] at h; exact ⟨y, rfl, of_decide_eq_true h⟩
theorem hear1_con (m : Msg) (t : Int) : Con Tryz.prog 129 [msv m, .i t] [] (Is (.i (cmpZ m.node t)) []) := by
  have hcap : capB = 140737488355328 := rfl
  refine con_intro Tryz.func129 rfl Tryz.call129 rfl ?_
  refine zW ?_; refine zW ?_
  refine zBx fun b2 => ?_
  iterate 8 refine zW ?_
  refine aops_call_v zRc (cmpi_con m.node t) rfl rfl ?_
  iterate 4 refine zW ?_
  (refine zPi ?_; exact rfl)
theorem bsearch_con (l : List Msg) (hl : l.length ≤ 1000) (hs : l.Pairwise fun a b => a.node < b.node) (t : Int) : Con Tryz.prog 128 [.sl 7 (l.map msv), .i t, .v (.func (.func 129) #[] #[])] [] (fun d H => ∃ p : Nat, d = .tup [.i p, .b (isAt l t p)] ∧ PosR l t p ∧ H = []) := by
  have hcap : capB = 140737488355328 := rfl
  have hml : (l.map msv).length = l.length := by simp
  refine con_intro Tryz.func128 rfl Tryz.call128 rfl ?_
  iterate 9 refine zW ?_
  first | refine zLn fun _ => ?_ | refine zW ?_
  iterate 12 refine zW ?_
  rw [hml]
  refine awp_loop2 [0, 1, 2, 8] [] (fun (i : Nat) (j : Nat) r => (9, .i (i : Int)) :: (10, .i (j : Int)) :: r) (fun i j r => r) (fun i j => i ≤ j ∧ j ≤ l.length ∧ (∀ (a : Nat) y, l[a]? = some y → a < i → y.node < t) ∧ (∀ (a : Nat) y, l[a]? = some y → j ≤ a → ¬ y.node < t)) (fun i j => j - i) (0) (l.length) zRc ⟨by omega, by omega, fun a y _ h => absurd h (by omega), fun a y h h1 => absurd (List.getElem?_eq_some_iff.1 h).1 (by omega)⟩ (zWk) ?_
  intro i j ⟨hij, hj, hlo, hhi⟩
  iterate 8 refine zW ?_
  refine zC (fun hc => ?_) fun hc => ?_
  · have hlt := of_decide_eq_true hc
    iterate 9 refine zW ?_
    refine aops_p (ap_shrw (m := 1) rfl rfl (by decide)) rfl rfl rfl ?_
    iterate 5 refine zW ?_
    rw [hmid (by omega)]
    obtain ⟨hh, hhe⟩ : ∃ hh, (i + j) / 2 = hh := ⟨_, rfl⟩
    rw [hhe]
    obtain ⟨y, hy, hd⟩ := drop_cons (l := l) (k := hh) (by omega)
    have hy' := getMap msv hy
    iterate 7 refine zW ?_
    refine aops_callv_v (caps := []) rfl zRc (hear1_con y t) rfl rfl ?_
    iterate 3 refine zW ?_
    refine zC (fun hc => ?_) fun hc => ?_
    · iterate 7 refine zW ?_
      first
      | (have hlt2 := cmpZ_lt (by with_reducible assumption); refine ⟨hh + 1, j, ⟨by omega, hj, fun a z hz ha => ?_, hhi⟩, by omega, zWk⟩; exact Int.lt_of_le_of_lt (srt_le hs hz hy (by omega)) hlt2)
      | (have hlt2 := cmpZ_nlt (by with_reducible assumption); refine ⟨i, hh, ⟨by omega, by omega, hlo, fun a z hz ha => ?_⟩, by omega, zWk⟩; exact fun h => hlt2 (Int.lt_of_le_of_lt (srt_le hs hy hz ha) h))
    · iterate 6 refine zW ?_
      first
      | (have hlt2 := cmpZ_lt (by with_reducible assumption); refine ⟨hh + 1, j, ⟨by omega, hj, fun a z hz ha => ?_, hhi⟩, by omega, zWk⟩; exact Int.lt_of_le_of_lt (srt_le hs hz hy (by omega)) hlt2)
      | (have hlt2 := cmpZ_nlt (by with_reducible assumption); refine ⟨i, hh, ⟨by omega, by omega, hlo, fun a z hz ha => ?_⟩, by omega, zWk⟩; exact fun h => hlt2 (Int.lt_of_le_of_lt (srt_le hs hy hz ha) h))
  · have hge := of_decide_eq_false hc
    obtain rfl : i = j := by omega
    iterate 6 refine zW ?_
    rcases Nat.lt_or_ge i l.length with hil | hil
    case' inl => obtain ⟨y, hy, hd⟩ := drop_cons (l := l) (k := i) hil; have hy' := getMap msv hy
    all_goals (
      iterate 6 refine zW ?_
      iterate 6 all_goals first | refine zW ?_ | (refine zG (fun hg => ?_) fun hg => ?_; case' _ => refine zW ?_)
      all_goals first | (refine zY ?_; refine aops_callv_v (caps := []) rfl zRc (hear1_con y t) rfl rfl ?_) | refine zSk ?_ | (refine zG (fun hg => ?_) fun hg => ?_; case' _ => refine aops_callv_v (caps := []) rfl zRc (hear1_con y t) rfl rfl ?_)
      iterate 4 all_goals first | refine zW ?_ | (refine zG (fun hg => ?_) fun hg => ?_; case' _ => refine zW ?_)
      all_goals (
        iterate 3 refine zW ?_
        first
        | (refine post_ret (.tmp rfl (.tmp rfl .nil)) zKeep ⟨i, ?_, ⟨hj, hlo, hhi⟩, rfl⟩; rw [isAt_none hil]; rfl)
        | (refine post_ret (.tmp rfl (.tmp rfl .nil)) zKeep ⟨i, ?_, ⟨hj, hlo, hhi⟩, rfl⟩; rw [isAt_some hy]; exact congrArg (fun b => D.tup [D.i (i : Int), .b b]) cmpZ_zero)
        )
      )
theorem insM_con (l : List Msg) (m : Msg) (hl : l.length ≤ 1000) (v : Value) : Con Tryz.prog 131 [.v v, .i l.length, .sl 7 [msv m]] [.arr v 44 7 (l.map msv)] (fun d H => ∃ u, d = .v u ∧ H = [.arr u 44 7 ((l ++ [m]).map msv)]) := by
  have hcap : capB = 140737488355328 := rfl
  have hml : (l.map msv).length = l.length := by simp
  refine con_intro Tryz.func131 rfl Tryz.call131 rfl ?_
  iterate 6 refine zW ?_
  refine awp_arr_case zUpd (fun hv hl0 => ?_) (fun g cap hcp hv => ?_)
  all_goals subst hv
  all_goals (
    iterate 3 refine zW ?_
    first | refine aops_p (ap_slice_own_from (k := l.length) rfl zUpd rfl rfl rfl rfl (by omega)) rfl rfl rfl ?_ | refine aops_p (ap_slice_nil_from rfl rfl rfl rfl (by have h0 := congrArg List.length hl0; rw [hml] at h0; simp only [List.length_nil] at h0; omega)) rfl rfl rfl ?_
    iterate 5 refine zW ?_
    first | refine zLn fun _ => ?_ | refine zW ?_
    iterate 10 refine zW ?_
    refine awp_cond_f rfl (by simp) ?_
    iterate 5 refine zW ?_
    first | refine zLn fun _ => ?_ | refine zW ?_
    iterate 11 refine zW ?_
    refine awp_cond_t rfl (by simp) ?_
    iterate 4 refine zW ?_
    first | refine aops_append (e := 44) (sz := 7) (by_ := 120) rfl zUpd rfl rfl rfl rfl rfl (by simp only [List.length_cons, List.length_nil, List.length_append, List.length_map]; omega) (fun v25 hv25 => ?_) | refine aops_append_nil (e := 44) (sz := 7) (by_ := 120) rfl rfl rfl rfl rfl rfl (by simp only [List.length_cons, List.length_nil, List.length_append, List.length_map]; omega) (fun v25 hv25 => ?_)
    iterate 5 refine zW ?_
    rw [msv_snoc2]
    exact post_ret (.tmp rfl .nil) zKeep ⟨_, rfl, rfl⟩
    )
theorem putR_len (m : Msg) : ∀ l : List Msg, (putR l m).length ≤ l.length + 1
  | [] => by simp [putR]
  | y :: r => by
    have := putR_len m r
    simp only [putR]
    split
    · simp only [List.length_cons]; omega
    · split <;> simp
theorem nh_put {x : Cl} {b : Vt} (h : NH x b) {m : Msg} (hs : sizeT m.t ≤ 200000) (ho : OneV x m.votes ∧ OneV x m.acc) (h4 : b.hs.length ≤ 4) : NH x { b with hs := putR b.hs m } := by
  have h1 := putR_len m b.hs
  refine ⟨⟨h.sz.t, h.sz.votes, h.sz.acc, h.sz.cf, by show (putR b.hs m).length ≤ _; omega, fun z hz => ?_⟩, h.vx, h.ov, h.oa, h.of, fun z hz => ?_, by show (putR b.hs m).length ≤ _; omega⟩
  · rcases putR_mem hz with rfl | hz
    · have h2 := ho.1.len; have h3 := ho.2.len
      exact ⟨hs, by omega, by omega⟩
    · exact h.sz.hs z hz
  · rcases putR_mem hz with rfl | hz
    · exact ho
    · exact h.ho z hz
theorem old_at {l : List Msg} {m y : Msg} {p : Nat} {c : Bool} (hp : PosR l m.node p) (hy : l[p]? = some y) (hn : y.node = m.node) (hc : decide (m.seq ≤ y.seq) = c) : oldR l m = c := by
  rw [oldR_pos hp, hy]
  show (decide (y.node = m.node) && decide (m.seq ≤ y.seq)) = c
  rw [decide_eq_true hn, Bool.true_and, hc]
theorem old_no {l : List Msg} {m : Msg} {p : Nat} (hp : PosR l m.node p) (hi : isAt l m.node p = false) : oldR l m = false := by
  rw [oldR_pos hp]
  unfold isAt at hi
  cases hy : l[p]? with
  | none => rfl
  | some y =>
    rw [hy] at hi
    show (decide (y.node = m.node) && decide (m.seq ≤ y.seq)) = false
    rw [show decide (y.node = m.node) = false from hi, Bool.false_and]
def zVt : Vt := ⟨0, 0, Trust.none, [], [], [], []⟩
def hearD (x : Cl) (b : Vt) (m : Msg) : D := if oldR b.hs m = true then .tup [vtv zVt, .i 9] else .tup [vtv (turn x b { b with hs := putR b.hs m }), .i 0]
theorem hearD_t {x : Cl} {b : Vt} {m : Msg} (h : oldR b.hs m = true) : hearD x b m = .tup [vtv zVt, .i 9] := by unfold hearD; rw [if_pos h]
theorem hearD_f {x : Cl} {b : Vt} {m : Msg} (h : oldR b.hs m = false) : hearD x b m = .tup [vtv (turn x b { b with hs := putR b.hs m }), .i 0] := by unfold hearD; rw [if_neg (by rw [h]; decide)]
theorem hear_con (x : Cl) (b : Vt) (h : VG x b) (m : Msg) (hp : plainM m = true) (hn : m.node ≠ b.node) (hs : sizeT m.t ≤ 200000) (ho : OneV x m.votes ∧ OneV x m.acc) (hf : Fits b.hs m.node) (h4 : b.hs.length ≤ 4) : Con Tryz.prog 87 [vtv b, msv m] [] (Is (hearD x b m) []) := by
  have hcap : capB = 140737488355328 := rfl
  have hml : (b.hs.map msv).length = b.hs.length := by simp
  have hsq := h.seq
  refine con_intro Tryz.func87 rfl Tryz.call87 rfl ?_
  refine zW ?_; refine zW ?_
  refine zBx fun b2 => ?_
  refine zBx fun b3 => ?_
  refine zAl fun b4 => ?_
  iterate 7 refine zW ?_
  refine aops_call_v zRc (vvalid_con x b h) rfl rfl ?_
  refine zW ?_; refine zW ?_
  all_goals first | refine zW ?_ | (refine zG (fun hg => ?_) fun hg => ?_; case' _ => refine zW ?_)
  all_goals first | (refine zY ?_; refine aops_call_v zRc (fp1_con (by omega) hp) rfl rfl ?_) | refine zSk ?_ | (refine zG (fun hg => ?_) fun hg => ?_; case' _ => refine aops_call_v zRc (fp1_con (by omega) hp) rfl rfl ?_)
  iterate 9 all_goals first | refine zW ?_ | (refine zG (fun hg => ?_) fun hg => ?_; case' _ => refine zW ?_)
  all_goals (
    refine zW ?_; refine zW ?_
    refine awp_cond_f rfl zDec ?_
    iterate 8 refine zW ?_
    (refine aops_call zRc (bsearch_con b.hs (by omega) h.srt m.node) zSplit rfl rfl ?_; rintro _ _ ⟨p, rfl, hpos, rfl⟩)
    iterate 9 refine zW ?_
    cases hi : isAt b.hs m.node p
    case' true => obtain ⟨y, hy, hyn⟩ := isAt_get hi; have hy' := getMap msv hy
    all_goals (
      refine zDr [] ?_
      refine zT 0 ?_
      refine zT 1 ?_
      refine aany_guard 1 rfl (fun hg => ?_) fun hg => ?_
      rotate_left
      case' _ =>
        first
        | (exact absurd hg (by decide))
        | (exfalso; simp at hg; done)
        | (refine zK 2 ?_
           refine zK 3 ?_
           refine zK 4 ?_
           refine zK 5 ?_
           refine zK 6 ?_
           refine zK 7 ?_
           refine zK 8 ?_
           refine zK 9 ?_
           refine zK 10 ?_
           refine zT 11 ?_
           refine zW ?_
          )
      rotate_right
      case' _ =>
        first
        | (exact absurd hg (by decide))
        | (exfalso; simp at hg; done)
        | (refine zT 2 ?_
           refine zT 3 ?_
           refine zT 4 ?_
           refine zT 5 ?_
           refine zT 6 ?_
           refine zT 7 ?_
           refine zT 8 ?_
           refine zT 9 ?_
           refine zT 10 ?_
           refine zT 11 ?_
           refine zW ?_
          )
      all_goals (
        refine zW ?_
        refine zC (fun hc => ?_) fun hc => ?_
        · first
          | (exact absurd hc (by decide))
          | (refine zW ?_; refine zW ?_
             refine aops_p (AP.up (ap_build zKr rfl zRc zFill) (d' := vtv zVt) (Up.agg (by repeat (first | exact UpL.nil | apply UpL.cons (by first | exact Up.same | exact Up.int | exact Up.nil))))) rfl rfl rfl ?_
             iterate 6 refine zW ?_
             refine zPi ?_
             rw [hearD_t (old_at hpos hy hyn hc)]; rfl
            )
        · first
          | (exact absurd hc (by decide))
          | (have hold := hc
             iterate 5 refine zW ?_
             refine zAl fun b8 => ?_
             iterate 7 refine zW ?_
             (refine aops_call zRc (clmO_con b.hs (by omega)) zSplit rfl rfl ?_; rintro _ _ ⟨v49, rfl, rfl⟩)
             refine zW ?_
             (refine aops_arr_one (v := v49) zUpd rfl (fun hv49 => ?_); refine zW ?_)
             iterate 8 refine zW ?_
             refine zC (fun hc => ?_) fun hc => ?_
             · first
               | (exact absurd hc (by decide))
               | (have hpl : p < b.hs.length := (List.getElem?_eq_some_iff.1 hy).1
                  refine awp_arr_openc zUpd (by intro e; rw [e] at hy'; cases hy') (fun g cap hcp hv => ?_)
                  subst hv
                  iterate 6 refine zW ?_
                  refine aops_store_ownF (off := 0) rfl rfl zFlat zUpd rfl hy' zRc ?_
                  iterate 3 refine zW ?_
                  first
                  | (rw [show D.agg [.i m.node, .i m.seq, .i m.t.th, .sl 1 (m.t.nodes.map .i), .sl 3 (avs m.t.inner), .sl 2 (m.votes.map clv), .sl 2 (m.acc.map clv)] = msv m from rfl, ← List.map_set, ← putR_set hpos hi]; refine awp_freeze (.slice (some ⟨g, 0, none⟩) (b.hs.map msv).length cap) [2,4,8] zRem zSelC zHeapA ?_)
                  | (rw [← putR_end hall]; refine awp_freeze u62 [2,4,8] zRem zSelC zHeapA ?_)
                  iterate 3 refine zW ?_
                  refine aops_call_v zRc (turned_con x b { b with hs := putR b.hs m } (nh_put h.nh hs ho h4) rfl ⟨by show 0 ≤ b.seq; omega, by show b.seq ≤ 1000; omega⟩) rfl rfl ?_
                  iterate 5 refine zW ?_
                  refine zPi ?_
                  first | (rw [hearD_f (old_at hpos hy hyn hold)]; rfl) | (rw [hearD_f (old_no hpos hi)]; rfl)
                 )
             · first
               | (exact absurd hc (by decide))
               | (obtain ⟨rfl, hall⟩ := Fits.last hf hpos h.srt hi
                  iterate 5 refine zW ?_
                  refine aops_lit (e := 44) (sz := 7) (by_ := 120) rfl rfl zRc rfl rfl rfl rfl ?_
                  (refine aops_call zRc (insM_con b.hs m (by omega) v49) zSplit rfl rfl ?_; rintro _ _ ⟨u62, rfl, rfl⟩)
                  refine zW ?_
                  (refine aops_arr_one (v := u62) zUpd rfl (fun hv62 => ?_); refine zW ?_)
                  iterate 3 refine zW ?_
                  first
                  | (rw [show D.agg [.i m.node, .i m.seq, .i m.t.th, .sl 1 (m.t.nodes.map .i), .sl 3 (avs m.t.inner), .sl 2 (m.votes.map clv), .sl 2 (m.acc.map clv)] = msv m from rfl, ← List.map_set, ← putR_set hpos hi]; refine awp_freeze (.slice (some ⟨g, 0, none⟩) (b.hs.map msv).length cap) [2,4,8] zRem zSelC zHeapA ?_)
                  | (rw [← putR_end hall]; refine awp_freeze u62 [2,4,8] zRem zSelC zHeapA ?_)
                  iterate 3 refine zW ?_
                  refine aops_call_v zRc (turned_con x b { b with hs := putR b.hs m } (nh_put h.nh hs ho h4) rfl ⟨by show 0 ≤ b.seq; omega, by show b.seq ≤ 1000; omega⟩) rfl rfl ?_
                  iterate 5 refine zW ?_
                  refine zPi ?_
                  first | (rw [hearD_f (old_at hpos hy hyn hold)]; rfl) | (rw [hearD_f (old_no hpos hi)]; rfl)
                 )
            )
        )
      )
    )
theorem indexFM_con (b7 ty7 : Nat) (d7 : List D) (f : FuncId) (p : Msg → Bool) (l : List Msg) (hf : ∀ k, k ∈ l → Con Tryz.prog f [msv k, .p b7 0] [.box b7 ty7 d7] (Is (.b (p k)) [.box b7 ty7 d7])) : Con Tryz.prog 96 [.sl 7 (l.map msv), .v (.func (.func f) #[] #[.pointer (some ⟨b7, 0, none⟩)])] [.box b7 ty7 d7] (fun d H => ∃ r : Int, d = .i r ∧ decide (0 ≤ r) = l.any p ∧ (l.any p = false → r = -1) ∧ H = [.box b7 ty7 d7]) := by
  have hcap : capB = 140737488355328 := rfl
  have hl1 : (l.map msv).length = l.length := by simp
  refine con_intro Tryz.func96 rfl Tryz.call96 rfl ?_
  iterate 9 refine zW ?_
  first | refine zLn fun _ => ?_ | refine zW ?_
  iterate 4 refine zW ?_
  refine awp_loop1 [0, 1, 7] [] (fun (k : Nat) r => (8, .i (k : Int)) :: r) (fun k r => .box b7 ty7 d7 :: r) (fun k => k ≤ l.length ∧ (l.drop k).any p = l.any p) (fun k => l.length - k) (0) zRc ⟨by omega, by simp⟩ (zWk) ?_
  intro k ⟨hk, hI⟩
  iterate 6 refine zW ?_
  refine zC (fun hc => ?_) fun hc => ?_
  · have hlt : k < l.length := by have := of_decide_eq_true hc; omega
    obtain ⟨x, hx, hd⟩ := drop_cons hlt
    have hx' := getMap msv hx
    rw [hd] at hI
    iterate 17 refine zW ?_
    (refine aops_callv (caps := [.pointer (some ⟨b7, 0, none⟩)]) rfl zRc (hf x (List.mem_of_getElem? hx)) zSplit rfl rfl ?_; rintro _ _ ⟨rfl, rfl⟩; obtain ⟨c16, hc16⟩ : ∃ b, b = p x := ⟨_, rfl⟩; rw [← hc16])
    refine zW ?_; refine zW ?_
    refine zC (fun hc => ?_) fun hc => ?_
    · iterate 12 refine zW ?_
      refine post_ret (.tmp rfl .nil) zKeep ⟨_, rfl, ?_, ?_, rfl⟩
      all_goals rw [any_t (hc16.symm.trans hc)] at hI
      · rw [← hI]; exact decide_eq_true (by omega)
      · intro h; rw [← hI] at h; cases h
    · iterate 8 refine zW ?_
      rw [any_f (hc16.symm.trans hc)] at hI
      refine ⟨k + 1, ⟨by omega, hI⟩, by omega, zWk⟩
  · have hge : l.length ≤ k := by have := of_decide_eq_false hc; omega
    rw [drop_nil hge] at hI
    iterate 11 refine zW ?_
    refine post_ret (.tmp rfl .nil) zKeep ⟨_, rfl, ?_, fun _ => rfl, rfl⟩
    rw [← hI]; rfl
theorem containsFM_con (b7 ty7 : Nat) (d7 : List D) (f : FuncId) (p : Msg → Bool) (l : List Msg) (hf : ∀ k, k ∈ l → Con Tryz.prog f [msv k, .p b7 0] [.box b7 ty7 d7] (Is (.b (p k)) [.box b7 ty7 d7])) : Con Tryz.prog 59 [.sl 7 (l.map msv), .v (.func (.func f) #[] #[.pointer (some ⟨b7, 0, none⟩)])] [.box b7 ty7 d7] (Is (.b (l.any p)) [.box b7 ty7 d7]) := by
  have hcap : capB = 140737488355328 := rfl
  refine con_intro Tryz.func59 rfl Tryz.call59 rfl ?_
  iterate 9 refine zW ?_
  (refine aops_call zRc (indexFM_con b7 ty7 d7 f p l hf) zSplit rfl rfl ?_; rintro _ _ ⟨r, rfl, hr, _, rfl⟩)
  iterate 5 refine zW ?_
  refine zPi ?_
  rw [← hr]; rfl
theorem ains_con (t : Trust) (n : Nat) (hn : n ≤ 10) (h : uses t < 2 ^ n) : Con Tryz.prog 58 [av t, .i n] [] (Is (.b true) []) := by
  have hcap : capB = 140737488355328 := rfl
  have h10 := pow_le10 hn
  refine con_intro Tryz.func58 rfl Tryz.call58 rfl ?_
  refine zW ?_; refine zW ?_
  refine zBx fun b2 => ?_
  iterate 4 refine zW ?_
  refine zDr [] ?_
  refine zT 0 ?_
  refine zT 2 ?_
  refine aany_take 3 rfl zGd zKr zKr zKr (AP.ar (ap_shl (p := 1) rfl rfl rfl (by omega) (by omega))) rfl rfl ?_
  refine zOn 1 ?_
  refine aops_call_v zRc (uses_con t) rfl rfl ?_
  refine zW ?_
  refine zT 4 ?_
  refine zT 5 ?_
  refine zW ?_
  all_goals (
    refine zW ?_; refine zW ?_
    (refine zPi ?_; refine (congrArg D.b (decide_eq_true ?_)))
    omega
    )
theorem aval1_con (b : Nat) (n : Nat) (hn : n ≤ 10) (m : Msg) (h1 : m.node < (n : Int)) (h2 : uses m.t < 2 ^ n) : Con Tryz.prog 60 [msv m, .p b 0] [.box b 3 [.i n]] (Is (.b false) [.box b 3 [.i n]]) := by
  have hcap : capB = 140737488355328 := rfl
  refine con_intro Tryz.func60 rfl Tryz.call60 rfl ?_
  refine zW ?_; refine zW ?_
  refine zBx fun b2 => ?_
  iterate 10 refine zW ?_
  iterate 3 all_goals first | refine zW ?_ | (refine zG (fun hg => ?_) fun hg => ?_; case' _ => refine zW ?_)
  all_goals first | (refine zY ?_; refine aops_call_v zRc (ains_con m.t n hn h2) rfl rfl ?_) | refine zSk ?_ | (refine zG (fun hg => ?_) fun hg => ?_; case' _ => refine aops_call_v zRc (ains_con m.t n hn h2) rfl rfl ?_)
  iterate 3 all_goals first | refine zW ?_ | (refine zG (fun hg => ?_) fun hg => ?_; case' _ => refine zW ?_)
  all_goals (
    iterate 3 refine zW ?_
    (refine zPi ?_; exact rfl)
    )
theorem asc_len : ∀ (l : List Nat) (lo n : Nat), l.Pairwise (fun a b => a < b) → (∀ x ∈ l, lo ≤ x ∧ x < n) → l.length ≤ n - lo
  | [], lo, n, _, _ => by simp
  | x :: r, lo, n, h, hb => by
    rw [List.pairwise_cons] at h
    have h1 := hb x (List.mem_cons_self ..)
    have h2 := asc_len r (x + 1) n h.2 fun y hy => ⟨h.1 y hy, (hb y (List.mem_cons_of_mem _ hy)).2⟩
    simp only [List.length_cons]
    omega
theorem hs_len {l : List Msg} {k n : Nat} (hk : k < n) (hs : l.Pairwise fun a b => a.node < b.node) (h : ∀ m ∈ l, ∃ j : Nat, j < n ∧ j ≠ k ∧ m.node = j) : l.length ≤ n - 1 := by
  have h1 := asc_len (l.map fun m => if m.node.toNat > k then m.node.toNat - 1 else m.node.toNat) 0 (n - 1) (by
    rw [List.pairwise_map]
    refine hs.imp_of_mem fun {a b} ha hb hab => ?_
    obtain ⟨i, hi, hik, hia⟩ := h a ha
    obtain ⟨j, hj, hjk, hjb⟩ := h b hb
    have e1 : a.node.toNat = i := by rw [hia]; rfl
    have e2 : b.node.toNat = j := by rw [hjb]; rfl
    rw [e1, e2]
    split <;> split <;> omega) (by
    intro y hy
    obtain ⟨m, hm, rfl⟩ := List.mem_map.1 hy
    obtain ⟨i, hi, hik, hia⟩ := h m hm
    have e1 : m.node.toNat = i := by rw [hia]; rfl
    rw [e1]
    split <;> omega)
  rw [List.length_map] at h1
  omega
theorem vi_vg {c : List Mem} {x : Cl} {k : Nat} {v : Vt} (hc : Cfg c) (hx : validCl x = true) (h5 : c.length ≤ 5) (hk : k < c.length) (h : VI c x k v) : VG x v ∧ v.hs.length ≤ 4 := by
  have hl : v.hs.length ≤ c.length - 1 := hs_len hk h.srt fun m hm => by
    obtain ⟨j, h1, h2, h3, _⟩ := h.hs m hm
    exact ⟨j, h1, h2, h3⟩
  have hsz : ∀ j : Nat, j < c.length → sizeT (tOf c j) ≤ 200 := fun j hj => by
    have h1 := hc.size _ (List.getElem_mem hj)
    rwa [← tOf_get (List.getElem?_eq_getElem hj)] at h1
  have hp := VI.plain hc hx hk h
  have hov := h.ov.len; have hoa := h.oa.len; have hof := h.of.len; have hsq := h.seq
  have hlen := hc.len
  refine ⟨⟨⟨⟨by rw [h.t]; have := hsz k hk; omega, by omega, by omega, by omega, by omega, fun m hm => ?_⟩, hx, h.ov, h.oa, h.of, fun m hm => ?_, by omega⟩, by rw [h.node]; omega, by omega, by rw [h.t]; exact (hc.at hk).1, h.fa, fun m hm => ⟨hp m (by unfold lM; exact List.mem_append_left _ hm), ?_⟩, h.srt⟩, by omega⟩
  · obtain ⟨j, h1, _, _, h4, h6, h7, _⟩ := h.hs m hm
    have h8 := h6.len; have h9 := h7.len
    rw [h4]
    have := hsz j h1
    exact ⟨by omega, by omega, by omega⟩
  · obtain ⟨j, _, _, _, _, h6, h7, _⟩ := h.hs m hm
    exact ⟨h6, h7⟩
  · obtain ⟨j, _, h2, h3, _⟩ := h.hs m hm
    rw [h3, h.node]
    omega
theorem mi_vg {c : List Mem} {x : Cl} {m : Mt} {k : Nat} {v : Vt} (hc : Cfg c) (hx : validCl x = true) (h5 : c.length ≤ 5) (h : MI c x m) (hv : m.vs[k]? = some v) : VG x v ∧ v.hs.length ≤ 4 := by
  refine vi_vg hc hx h5 ?_ (h.vi k v hv)
  rw [← h.len]
  exact (List.getElem?_eq_some_iff.1 hv).1
theorem vi_in {c : List Mem} {x : Cl} {k : Nat} {v : Vt} (hc : Cfg c) (hk : k < c.length) (h : VI c x k v) : uses v.t < 2 ^ c.length := by
  rw [h.t]
  exact (hc.at hk).2.1
theorem vi_in2 {c : List Mem} {x : Cl} {k : Nat} {v : Vt} (hc : Cfg c) (h : VI c x k v) : ∀ m ∈ v.hs, m.node < (c.length : Int) ∧ uses m.t < 2 ^ c.length := by
  intro m hm
  obtain ⟨j, h1, _, h3, h4, _⟩ := h.hs m hm
  rw [h3, h4]
  exact ⟨by omega, (hc.at h1).2.1⟩
theorem avalid_con (c : List Mem) (hC : Cfg c) (h5 : c.length ≤ 5) (x : Cl) (hx : validCl x = true) (m : Mt) (hI : MI c x m) : Con Tryz.prog 25 [mtv m] [] (Is (.b true) []) := by
  have hcap : capB = 140737488355328 := rfl
  have hvl : (m.vs.map vtv).length = m.vs.length := by simp
  have hcl := hI.len
  have hl10 := hC.len
  have h10 := pow_le10 hC.len.2
  have hst := hI.st
  have hpw : 2 ^ (m.vs.map vtv).length = 2 ^ c.length := by rw [hvl, hcl]
  have hvc : (m.vs.map vtv).length = c.length := by rw [hvl, hcl]
  have hvc2 : (((m.vs.map vtv).length : Nat) : Int) = ((c.length : Nat) : Int) := by rw [hvc]
  refine con_intro Tryz.func25 rfl Tryz.call25 rfl ?_
  refine zW ?_; refine zW ?_
  refine zBx fun b1 => ?_
  iterate 7 refine zW ?_
  first | refine zLn fun _ => ?_ | refine zW ?_
  refine zAl fun b3 => ?_
  iterate 5 refine zW ?_
  rw [hvc2]
  refine zDr [] ?_
  refine zT 0 ?_
  refine zT 1 ?_
  refine zT 2 ?_
  refine aany_guard 2 rfl (fun hg => ?_) fun hg => ?_
  rotate_left
  case' _ =>
    first
    | (exact absurd hg (by decide))
    | (exfalso; have h00 := of_decide_eq_true hg; omega)
    | (exfalso; simp at hg; done)
    | (refine zT 3 ?_
       refine zT 4 ?_
       refine zT 5 ?_
       refine zT 6 ?_
       refine aany_guard 6 rfl (fun hg => ?_) fun hg => ?_
       rotate_left
       case' _ =>
         first
         | (exact absurd hg (by decide))
         | (exfalso; have h00 := of_decide_eq_true hg; omega)
         | (exfalso; simp at hg; done)
         | (refine zT 7 ?_
            refine zT 8 ?_
            refine zT 9 ?_
            refine zT 10 ?_
            refine zT 11 ?_
            refine aany_guard 11 rfl (fun hg => ?_) fun hg => ?_
            rotate_left
            case' _ =>
              first
              | (exact absurd hg (by decide))
              | (exfalso; have h00 := of_decide_eq_true hg; omega)
              | (exfalso; simp at hg; done)
              | (refine zT 12 ?_
                 refine zT 13 ?_
                 refine zT 14 ?_
                 refine aany_take 15 rfl zGd zKr zKr zKr (AP.ar (ap_shl (p := 1) rfl rfl rfl (by omega) (by omega))) rfl rfl ?_
                 refine zT 16 ?_
                 refine zT 17 ?_
                 refine zT 18 ?_
                 refine aany_guard 18 rfl (fun hg => ?_) fun hg => ?_
                 rotate_left
                 case' _ =>
                   first
                   | (exact absurd hg (by decide))
                   | (exfalso; have h00 := of_decide_eq_true hg; omega)
                   | (exfalso; simp at hg; done)
                   | (refine zT 19 ?_
                      refine zT 20 ?_
                      refine zT 21 ?_
                      refine zT 22 ?_
                      refine zT 23 ?_
                      refine aany_guard 23 rfl (fun hg => ?_) fun hg => ?_
                      rotate_left
                      case' _ =>
                        first
                        | (exact absurd hg (by decide))
                        | (exfalso; have h00 := of_decide_eq_true hg; omega)
                        | (exfalso; simp at hg; done)
                        | (refine zT 24 ?_
                           refine zT 25 ?_
                           refine zT 26 ?_
                           refine aany_take 27 rfl zGd zKr zKr zKr (AP.ar (ap_shl (p := 1) rfl rfl rfl (by omega) (by omega))) rfl rfl ?_
                           refine zT 28 ?_
                           refine zT 29 ?_
                           refine zT 30 ?_
                           refine aany_guard 30 rfl (fun hg => ?_) fun hg => ?_
                           rotate_left
                           case' _ =>
                             first
                             | (exact absurd hg (by decide))
                             | (exfalso; have h00 := of_decide_eq_true hg; omega)
                             | (exfalso; simp at hg; done)
                             | (refine zT 31 ?_
                                refine zT 32 ?_
                                refine zT 33 ?_
                                refine zT 34 ?_
                                refine aany_take 35 rfl zGd zKr zKr zKr (AP.ar (ap_bits (p := 0) rfl rfl rfl (by omega) (by omega))) rfl rfl ?_
                                refine zT 36 ?_
                                refine zT 37 ?_
                                refine zW ?_
                               )
                           rotate_right
                           case' _ =>
                             first
                             | (exact absurd hg (by decide))
                             | (exfalso; have h00 := of_decide_eq_true hg; omega)
                             | (exfalso; simp at hg; done)
                             | (refine zK 31 ?_
                                refine zK 32 ?_
                                refine zK 33 ?_
                                refine zK 34 ?_
                                refine zK 35 ?_
                                refine zK 36 ?_
                                refine zT 37 ?_
                                refine zW ?_
                               )
                          )
                      rotate_right
                      case' _ =>
                        first
                        | (exact absurd hg (by decide))
                        | (exfalso; have h00 := of_decide_eq_true hg; omega)
                        | (exfalso; simp at hg; done)
                        | (refine zK 24 ?_
                           refine zK 25 ?_
                           refine zK 26 ?_
                           refine zK 27 ?_
                           refine zK 28 ?_
                           refine zT 29 ?_
                           refine zT 30 ?_
                           refine zK 31 ?_
                           refine zK 32 ?_
                           refine zK 33 ?_
                           refine zK 34 ?_
                           refine zK 35 ?_
                           refine zK 36 ?_
                           refine zT 37 ?_
                           refine zW ?_
                          )
                     )
                 rotate_right
                 case' _ =>
                   first
                   | (exact absurd hg (by decide))
                   | (exfalso; have h00 := of_decide_eq_true hg; omega)
                   | (exfalso; simp at hg; done)
                   | (refine zK 19 ?_
                      refine zK 20 ?_
                      refine zK 21 ?_
                      refine zT 22 ?_
                      refine zT 23 ?_
                      refine zK 24 ?_
                      refine zK 25 ?_
                      refine zK 26 ?_
                      refine zK 27 ?_
                      refine zK 28 ?_
                      refine zT 29 ?_
                      refine zT 30 ?_
                      refine zK 31 ?_
                      refine zK 32 ?_
                      refine zK 33 ?_
                      refine zK 34 ?_
                      refine zK 35 ?_
                      refine zK 36 ?_
                      refine zT 37 ?_
                      refine zW ?_
                     )
                )
            rotate_right
            case' _ =>
              first
              | (exact absurd hg (by decide))
              | (exfalso; have h00 := of_decide_eq_true hg; omega)
              | (exfalso; simp at hg; done)
              | (refine zK 12 ?_
                 refine zK 13 ?_
                 refine zK 14 ?_
                 refine zK 15 ?_
                 refine zK 16 ?_
                 refine zT 17 ?_
                 refine zT 18 ?_
                 refine zK 19 ?_
                 refine zK 20 ?_
                 refine zK 21 ?_
                 refine zT 22 ?_
                 refine zT 23 ?_
                 refine zK 24 ?_
                 refine zK 25 ?_
                 refine zK 26 ?_
                 refine zK 27 ?_
                 refine zK 28 ?_
                 refine zT 29 ?_
                 refine zT 30 ?_
                 refine zK 31 ?_
                 refine zK 32 ?_
                 refine zK 33 ?_
                 refine zK 34 ?_
                 refine zK 35 ?_
                 refine zK 36 ?_
                 refine zT 37 ?_
                 refine zW ?_
                )
           )
       rotate_right
       case' _ =>
         first
         | (exact absurd hg (by decide))
         | (exfalso; have h00 := of_decide_eq_true hg; omega)
         | (exfalso; simp at hg; done)
         | (refine zK 7 ?_
            refine zK 8 ?_
            refine zK 9 ?_
            refine zT 10 ?_
            refine zT 11 ?_
            refine zK 12 ?_
            refine zK 13 ?_
            refine zK 14 ?_
            refine zK 15 ?_
            refine zK 16 ?_
            refine zT 17 ?_
            refine zT 18 ?_
            refine zK 19 ?_
            refine zK 20 ?_
            refine zK 21 ?_
            refine zT 22 ?_
            refine zT 23 ?_
            refine zK 24 ?_
            refine zK 25 ?_
            refine zK 26 ?_
            refine zK 27 ?_
            refine zK 28 ?_
            refine zT 29 ?_
            refine zT 30 ?_
            refine zK 31 ?_
            refine zK 32 ?_
            refine zK 33 ?_
            refine zK 34 ?_
            refine zK 35 ?_
            refine zK 36 ?_
            refine zT 37 ?_
            refine zW ?_
           )
      )
  rotate_right
  case' _ =>
    first
    | (exact absurd hg (by decide))
    | (exfalso; have h00 := of_decide_eq_true hg; omega)
    | (exfalso; simp at hg; done)
    | (refine zK 3 ?_
       refine zK 4 ?_
       refine zT 5 ?_
       refine zT 6 ?_
       refine zK 7 ?_
       refine zK 8 ?_
       refine zK 9 ?_
       refine zT 10 ?_
       refine zT 11 ?_
       refine zK 12 ?_
       refine zK 13 ?_
       refine zK 14 ?_
       refine zK 15 ?_
       refine zK 16 ?_
       refine zT 17 ?_
       refine zT 18 ?_
       refine zK 19 ?_
       refine zK 20 ?_
       refine zK 21 ?_
       refine zT 22 ?_
       refine zT 23 ?_
       refine zK 24 ?_
       refine zK 25 ?_
       refine zK 26 ?_
       refine zK 27 ?_
       refine zK 28 ?_
       refine zT 29 ?_
       refine zT 30 ?_
       refine zK 31 ?_
       refine zK 32 ?_
       refine zK 33 ?_
       refine zK 34 ?_
       refine zK 35 ?_
       refine zK 36 ?_
       refine zT 37 ?_
       refine zW ?_
      )
  all_goals (
    refine zW ?_
    refine awp_cond_f rfl (by simp) ?_
    iterate 7 refine zW ?_
    first | refine zLn fun _ => ?_ | refine zW ?_
    iterate 4 refine zW ?_
    refine awp_loop1 [3, 48, 49] [.box b1 _ _, .box b3 _ _] (fun (k : Nat) r => (50, .i (k : Int)) :: r) (fun k r => r) (fun k => k ≤ m.vs.length) (fun k => m.vs.length - k) (0) zRc (by omega) (zWk) ?_
    intro k hk
    iterate 6 refine zW ?_
    refine zC (fun hc => ?_) fun hc => ?_
    · have hlt : k < m.vs.length := by have := of_decide_eq_true hc; omega
      obtain ⟨v, hv, hd⟩ := drop_cons hlt
      have hv' := getMap vtv hv
      have hvi := hI.vi k v hv
      have hvn := hvi.node
      have hvn2 : (!decide (v.node = (k : Int))) = false := by simp [hvn]
      have hkc : k < c.length := by omega
      iterate 9 refine zW ?_
      refine zAl fun b5 => ?_
      iterate 12 refine zW ?_
      all_goals first | refine zW ?_ | (refine zG (fun hg => ?_) fun hg => ?_; case' _ => refine zW ?_)
      all_goals first | (refine zY ?_; refine aops_call_v zRc (vvalid_con x v (mi_vg hC hx h5 hI hv).1) rfl rfl ?_) | refine zSk ?_ | (refine zG (fun hg => ?_) fun hg => ?_; case' _ => refine aops_call_v zRc (vvalid_con x v (mi_vg hC hx h5 hI hv).1) rfl rfl ?_)
      iterate 6 all_goals first | refine zW ?_ | (refine zG (fun hg => ?_) fun hg => ?_; case' _ => refine zW ?_)
      all_goals first | (refine zY ?_; refine aops_call_v zRc (ains_con v.t c.length hC.len.2 (vi_in hC hkc hvi)) rfl rfl ?_) | refine zSk ?_ | (refine zG (fun hg => ?_) fun hg => ?_; case' _ => refine aops_call_v zRc (ains_con v.t c.length hC.len.2 (vi_in hC hkc hvi)) rfl rfl ?_)
      iterate 2 all_goals first | refine zW ?_ | (refine zG (fun hg => ?_) fun hg => ?_; case' _ => refine zW ?_)
      all_goals (
        refine zW ?_; refine zW ?_
        refine awp_cond_f rfl zDec ?_
        iterate 7 refine zW ?_
        refine aops_call_is zRc (containsFM_con b3 3 [.i (c.length : Int)] 60 (fun _ => false) v.hs (fun y hy => aval1_con b3 c.length hC.len.2 y (vi_in2 hC hvi y hy).1 (vi_in2 hC hvi y hy).2)) zSplit rfl rfl ?_
        refine zW ?_; refine zW ?_
        refine awp_cond_f rfl (by simp) ?_
        iterate 8 refine zW ?_
        refine ⟨k + 1, by omega, by omega, zWk⟩
        )
    · iterate 11 refine zW ?_
      (refine zPi ?_; exact rfl)
    )
def plyD (kind fr to : Int) (x : Cl) : D := .agg [.i kind, .i fr, .i to, .i x.a, .i x.b, .i 0, .sl 1 [], .sl 3 [], .i 0, .i 0, .i 0, .sl 1 [], .sl 3 [], .sl 2 [], .sl 2 []]
def zMt : Mt := ⟨[], 0⟩
theorem hasn_con {s k : Nat} (hs : s < 1024) (hk : k < 10) : Con Tryz.prog 48 [.i (s : Int), .i (k : Int)] [] (Is (.b (s.testBit k)) []) := by
  have h := has_con (s : Int) (k : Int)
  have e : has (s : Int) (k : Int) = s.testBit k := by
    rw [Bool.eq_iff_iff, has_iff hs, Int.toNat_natCast]
    exact ⟨fun h => h.2.2, fun h => ⟨by omega, by omega, h⟩⟩
  rwa [e] at h
theorem has0_con {k : Nat} (hk : k < 10) : Con Tryz.prog 48 [.i 0, .i (k : Int)] [] (Is (.b false) []) := by
  have h := hasn_con (s := 0) (k := k) (by omega) hk
  rwa [Nat.zero_testBit] at h
theorem hasor_con {s k : Nat} (hs : s < 1024) (hk : k < 10) : Con Tryz.prog 48 [.i ((0 ||| s : Nat) : Int), .i (k : Int)] [] (Is (.b (s.testBit k)) []) := by
  rw [Nat.zero_or]
  exact hasn_con hs hk
theorem tgf_con (k : Int) (h2 : ¬ k = 2) (h5 : ¬ k = 5) : Con Tryz.prog 85 [.i k] [] (Is (.b false) []) := by
  have hcap : capB = 140737488355328 := rfl
  refine con_intro Tryz.func85 rfl Tryz.call85 rfl ?_
  iterate 10 refine zW ?_
  iterate 4 all_goals first | refine zW ?_ | (refine zG (fun hg => ?_) fun hg => ?_; case' _ => refine zW ?_)
  all_goals (
    iterate 3 refine zW ?_
    (refine zPi ?_; exact (congrArg D.b (decide_eq_false h5)))
    )
theorem tgt_con : Con Tryz.prog 85 [.i 2] [] (Is (.b true) []) := by
  have hcap : capB = 140737488355328 := rfl
  refine con_intro Tryz.func85 rfl Tryz.call85 rfl ?_
  iterate 10 refine zW ?_
  iterate 4 all_goals first | refine zW ?_ | (refine zG (fun hg => ?_) fun hg => ?_; case' _ => refine zW ?_)
  all_goals (
    iterate 3 refine zW ?_
    (refine zPi ?_; exact rfl)
    )
end Go.Proofs.YtmolbagfkdbdnaaGreatDoor
