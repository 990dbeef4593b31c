/- Walks: each says what one function of the program answers, for the arguments that its statement names. No condition beyond what each theorem says. -/
import Derived.Test.YtmolbagfkdbdnaaGreatDoorTopSilentW1
import Derived.Test.YtmolbagfkdbdnaaGreatDoorProg
import Derived.KernelRfl
import Derived.Tactics
import Derived.Tactics2
import Derived.StillTactics
import Derived.Shelf.SlSortCmp.Whole1
import Derived.Shelf.SlSortCmp.NoneTotal
import Derived.Shelf.Strconv.Atoi
set_option linter.unusedVariables false
set_option linter.unusedSimpArgs false
set_option maxRecDepth 4000
set_option maxHeartbeats 2000000
namespace Go.Proofs.YtmolbagfkdbdnaaGreatDoor
open Go Go.Av Go.Tq
theorem rof_con (l : List Int) : Con Tryz.prog 103 [.sl 1 (l.map .i)] [] (Is (.tup [.i (ofGo 0 l).1, .i (ofGo 0 l).2]) []) := by
  have hcap : capB = 140737488355328 := rfl
  have hl1 : (l.map D.i).length = l.length := by simp
  refine con_intro Tryz.func103 rfl Tryz.call103 rfl ?_
  iterate 15 refine zW ?_
  first | refine zLn fun _ => ?_ | refine zW ?_
  iterate 4 refine zW ?_
  refine awp_loop2 [7, 8] [] (fun (k : Nat) (s : Nat) r => (4, .i (s : Int)) :: (9, .i (k : Int)) :: r) (fun k s r => r) (fun k s => k ≤ l.length ∧ s < 1024 ∧ ofGo s (l.drop k) = ofGo 0 l) (fun k s => l.length - k) (0) (0) zRc ⟨by omega, by omega, by simp⟩ (zWk) ?_
  intro k s ⟨hk, hs, hI⟩
  iterate 6 refine zW ?_
  refine zC (fun hc => ?_) fun hc => ?_
  · have hlt : k < l.length := by have := of_decide_eq_true hc; omega
    obtain ⟨x, hx, hd⟩ := drop_cons hlt
    have hx' := getMap D.i hx
    iterate 17 refine zW ?_
    iterate 3 all_goals first | refine zW ?_ | (refine zG (fun hg => ?_) fun hg => ?_; case' _ => refine zW ?_)
    all_goals (
      refine zW ?_; refine zW ?_
      refine zC (fun hc => ?_) fun hc => ?_
      · first
        | (exact absurd hc (by decide))
        | (iterate 13 refine zW ?_
           refine post_is (.tmp rfl (.tmp rfl .nil)) .nil ?_
           rw [hd, ofGo, if_pos (by first | (have := of_decide_eq_true hg; omega) | (have := of_decide_eq_true hc; omega))] at hI
           rw [← hI]; rfl
          )
      · first
        | (exact absurd hc (by decide))
        | (have hc2 := hc
           iterate 7 refine zW ?_
           refine aops_call_v zRc (rhas_con _ _) rfl rfl ?_
           refine zW ?_; refine zW ?_
           refine zC (fun hc => ?_) fun hc => ?_
           · iterate 13 refine zW ?_
             refine post_is (.tmp rfl (.tmp rfl .nil)) .nil ?_
             have h3 := of_decide_eq_false hg
             have h4 := of_decide_eq_false hc2
             rw [hd, ofGo, if_neg (by omega), if_pos hc] at hI
             rw [← hI]; rfl
           · refine zW ?_; refine zW ?_
             obtain ⟨q, rfl, hq⟩ := badN_f hg hc2
             have hp2 := pow_lt10 hq
             iterate 3 refine zW ?_
             refine aops_p (ap_shl (p := 1) rfl rfl rfl (by omega) (by omega)) rfl rfl rfl ?_
             iterate 10 refine zW ?_
             rw [hd, ofGo, if_neg (by omega), if_neg (by simp [hc])] at hI
             refine ⟨k + 1, s ||| 1 * 2 ^ q, ⟨by omega, or_lt10 hs hq, ?_⟩, by omega, zWk⟩
             simpa using hI
          )
      )
  · have hge : l.length ≤ k := by have := of_decide_eq_false hc; omega
    rw [drop_nil hge] at hI; simp only [ofGo] at hI
    iterate 13 refine zW ?_
    refine post_is (.tmp rfl (.tmp rfl .nil)) .nil ?_
    rw [← hI]; rfl
theorem any_of_get {l : List Int} {k : Nat} {x : Int} (h : l[k]? = some x) (hx : badN x = true) : l.any badN = true :=
  List.any_eq_true.2 ⟨x, List.mem_of_getElem? h, hx⟩
theorem any_drop_f {x : Int} {r : List Int} (h1 : decide (x < 0) = false) (h2 : decide (10 ≤ x) = false) : (x :: r).any badN = r.any badN := by
  simp [badN, h1, h2]
theorem rcheck_con : ∀ (t : Trust), Con Tryz.prog 70 [av t] [] (Is (.i (checkT t)) []) := by
  have hcap : capB = 140737488355328 := rfl
  intro t
  induction t using Trust.ind with
  | _ t ih =>
    have hl1 : (t.nodes.map D.i).length = t.nodes.length := by simp
    have hl2 := avs_len t.inner
    refine con_intro Tryz.func70 rfl Tryz.call70 rfl ?_
    refine zW ?_; refine zW ?_
    refine zBx fun b1 => ?_
    iterate 10 refine zW ?_
    iterate 4 all_goals first | refine zW ?_ | (refine zG (fun hg => ?_) fun hg => ?_; case' _ => refine zW ?_)
    all_goals first | (refine zY ?_; (first | refine zLn fun _ => ?_ | refine zW ?_)) | refine zSk ?_ | (refine zG (fun hg => ?_) fun hg => ?_; case' _ => (first | refine zLn fun _ => ?_ | refine zW ?_))
    iterate 2 all_goals first | refine zW ?_ | (refine zG (fun hg => ?_) fun hg => ?_; case' _ => refine zW ?_)
    all_goals first | (refine zY ?_; (first | refine zLn fun _ => ?_ | refine zW ?_)) | refine zSk ?_ | (refine zG (fun hg => ?_) fun hg => ?_; case' _ => (first | refine zLn fun _ => ?_ | refine zW ?_))
    iterate 3 all_goals first | refine zW ?_ | (refine zG (fun hg => ?_) fun hg => ?_; case' _ => refine zW ?_)
    all_goals (
      refine zW ?_; refine zW ?_
      refine zC (fun hc => ?_) fun hc => ?_
      · first
        | (exact absurd hc (by decide))
        | (iterate 7 refine zW ?_
           refine post_is (.tmp rfl .nil) .nil ?_
           simp only [resD, checkT]; rw [if_pos (by first | (have := of_decide_eq_true hg; omega) | (have := of_decide_eq_true hc; omega))]
          )
      · first
        | (exact absurd hc (by decide))
        | (have hth : ¬ (t.th < 1 ∨ (t.nodes.length + t.inner.length : Int) < t.th) := by have h1 := of_decide_eq_false hg; have h2 := of_decide_eq_false hc; omega
           iterate 7 refine zW ?_
           first | refine zLn fun _ => ?_ | refine zW ?_
           iterate 4 refine zW ?_
           refine awp_loop1 [1, 26, 27] [.box b1 _ _] (fun (k : Nat) r => (28, .i (k : Int)) :: r) (fun k r => r) (fun k => k ≤ t.nodes.length ∧ (t.nodes.drop k).any badN = t.nodes.any badN) (fun k => t.nodes.length - k) (0) zRc ⟨by omega, by simp⟩ (zWk) ?_
           intro k ⟨hk, hI⟩
           iterate 6 refine zW ?_
           refine zC (fun hc => ?_) fun hc => ?_
           · have hlt : k < t.nodes.length := by have := of_decide_eq_true hc; omega
             obtain ⟨x, hx, hd⟩ := drop_cons hlt
             have hx' := getMap D.i hx
             iterate 16 refine zW ?_
             iterate 3 all_goals first | refine zW ?_ | (refine zG (fun hg => ?_) fun hg => ?_; case' _ => refine zW ?_)
             all_goals (
               refine zW ?_; refine zW ?_
               refine zC (fun hc => ?_) fun hc => ?_
               · first
                 | (exact absurd hc (by decide))
                 | (iterate 11 refine zW ?_
                    refine post_is (.tmp rfl .nil) .nil ?_
                    simp only [resD, checkT]; rw [if_neg hth, if_pos (any_of_get hx (by first | (simp only [badN, hg]; rfl) | (simp only [badN, hc, Bool.or_true])))]
                   )
               · first
                 | (exact absurd hc (by decide))
                 | (have hc2 := hc
                    iterate 8 refine zW ?_
                    rw [hd, any_drop_f hg hc2] at hI
                    refine ⟨k + 1, ⟨by omega, hI⟩, by omega, zWk⟩
                   )
               )
           · have hge : t.nodes.length ≤ k := by have := of_decide_eq_false hc; omega
             rw [drop_nil hge] at hI; simp only [List.any_nil] at hI
             have hany : t.nodes.any badN = false := hI.symm
             iterate 10 refine zW ?_
             refine aops_call_v zRc (rof_con _) rfl rfl ?_
             iterate 13 refine zW ?_
             refine zC (fun hc => ?_) fun hc => ?_
             · have he := hc
               iterate 8 refine zW ?_
               refine post_is (.tmp rfl .nil) .nil ?_
               simp only [resD, checkT]; rw [if_neg hth, if_neg (by rw [hany]; simp), if_pos (by simpa using he)]
             · have he := hc
               iterate 7 refine zW ?_
               first | refine zLn fun _ => ?_ | refine zW ?_
               iterate 4 refine zW ?_
               refine awp_loop1 [49, 50] [] (fun (k : Nat) r => (51, .i (k : Int)) :: r) (fun k r => r) (fun k => k ≤ t.inner.length ∧ checkL (t.inner.drop k) = checkL t.inner) (fun k => t.inner.length - k) (0) zRc ⟨by omega, by simp⟩ (zWk) ?_
               intro k ⟨hk, hI⟩
               iterate 6 refine zW ?_
               refine zC (fun hc => ?_) fun hc => ?_
               · have hlt : k < t.inner.length := by have := of_decide_eq_true hc; omega
                 obtain ⟨x, hx, hd⟩ := drop_cons hlt
                 have hx' := avs_get hx
                 have hxm := List.mem_of_getElem? hx
                 iterate 8 refine zW ?_
                 refine zAl fun b8 => ?_
                 iterate 6 refine zW ?_
                 refine aops_call_v zRc (ih _ hxm) rfl rfl ?_
                 iterate 9 refine zW ?_
                 refine zC (fun hc => ?_) fun hc => ?_
                 · iterate 12 refine zW ?_
                   refine post_is (.tmp rfl .nil) .nil ?_
                   rw [hd, checkL_cons, if_pos (by simpa using hc)] at hI
                   have e : checkT t = checkL t.inner := by unfold checkT; rw [if_neg hth, if_neg (by rw [hany]; simp), if_neg (by simpa using he)]
                   simp only [resD]; rw [e, ← hI]
                 · iterate 8 refine zW ?_
                   have hz := of_decide_eq_true (Bool.not_eq_false' .. ▸ hc)
                   rw [hd, checkL_cons, if_neg (by simpa using hz)] at hI
                   refine ⟨k + 1, ⟨by omega, hI⟩, by omega, zWk⟩
               · have hge : t.inner.length ≤ k := by have := of_decide_eq_false hc; omega
                 rw [drop_nil hge] at hI; simp only [checkL] at hI
                 iterate 11 refine zW ?_
                 refine post_is (.tmp rfl .nil) .nil ?_
                 have e : checkT t = checkL t.inner := by unfold checkT; rw [if_neg hth, if_neg (by rw [hany]; simp), if_neg (by simpa using he)]
                 simp only [resD]; rw [e, ← hI]
          )
      )
theorem rvalidT_con (t : Trust) (ht : sizeT t ≤ 1000000000) : Con Tryz.prog 34 [av t] [] (Is (.i (validT t)) []) := by
  have hcap : capB = 140737488355328 := rfl
  refine con_intro Tryz.func34 rfl Tryz.call34 rfl ?_
  refine zW ?_; refine zW ?_
  refine zBx fun b1 => ?_
  iterate 7 refine zW ?_
  refine aops_call_v zRc (rdepth_con 1000000000 (by omega) t ht) rfl rfl ?_
  refine zW ?_; refine zW ?_
  all_goals first | refine zW ?_ | (refine zG (fun hg => ?_) fun hg => ?_; case' _ => refine zW ?_)
  all_goals first | (refine zY ?_; refine aops_call_v zRc (rsize_con 1000000000 (by omega) t ht) rfl rfl ?_) | refine zSk ?_ | (refine zG (fun hg => ?_) fun hg => ?_; case' _ => refine aops_call_v zRc (rsize_con 1000000000 (by omega) t ht) rfl rfl ?_)
  iterate 2 all_goals first | refine zW ?_ | (refine zG (fun hg => ?_) fun hg => ?_; case' _ => refine zW ?_)
  all_goals (
    refine zW ?_; refine zW ?_
    refine zC (fun hc => ?_) fun hc => ?_
    · first
      | (exact absurd hc (by decide))
      | (iterate 7 refine zW ?_
         refine post_is (.tmp rfl .nil) .nil ?_
         simp only [resD, validT]; rw [if_pos (by first | (have := of_decide_eq_true hg; omega) | (have := of_decide_eq_true hc; omega))]
        )
    · first
      | (exact absurd hc (by decide))
      | (iterate 5 refine zW ?_
         refine aops_call_v zRc (rcheck_con t) rfl rfl ?_
         iterate 4 refine zW ?_
         refine post_is (.tmp rfl .nil) .nil ?_
         simp only [resD, validT]; rw [if_neg (by have h1 := of_decide_eq_false hg; have h2 := of_decide_eq_false hc; omega)]
        )
    )
theorem node_con (k : Int) : Con Tryz.prog 108 [.i k] [] (Is (.b (nd k)) []) := by
  have hcap : capB = 140737488355328 := rfl
  refine con_intro Tryz.func108 rfl Tryz.call108 rfl ?_
  iterate 10 refine zW ?_
  iterate 4 all_goals first | refine zW ?_ | (refine zG (fun hg => ?_) fun hg => ?_; case' _ => refine zW ?_)
  all_goals (
    iterate 3 refine zW ?_
    refine post_is (.tmp rfl .nil) .nil ?_
    first | (simp_all [resD, nd]; done) | (simp_all [resD, nd]; omega)
    )
theorem Clone_con (l : List Int) (hl : l.length ≤ 1000000) : Con Tryz.prog 40 [.sl 1 (l.map .i)] [] (Is (.sl 1 (l.map .i)) []) := by
  have hcap : capB = 140737488355328 := rfl
  have hl1 : (l.map D.i).length = l.length := by simp
  refine con_intro Tryz.func40 rfl Tryz.call40 rfl ?_
  iterate 9 refine zW ?_
  refine aops_eqnil rfl rfl rfl rfl rfl (fun c4 hnil4 => ?_)
  refine zW ?_; refine zW ?_
  refine zC (fun hc => ?_) fun hc => ?_
  · iterate 5 refine zW ?_
    have e : l = [] := by simpa using hnil4 hc
    subst e
    refine awp_wk (env' := [(2, .sl 1 [])]) (H' := []) (wk_nil (by repeat (first | exact .nil | refine .cons rfl (by first | exact Cv.same | exact Cv.fz | exact Cv.nil | (refine Cv.agg ?_; repeat (first | exact CvL.nil | refine CvL.cons (by first | exact Cv.same | exact Cv.fz | exact Cv.nil) ?_))) ?_)) .nil) ?_
    refine zW ?_; refine zW ?_
    refine post_is (.tmp rfl .nil) .nil ?_
    rfl
  · iterate 4 refine zW ?_
    refine aops_own (e := 3) (sz := 1) (by_ := 8) rfl rfl zRc rfl rfl rfl rfl (fun v5 hv5 => ?_)
    refine zW ?_
    first | refine aops_append (e := 3) (sz := 1) (by_ := 8) rfl zUpd rfl rfl rfl rfl rfl (by simp only [List.length_cons, List.length_nil, List.length_append, List.length_map, avs_len]; omega) (fun v7 hv7 => ?_) | refine aops_append_nil (e := 3) (sz := 1) (by_ := 8) rfl rfl rfl rfl rfl rfl (by simp only [List.length_cons, List.length_nil, List.length_append, List.length_map, avs_len]; omega) (fun v7 hv7 => ?_)
    iterate 3 refine zW ?_
    refine zFz v7 [2] ?_
    refine zW ?_
    refine post_is (.tmp rfl .nil) .nil ?_
    rfl
theorem uses_con : ∀ (t : Trust), Con Tryz.prog 74 [av t] [] (Is (.i (uses t : Int)) []) := by
  have hcap : capB = 140737488355328 := rfl
  intro t
  induction t using Trust.ind with
  | _ t ih =>
    have hl1 : (t.nodes.map D.i).length = t.nodes.length := by simp
    have hl2 := avs_len t.inner
    refine con_intro Tryz.func74 rfl Tryz.call74 rfl ?_
    refine zW ?_; refine zW ?_
    refine zBx fun b1 => ?_
    iterate 13 refine zW ?_
    first | refine zLn fun _ => ?_ | refine zW ?_
    iterate 4 refine zW ?_
    refine awp_loop2 [1, 9, 10] [.box b1 _ _] (fun (k : Nat) (s : Nat) r => (3, .i (s : Int)) :: (11, .i (k : Int)) :: r) (fun k s r => r) (fun k s => k ≤ t.nodes.length ∧ s < 1024 ∧ usesN s (t.nodes.drop k) = usesN 0 t.nodes) (fun k s => t.nodes.length - k) (0) (0) zRc ⟨by omega, by omega, by simp⟩ (zWk) ?_
    intro k s ⟨hk, hs, hI⟩
    iterate 6 refine zW ?_
    refine zC (fun hc => ?_) fun hc => ?_
    · have hlt : k < t.nodes.length := by have := of_decide_eq_true hc; omega
      obtain ⟨x, hx, hd⟩ := drop_cons hlt
      have hx' := getMap D.i hx
      iterate 14 refine zW ?_
      refine aops_call_v zRc (node_con _) rfl rfl ?_
      refine zW ?_; refine zW ?_
      refine zC (fun hc => ?_) fun hc => ?_
      · have hx01 : 0 ≤ x ∧ x < 10 := by simpa [nd] using hc
        have hnd : nd x = true := by simp [nd]; omega
        obtain ⟨q, rfl⟩ := Int.eq_ofNat_of_zero_le hx01.1
        have hq : q < 10 := by omega
        have hp2 := pow_lt10 hq
        have hIt := hI
        rw [hd, usesN, if_pos hnd] at hIt
        iterate 3 refine zW ?_
        refine aops_p (ap_shl (p := 1) rfl rfl rfl (by omega) (by omega)) rfl rfl rfl ?_
        iterate 10 refine zW ?_
        first
        | (refine ⟨k + 1, s, ⟨by omega, hs, hIf⟩, by omega, zWk⟩)
        | (refine ⟨k + 1, s ||| 1 * 2 ^ q, ⟨by omega, or_lt10 hs hq, by simpa using hIt⟩, by omega, zWk⟩)
      · have hIf := hI
        rw [hd, usesN, if_neg (by first | (unfold nd; simp only [hg, Bool.false_and]; decide) | (unfold nd; simp only [hc, Bool.and_false]; decide) | (simp only [hc]; decide))] at hIf
        iterate 8 refine zW ?_
        first
        | (refine ⟨k + 1, s, ⟨by omega, hs, hIf⟩, by omega, zWk⟩)
        | (refine ⟨k + 1, s ||| 1 * 2 ^ q, ⟨by omega, or_lt10 hs hq, by simpa using hIt⟩, by omega, zWk⟩)
    · have hge : t.nodes.length ≤ k := by have := of_decide_eq_false hc; omega
      rw [drop_nil hge] at hI; simp only [usesN] at hI
      iterate 10 refine zW ?_
      first | refine zLn fun _ => ?_ | refine zW ?_
      iterate 4 refine zW ?_
      refine awp_loop2 [23, 24] [] (fun (k : Nat) (s : Nat) r => (3, .i (s : Int)) :: (25, .i (k : Int)) :: r) (fun k s r => r) (fun k s => k ≤ t.inner.length ∧ s < 1024 ∧ usesL s (t.inner.drop k) = uses t) (fun k s => t.inner.length - k) (0) (s) zRc ⟨by omega, hs, by simp [uses, ← hI]⟩ (zWk) ?_
      intro k s ⟨hk, hs, hI⟩
      iterate 6 refine zW ?_
      refine zC (fun hc => ?_) fun hc => ?_
      · have hlt : k < t.inner.length := by have := of_decide_eq_true hc; omega
        obtain ⟨x, hx, hd⟩ := drop_cons hlt
        have hx' := avs_get hx
        have hxm := List.mem_of_getElem? hx
        have hux := uses_lt x
        iterate 8 refine zW ?_
        refine zAl fun b7 => ?_
        iterate 6 refine zW ?_
        refine aops_call_v zRc (ih _ hxm) rfl rfl ?_
        iterate 10 refine zW ?_
        rw [hd, usesL_cons] at hI
        refine ⟨k + 1, s ||| uses x, ⟨by omega, Nat.or_lt_two_pow (n := 10) hs (uses_lt x), hI⟩, by omega, zWk⟩
      · have hge : t.inner.length ≤ k := by have := of_decide_eq_false hc; omega
        rw [drop_nil hge] at hI; simp only [usesL] at hI
        iterate 12 refine zW ?_
        refine post_is (.tmp rfl .nil) .nil ?_
        rw [hI]; rfl
theorem ruses_con : ∀ (t : Trust), Con Tryz.prog 35 [av t] [] (Is (.i (uses t : Int)) []) := by
  have hcap : capB = 140737488355328 := rfl
  intro t
  induction t using Trust.ind with
  | _ t ih =>
    have hl1 : (t.nodes.map D.i).length = t.nodes.length := by simp
    have hl2 := avs_len t.inner
    refine con_intro Tryz.func35 rfl Tryz.call35 rfl ?_
    refine zW ?_; refine zW ?_
    refine zBx fun b1 => ?_
    iterate 13 refine zW ?_
    first | refine zLn fun _ => ?_ | refine zW ?_
    iterate 4 refine zW ?_
    refine awp_loop2 [1, 9, 10] [.box b1 _ _] (fun (k : Nat) (s : Nat) r => (3, .i (s : Int)) :: (11, .i (k : Int)) :: r) (fun k s r => r) (fun k s => k ≤ t.nodes.length ∧ s < 1024 ∧ usesN s (t.nodes.drop k) = usesN 0 t.nodes) (fun k s => t.nodes.length - k) (0) (0) zRc ⟨by omega, by omega, by simp⟩ (zWk) ?_
    intro k s ⟨hk, hs, hI⟩
    iterate 6 refine zW ?_
    refine zC (fun hc => ?_) fun hc => ?_
    · have hlt : k < t.nodes.length := by have := of_decide_eq_true hc; omega
      obtain ⟨x, hx, hd⟩ := drop_cons hlt
      have hx' := getMap D.i hx
      iterate 16 refine zW ?_
      iterate 3 all_goals first | refine zW ?_ | (refine zG (fun hg => ?_) fun hg => ?_; case' _ => refine zW ?_)
      all_goals (
        refine zW ?_; refine zW ?_
        refine zC (fun hc => ?_) fun hc => ?_
        · first
          | (exact absurd hc (by decide))
          | (have hx01 : 0 ≤ x ∧ x < 10 := by have h1 := of_decide_eq_true hc; have h2 := of_decide_eq_true hg; omega
             have hnd : nd x = true := by simp [nd]; omega
             obtain ⟨q, rfl⟩ := Int.eq_ofNat_of_zero_le hx01.1
             have hq : q < 10 := by omega
             have hp2 := pow_lt10 hq
             have hIt := hI
             rw [hd, usesN, if_pos hnd] at hIt
             iterate 3 refine zW ?_
             refine aops_p (ap_shl (p := 1) rfl rfl rfl (by omega) (by omega)) rfl rfl rfl ?_
             iterate 10 refine zW ?_
             first
             | (refine ⟨k + 1, s, ⟨by omega, hs, hIf⟩, by omega, zWk⟩)
             | (refine ⟨k + 1, s ||| 1 * 2 ^ q, ⟨by omega, or_lt10 hs hq, by simpa using hIt⟩, by omega, zWk⟩)
            )
        · first
          | (exact absurd hc (by decide))
          | (have hIf := hI
             rw [hd, usesN, if_neg (by first | (unfold nd; simp only [hg, Bool.false_and]; decide) | (unfold nd; simp only [hc, Bool.and_false]; decide) | (simp only [hc]; decide))] at hIf
             iterate 8 refine zW ?_
             first
             | (refine ⟨k + 1, s, ⟨by omega, hs, hIf⟩, by omega, zWk⟩)
             | (refine ⟨k + 1, s ||| 1 * 2 ^ q, ⟨by omega, or_lt10 hs hq, by simpa using hIt⟩, by omega, zWk⟩)
            )
        )
    · have hge : t.nodes.length ≤ k := by have := of_decide_eq_false hc; omega
      rw [drop_nil hge] at hI; simp only [usesN] at hI
      iterate 10 refine zW ?_
      first | refine zLn fun _ => ?_ | refine zW ?_
      iterate 4 refine zW ?_
      refine awp_loop2 [27, 28] [] (fun (k : Nat) (s : Nat) r => (3, .i (s : Int)) :: (29, .i (k : Int)) :: r) (fun k s r => r) (fun k s => k ≤ t.inner.length ∧ s < 1024 ∧ usesL s (t.inner.drop k) = uses t) (fun k s => t.inner.length - k) (0) (s) zRc ⟨by omega, hs, by simp [uses, ← hI]⟩ (zWk) ?_
      intro k s ⟨hk, hs, hI⟩
      iterate 6 refine zW ?_
      refine zC (fun hc => ?_) fun hc => ?_
      · have hlt : k < t.inner.length := by have := of_decide_eq_true hc; omega
        obtain ⟨x, hx, hd⟩ := drop_cons hlt
        have hx' := avs_get hx
        have hxm := List.mem_of_getElem? hx
        have hux := uses_lt x
        iterate 8 refine zW ?_
        refine zAl fun b7 => ?_
        iterate 6 refine zW ?_
        refine aops_call_v zRc (ih _ hxm) rfl rfl ?_
        iterate 10 refine zW ?_
        rw [hd, usesL_cons] at hI
        refine ⟨k + 1, s ||| uses x, ⟨by omega, Nat.or_lt_two_pow (n := 10) hs (uses_lt x), hI⟩, by omega, zWk⟩
      · have hge : t.inner.length ≤ k := by have := of_decide_eq_false hc; omega
        rw [drop_nil hge] at hI; simp only [usesL] at hI
        iterate 12 refine zW ?_
        refine post_is (.tmp rfl .nil) .nil ?_
        rw [hI]; rfl
/-- What the maker of trusts promises: nodes below n, of bounded size and depth. -/
def GT (n m : Nat) (t : Trust) : Prop := nb n t ∧ sizeT t ≤ 8 * 4 ^ m ∧ depthT t ≤ m + 1
theorem sizeL_le : ∀ (l : List Trust) (c : Nat), (∀ x ∈ l, sizeT x ≤ c) → sizeL l ≤ l.length * c
  | [], c, _ => by simp [sizeL]
  | t :: r, c, h => by
    have h1 := h t (List.mem_cons_self ..)
    have h2 := sizeL_le r c (fun x hx => h x (List.mem_cons_of_mem _ hx))
    rw [sizeL_cons, List.length_cons, Nat.add_mul, Nat.one_mul]
    omega
theorem depthL_le : ∀ (l : List Trust) (c : Nat), (∀ x ∈ l, depthT x ≤ c) → depthL l ≤ c
  | [], c, _ => by simp [depthL]
  | t :: r, c, h => by
    have h1 := h t (List.mem_cons_self ..)
    have h2 := depthL_le r c (fun x hx => h x (List.mem_cons_of_mem _ hx))
    rw [depthL_cons]
    omega
theorem GT_leaf {n m : Nat} {th : Int} {q : List Int} (h : ∀ k ∈ q, 0 ≤ k ∧ k < (n : Int)) (hl : q.length ≤ 5) : GT n m (.mk th q []) := by
  refine ⟨⟨h, trivial⟩, ?_, ?_⟩
  · have : 0 < 4 ^ m := Nat.pow_pos (by omega)
    simp only [sizeT, Trust.nodes, Trust.inner, sizeL, List.length_nil]
    omega
  · simp [depthT, Trust.inner, depthL]
theorem GT_node {n m : Nat} {th : Int} {q : List Int} {q2 : List Trust} (h : ∀ k ∈ q, 0 ≤ k ∧ k < (n : Int)) (hl : q.length ≤ 5) (h2 : ∀ x ∈ q2, GT n m x) (hl2 : q2.length ≤ 3) : GT n (m + 1) (.mk th q q2) := by
  refine ⟨⟨h, (nbL_iff _ _).2 fun x hx => (h2 x hx).1⟩, ?_, ?_⟩
  · have h3 := sizeL_le q2 _ (fun x hx => (h2 x hx).2.1)
    have h4 : q2.length * (8 * 4 ^ m) ≤ 3 * (8 * 4 ^ m) := Nat.mul_le_mul_right _ hl2
    have : 0 < 4 ^ m := Nat.pow_pos (by omega)
    simp only [sizeT, Trust.nodes, Trust.inner]
    rw [Nat.pow_succ]
    omega
  · have h3 := depthL_le q2 _ (fun x hx => (h2 x hx).2.2)
    simp only [depthT, Trust.inner]
    omega
theorem snoc_mem {α : Type} {p : α → Prop} {q : List α} {x : α} (h : ∀ y ∈ q, p y) (hx : p x) : ∀ y ∈ q ++ [x], p y := fun y hy => by
  rcases List.mem_append.1 hy with hy | hy
  · exact h y hy
  · obtain rfl : y = x := by simpa using hy
    exact hx
theorem trust0_con (b n : Nat) (l : List Int) (hn : 1 ≤ n ∧ n ≤ 10) (a : Nat) : Con Tryz.prog 65 [.p b 0, .i n, .i 1] [.box b 62 [.sl 1 (l.map .i), .i ((a : Nat) : Int)]] (fun d H => ∃ (t : Trust) (a' : Nat), d = av t ∧ GT n 0 t ∧ H = [.box b 62 [.sl 1 (l.map .i), .i ((a' : Nat) : Int)]]) := by
  have hcap : capB = 140737488355328 := rfl
  refine con_intro Tryz.func65 rfl Tryz.call65 rfl ?_
  refine zW ?_; refine zW ?_
  refine zAl fun b6 => ?_
  iterate 4 refine zW ?_
  refine zAl fun b7 => ?_
  iterate 6 refine zW ?_
  (refine aops_call zRc (Order_con _ _ _ n (by omega)) zSplit rfl rfl ?_; rintro _ _ ⟨ql, a14, rfl, hqp, rfl⟩)
  iterate 10 refine zW ?_
  (refine aops_call zRc (Range_con _ _ _ _ _ (by omega)) zSplit rfl rfl ?_; rintro _ _ ⟨r19, a19, rfl, hr19, rfl⟩)
  obtain ⟨j, rfl⟩ := Int.eq_ofNat_of_zero_le (show 0 ≤ r19 by omega); have hqll : ql.length = n := (by rw [hqp.length_eq, upTo_len]); refine aops_p (ap_slice_to (k := j) rfl rfl rfl rfl rfl (by simp only [List.length_map]; omega)) rfl rfl rfl ?_; rw [← List.map_take]; obtain ⟨qs, hqs⟩ : ∃ qs, qs = ql.take j := ⟨_, rfl⟩; rw [← hqs]; have hqsl : qs.length = j := (by rw [hqs]; simp; omega)
  first | refine zLn fun _ => ?_ | refine zW ?_
  iterate 4 refine zW ?_
  refine awp_loop3 [0, 1, 2, 6, 7, 20, 21] [.box b6 _ _, .box b _ _] (fun (k : Nat) (v : Value) (q : List Int) r => (22, .i (k : Int)) :: r) (fun k v q r => .box b7 41 [.i 0, .v v, .nil] :: .arr v 3 1 (q.map .i) :: r) (fun k v q => k ≤ j ∧ q = qs.take k) (fun k v q => j - k) (0) (.slice none 0 0) ([]) zRc ⟨by omega, by simp⟩ ((wk_own 3 1 rfl).trans (zWk)) ?_
  intro k v q ⟨hk, hI⟩
  have hql : q.length = k := by rw [hI]; simp; omega
  iterate 6 refine zW ?_
  refine zC (fun hc => ?_) fun hc => ?_
  · have hlt : k < qs.length := by have := of_decide_eq_true hc; simp only [List.length_map] at this; omega
    obtain ⟨x, hx, hd⟩ := drop_cons hlt
    have hx' := getMap D.i hx
    iterate 15 refine zW ?_
    refine aops_lit (e := 3) (sz := 1) (by_ := 8) rfl rfl zRc rfl rfl rfl rfl ?_
    first | refine aops_append (e := 3) (sz := 1) (by_ := 8) rfl zUpd rfl rfl rfl rfl rfl (by simp only [List.length_cons, List.length_nil, List.length_append, List.length_map, avs_len]; omega) (fun v30 hv30 => ?_) | refine aops_append_nil (e := 3) (sz := 1) (by_ := 8) rfl rfl rfl rfl rfl rfl (by simp only [List.length_cons, List.length_nil, List.length_append, List.length_map, avs_len]; omega) (fun v30 hv30 => ?_)
    iterate 10 refine zW ?_
    rw [mapi_snoc]
    refine ⟨k + 1, _, _, ⟨by omega, ?_⟩, by omega, zWk⟩
    rw [hI, List.take_add_one, hx]; rfl
  · have hge : j ≤ k := by have := of_decide_eq_false hc; simp only [List.length_map] at this; omega
    obtain rfl : q = qs := by rw [hI]; exact List.take_of_length_le (by omega)
    have hqm : ∀ k ∈ q, 0 ≤ k ∧ k < (n : Int) := fun k hk => upTo_mem (hqp.subset (by rw [hqs] at hk; exact List.mem_of_mem_take hk))
    iterate 12 refine zW ?_
    refine awp_cond_f rfl zDec ?_
    iterate 3 refine zW ?_
    have hml : (q.map D.i).length = q.length := by simp
    iterate 4 refine zW ?_
    first | refine zLn fun _ => ?_ | refine zW ?_
    refine zW ?_; refine zW ?_
    first | refine zLn fun _ => ?_ | refine zW ?_
    refine zW ?_
    (refine aops_call zRc (Range_con _ _ _ _ _ (by omega)) zSplit rfl rfl ?_; rintro _ _ ⟨r70, a70, rfl, hr70, rfl⟩)
    iterate 10 refine zW ?_
    refine awp_own 41 3 rfl ?_; refine zFz (.slice none 0 0) [6,7] ?_; refine zFz v [6,7] ?_
    refine zW ?_
    exact post_ret (.cell rfl zUpd rfl rfl .nil) zKeep ⟨.mk _ q [], _, rfl, GT_leaf hqm (by omega), rfl⟩
theorem trust_con (b n : Nat) (l : List Int) (hn : 1 ≤ n ∧ n ≤ 10) : ∀ (m a : Nat), m ≤ 5 → Con Tryz.prog 65 [.p b 0, .i n, .i ((m : Int) + 1)] [.box b 62 [.sl 1 (l.map .i), .i ((a : Nat) : Int)]] (fun d H => ∃ (t : Trust) (a' : Nat), d = av t ∧ GT n m t ∧ H = [.box b 62 [.sl 1 (l.map .i), .i ((a' : Nat) : Int)]]) := by
  have hcap : capB = 140737488355328 := rfl
  intro m
  induction m with
  | zero =>
    intro a hm
    exact trust0_con b n l hn a
  | succ m ih =>
    intro a hm
    refine con_intro Tryz.func65 rfl Tryz.call65 rfl ?_
    refine zW ?_; refine zW ?_
    refine zAl fun b6 => ?_
    iterate 4 refine zW ?_
    refine zAl fun b7 => ?_
    iterate 6 refine zW ?_
    (refine aops_call zRc (Order_con _ _ _ n (by omega)) zSplit rfl rfl ?_; rintro _ _ ⟨ql, a14, rfl, hqp, rfl⟩)
    iterate 10 refine zW ?_
    (refine aops_call zRc (Range_con _ _ _ _ _ (by omega)) zSplit rfl rfl ?_; rintro _ _ ⟨r19, a19, rfl, hr19, rfl⟩)
    obtain ⟨j, rfl⟩ := Int.eq_ofNat_of_zero_le (show 0 ≤ r19 by omega); have hqll : ql.length = n := (by rw [hqp.length_eq, upTo_len]); refine aops_p (ap_slice_to (k := j) rfl rfl rfl rfl rfl (by simp only [List.length_map]; omega)) rfl rfl rfl ?_; rw [← List.map_take]; obtain ⟨qs, hqs⟩ : ∃ qs, qs = ql.take j := ⟨_, rfl⟩; rw [← hqs]; have hqsl : qs.length = j := (by rw [hqs]; simp; omega)
    first | refine zLn fun _ => ?_ | refine zW ?_
    iterate 4 refine zW ?_
    refine awp_loop3 [0, 1, 2, 6, 7, 20, 21] [.box b6 _ _, .arr (.slice none 0 0) 41 3 [], .box b _ _] (fun (k : Nat) (v : Value) (q : List Int) r => (22, .i (k : Int)) :: r) (fun k v q r => .box b7 41 [.i 0, .v v, .nil] :: .arr v 3 1 (q.map .i) :: r) (fun k v q => k ≤ j ∧ q = qs.take k) (fun k v q => j - k) (0) (.slice none 0 0) ([]) zRc ⟨by omega, by simp⟩ ((wk_own 3 1 rfl).trans ((wk_own 41 3 rfl).trans (zWk))) ?_
    intro k v q ⟨hk, hI⟩
    have hql : q.length = k := by rw [hI]; simp; omega
    iterate 6 refine zW ?_
    refine zC (fun hc => ?_) fun hc => ?_
    · have hlt : k < qs.length := by have := of_decide_eq_true hc; simp only [List.length_map] at this; omega
      obtain ⟨x, hx, hd⟩ := drop_cons hlt
      have hx' := getMap D.i hx
      iterate 15 refine zW ?_
      refine aops_lit (e := 3) (sz := 1) (by_ := 8) rfl rfl zRc rfl rfl rfl rfl ?_
      first | refine aops_append (e := 3) (sz := 1) (by_ := 8) rfl zUpd rfl rfl rfl rfl rfl (by simp only [List.length_cons, List.length_nil, List.length_append, List.length_map, avs_len]; omega) (fun v30 hv30 => ?_) | refine aops_append_nil (e := 3) (sz := 1) (by_ := 8) rfl rfl rfl rfl rfl rfl (by simp only [List.length_cons, List.length_nil, List.length_append, List.length_map, avs_len]; omega) (fun v30 hv30 => ?_)
      iterate 10 refine zW ?_
      rw [mapi_snoc]
      refine ⟨k + 1, _, _, ⟨by omega, ?_⟩, by omega, zWk⟩
      rw [hI, List.take_add_one, hx]; rfl
    · have hge : j ≤ k := by have := of_decide_eq_false hc; simp only [List.length_map] at this; omega
      obtain rfl : q = qs := by rw [hI]; exact List.take_of_length_le (by omega)
      have hqm : ∀ k ∈ q, 0 ≤ k ∧ k < (n : Int) := fun k hk => upTo_mem (hqp.subset (by rw [hqs] at hk; exact List.mem_of_mem_take hk))
      iterate 12 refine zW ?_
      refine awp_cond_t rfl (decide_eq_true (by omega)) ?_
      iterate 4 refine zW ?_
      refine aops_lit (e := 3) (sz := 1) (by_ := 8) rfl rfl zRc rfl rfl rfl rfl ?_
      (refine aops_call zRc (Pick_con _ _ _ [0,0,1,1,2,3] (by decide)) zSplit rfl rfl ?_; rintro _ _ ⟨r37, a37, rfl, hr37, rfl⟩)
      refine zW ?_
      have hr37b : 0 ≤ r37 ∧ r37 ≤ 3 := by simp at hr37; omega
      iterate 3 refine zW ?_
      refine awp_loop4 [0, 1, 2, 6, 7] [.box b6 _ _, .arr v 3 1 (q.map .i)] (fun (i : Int) (v2 : Value) (q2 : List Trust) (a : Nat) r => (11, .i i) :: r) (fun i v2 q2 a r => .box b7 41 [.i 0, .v v, .v v2] :: .arr v2 41 3 (avs q2) :: .box b 62 [.sl 1 (l.map .i), .i ((a : Nat) : Int)] :: r) (fun i v2 q2 a => (0 ≤ i ∧ q2.length + i ≤ 3) ∧ ∀ x ∈ q2, GT n m x) (fun i v2 q2 a => i.toNat) (r37) (.slice none 0 0) ([]) (a37) zRc ⟨by simp; omega, by simp⟩ (zWk) ?_
      intro i v2 q2 a ⟨hi, hI⟩
      have hal : (avs q2).length = q2.length := avs_len _
      have hml : (q.map D.i).length = q.length := by simp
      iterate 7 refine zW ?_
      refine zC (fun hc => ?_) fun hc => ?_
      · have hpos := of_decide_eq_true hc
        iterate 4 refine zW ?_
        refine zDr [.box b7 _ _, .arr v2 _ _ _, .box b _ _] ?_
        refine zT 0 ?_
        refine zT 2 ?_
        refine zT 3 ?_
        refine zT 4 ?_
        refine aany_take 5 rfl zGd zKr zKr zKr (AP.ar (ap_arith (m := (m : Int) + 1) rfl rfl (by simp only [addI, Option.some.injEq]; omega) (by omega))) rfl rfl ?_
        refine zE2 1 6 ?_ ?_
        rotate_left
        case' _ =>
          (refine aops_call zRc (ih _ (by omega)) zSplit rfl rfl ?_; rintro _ _ ⟨tx, a48, rfl, htx, rfl⟩)
          refine zW ?_
          refine zE2 1 7 ?_ ?_
          rotate_left
          case' _ =>
            refine aops_lit (e := 41) (sz := 3) (by_ := 56) rfl rfl zRc rfl rfl rfl rfl ?_
            refine zW ?_
            refine zOn 1 ?_
            refine zW ?_; refine zW ?_
            refine zOn 8 ?_
            first | refine aops_append (e := 41) (sz := 3) (by_ := 56) rfl zUpd rfl rfl rfl rfl rfl (by simp only [List.length_cons, List.length_nil, List.length_append, List.length_map, avs_len]; omega) (fun v50 hv50 => ?_) | refine aops_append_nil (e := 41) (sz := 3) (by_ := 56) rfl rfl rfl rfl rfl rfl (by simp only [List.length_cons, List.length_nil, List.length_append, List.length_map, avs_len]; omega) (fun v50 hv50 => ?_)
            refine zW ?_
            refine zT 9 ?_
            refine zOn 10 ?_
            iterate 3 refine zW ?_
          rotate_right
          case' _ =>
            refine zW ?_; refine zW ?_
            refine zOn 7 ?_
            refine aops_lit (e := 41) (sz := 3) (by_ := 56) rfl rfl zRc rfl rfl rfl rfl ?_
            refine zW ?_
            refine zOn 8 ?_
            first | refine aops_append (e := 41) (sz := 3) (by_ := 56) rfl zUpd rfl rfl rfl rfl rfl (by simp only [List.length_cons, List.length_nil, List.length_append, List.length_map, avs_len]; omega) (fun v50 hv50 => ?_) | refine aops_append_nil (e := 41) (sz := 3) (by_ := 56) rfl rfl rfl rfl rfl rfl (by simp only [List.length_cons, List.length_nil, List.length_append, List.length_map, avs_len]; omega) (fun v50 hv50 => ?_)
            refine zW ?_
            refine zT 9 ?_
            refine zOn 10 ?_
            iterate 3 refine zW ?_
        rotate_right
        case' _ =>
          refine zW ?_; refine zW ?_
          refine zOn 6 ?_
          (refine aops_call zRc (ih _ (by omega)) zSplit rfl rfl ?_; rintro _ _ ⟨tx, a48, rfl, htx, rfl⟩)
          refine zW ?_
          refine zOn 7 ?_
          refine aops_lit (e := 41) (sz := 3) (by_ := 56) rfl rfl zRc rfl rfl rfl rfl ?_
          refine zW ?_
          refine zOn 8 ?_
          first | refine aops_append (e := 41) (sz := 3) (by_ := 56) rfl zUpd rfl rfl rfl rfl rfl (by simp only [List.length_cons, List.length_nil, List.length_append, List.length_map, avs_len]; omega) (fun v50 hv50 => ?_) | refine aops_append_nil (e := 41) (sz := 3) (by_ := 56) rfl rfl rfl rfl rfl rfl (by simp only [List.length_cons, List.length_nil, List.length_append, List.length_map, avs_len]; omega) (fun v50 hv50 => ?_)
          refine zW ?_
          refine zT 9 ?_
          refine zOn 10 ?_
          iterate 3 refine zW ?_
        all_goals (
          iterate 8 refine zW ?_
          rw [avs_snoc]
          refine ⟨i - 1, _, _, _, ⟨by simp only [List.length_append, List.length_cons, List.length_nil]; omega, snoc_mem hI htx⟩, by omega, zWk⟩
          )
      · iterate 9 refine zW ?_
        first | refine zLn fun _ => ?_ | refine zW ?_
        refine zW ?_; refine zW ?_
        all_goals first | refine zW ?_ | (refine zG (fun hg => ?_) fun hg => ?_; case' _ => refine zW ?_)
        all_goals first | (refine zY ?_; (refine aops_call zRc (N_con _ _ _ _ (by omega)) zSplit rfl rfl ?_; rintro _ _ ⟨r58, a58, rfl, hr58, rfl⟩)) | refine zSk ?_ | (refine zG (fun hg => ?_) fun hg => ?_; case' _ => (refine aops_call zRc (N_con _ _ _ _ (by omega)) zSplit rfl rfl ?_; rintro _ _ ⟨r58, a58, rfl, hr58, rfl⟩))
        iterate 2 all_goals first | refine zW ?_ | (refine zG (fun hg => ?_) fun hg => ?_; case' _ => refine zW ?_)
        all_goals ((try have hgt := of_decide_eq_true hg))
        all_goals (
          refine zW ?_; refine zW ?_
          refine zC (fun hc => ?_) fun hc => ?_
          · first
            | (exact absurd hc (by decide))
            | (iterate 10 refine zW ?_
               first | refine zLn fun _ => ?_ | refine zW ?_
               refine zW ?_; refine zW ?_
               first | refine zLn fun _ => ?_ | refine zW ?_
               refine zW ?_
               (refine aops_call zRc (Range_con _ _ _ _ _ (by omega)) zSplit rfl rfl ?_; rintro _ _ ⟨r70, a70, rfl, hr70, rfl⟩)
               iterate 10 refine zW ?_
               refine awp_own 3 1 rfl ?_; refine zFz (.slice none 0 0) [6,7] ?_; refine zFz v2 [6,7] ?_
               refine zW ?_
               first | exact post_ret (.cell rfl zUpd rfl rfl .nil) zKeep ⟨.mk _ q q2, _, rfl, GT_node hqm (by omega) hI (by omega), rfl⟩ | exact post_ret (.cell rfl zUpd rfl rfl .nil) zKeep ⟨.mk _ [] q2, _, rfl, GT_node (fun _ h => absurd h List.not_mem_nil) (by simp) hI (by omega), rfl⟩
              )
          · first
            | (exact absurd hc (by decide))
            | (iterate 7 refine zW ?_
               first | refine zLn fun _ => ?_ | refine zW ?_
               refine zW ?_; refine zW ?_
               first | refine zLn fun _ => ?_ | refine zW ?_
               refine zW ?_
               (refine aops_call zRc (Range_con _ _ _ _ _ (by omega)) zSplit rfl rfl ?_; rintro _ _ ⟨r70, a70, rfl, hr70, rfl⟩)
               iterate 10 refine zW ?_
               refine zFz v [6,7] ?_; refine zFz v2 [6,7] ?_
               refine zW ?_
               first | exact post_ret (.cell rfl zUpd rfl rfl .nil) zKeep ⟨.mk _ q q2, _, rfl, GT_node hqm (by omega) hI (by omega), rfl⟩ | exact post_ret (.cell rfl zUpd rfl rfl .nil) zKeep ⟨.mk _ [] q2, _, rfl, GT_node (fun _ h => absurd h List.not_mem_nil) (by simp) hI (by omega), rfl⟩
              )
          )
theorem Trust_con (b n m : Nat) (l : List Int) (hn : 1 ≤ n ∧ n ≤ 10) (hm : m ≤ 5) (a : Nat) : Con Tryz.prog 30 [.p b 0, .i n, .i ((m : Int) + 1)] [.box b 62 [.sl 1 (l.map .i), .i ((a : Nat) : Int)]] (fun d H => ∃ (t : Trust) (a' : Nat), d = av t ∧ OKT n t ∧ H = [.box b 62 [.sl 1 (l.map .i), .i ((a' : Nat) : Int)]]) := by
  have hcap : capB = 140737488355328 := rfl
  have hp4 : 4 ^ m ≤ 4 ^ 5 := Nat.pow_le_pow_right (by omega) hm
  have hp5 : 4 ^ 5 = 1024 := by decide
  refine con_intro Tryz.func30 rfl Tryz.call30 rfl ?_
  refine zW ?_; refine zW ?_
  refine zAl fun b6 => ?_
  iterate 7 refine zW ?_
  (refine aops_call zRc (trust_con _ n _ hn m _ hm) zSplit rfl rfl ?_; rintro _ _ ⟨t11, a11, rfl, ht11, rfl⟩)
  refine zAl fun b7 => ?_
  iterate 7 refine zW ?_
  refine aops_call_v zRc (rvalidT_con _ (by have := ht11.2.1; omega)) rfl rfl ?_
  iterate 3 refine zW ?_
  refine zC (fun hc => ?_) fun hc => ?_
  · iterate 4 refine zW ?_
    (refine aops_call zRc (N_con _ _ _ _ (by omega)) zSplit rfl rfl ?_; rintro _ _ ⟨r17, a17, rfl, hr17, rfl⟩)
    refine aops_lit (e := 3) (sz := 1) (by_ := 8) rfl rfl zRc rfl rfl rfl rfl ?_
    iterate 4 refine zW ?_
    refine awp_unnil [6] 3 rfl zSelC zHeapA ?_
    refine zW ?_; refine zW ?_
    exact post_ret (.cell rfl zUpd rfl rfl .nil) zKeep ⟨.mk 1 [r17] [], _, rfl, OKT_leaf hn.2 hr17, rfl⟩
  · have hok : validT t11 = 0 := by simpa using hc
    iterate 9 refine zW ?_
    refine post_ret (.cell rfl zUpd rfl rfl .nil) zKeep ⟨t11, _, rfl, OKT_of ht11.1 hok, rfl⟩
def tx : Trust := .mk 2 [0, 1] [.mk 1 [2, 3] []]
def ty : Trust := .mk 2 [0, 1] [.mk 2 [2, 3] []]
theorem k1 : Con Tryz.prog 156 [av tx, .i 12] [] (Is (.b false) []) := by
  have h := sat_con 12 tx
  rwa [show sat 12 tx = false from by decide] at h
theorem not_t {c : Bool} (h : (!c) = true) : c = false := by simpa using h
theorem most_con (b n : Nat) (l : List Int) (hn : 1 ≤ n ∧ n ≤ 10) (a : Nat) : Con Tryz.prog 31 [.p b 0, .i n] [.box b 62 [.sl 1 (l.map .i), .i ((a : Nat) : Int)]] (fun d H => ∃ (t : Trust) (a' : Nat), d = av t ∧ OKT n t ∧ H = [.box b 62 [.sl 1 (l.map .i), .i ((a' : Nat) : Int)]]) := by
  have hcap : capB = 140737488355328 := rfl
  refine con_intro Tryz.func31 rfl Tryz.call31 rfl ?_
  refine zW ?_; refine zW ?_
  refine zAl fun b4 => ?_
  iterate 5 refine zW ?_
  refine zAl fun b5 => ?_
  iterate 10 refine zW ?_
  refine awp_loop4 [0, 1, 4, 5] [.box b4 _ _] (fun (k : Nat) (v : Value) (q : List Int) (a : Nat) r => (6, .i (k : Int)) :: r) (fun k v q a r => .box b5 41 [.i 0, .v v, .nil] :: .arr v 3 1 (q.map .i) :: .box b 62 [.sl 1 (l.map .i), .i ((a : Nat) : Int)] :: r) (fun k v q a => k ≤ n ∧ q.length ≤ k ∧ (∀ x ∈ q, 0 ≤ x ∧ x < (k : Int)) ∧ q.Nodup) (fun k v q a => n - k) (0) (.slice none 0 0) ([]) (a) zRc ⟨by omega, by simp, by simp, by simp⟩ ((wk_own 3 1 rfl).trans (zWk)) ?_
  intro k v q a ⟨hk, hql, hqm, hqd⟩
  have hml : (q.map D.i).length = q.length := by simp
  iterate 8 refine zW ?_
  refine zC (fun hc => ?_) fun hc => ?_
  · have hlt := of_decide_eq_true hc
    iterate 7 refine zW ?_
    (refine aops_call zRc (N_con _ _ _ _ (by omega)) zSplit rfl rfl ?_; rintro _ _ ⟨r14, a14, rfl, hr14, rfl⟩)
    iterate 3 refine zW ?_
    refine zC (fun hc => ?_) fun hc => ?_
    · iterate 4 refine zW ?_
      refine aops_lit (e := 3) (sz := 1) (by_ := 8) rfl rfl zRc rfl rfl rfl rfl ?_
      first | refine aops_append (e := 3) (sz := 1) (by_ := 8) rfl zUpd rfl rfl rfl rfl rfl (by simp only [List.length_cons, List.length_nil, List.length_append, List.length_map, avs_len]; omega) (fun v20 hv20 => ?_) | refine aops_append_nil (e := 3) (sz := 1) (by_ := 8) rfl rfl rfl rfl rfl rfl (by simp only [List.length_cons, List.length_nil, List.length_append, List.length_map, avs_len]; omega) (fun v20 hv20 => ?_)
      iterate 11 refine zW ?_
      first | (rw [mapi_snoc]; refine ⟨k + 1, _, q ++ [(k : Int)], _, ⟨by omega, by simp only [List.length_append, List.length_cons, List.length_nil]; omega, snoc_mem (fun y hy => by have := hqm y hy; omega) (by omega), nodup_snoc hqd (fun y hy => (hqm y hy).2) (by omega)⟩, by omega, zWk⟩) | refine ⟨k + 1, _, q, _, ⟨by omega, by omega, fun y hy => by have := hqm y hy; omega, hqd⟩, by omega, zWk⟩
    · iterate 9 refine zW ?_
      first | (rw [mapi_snoc]; refine ⟨k + 1, _, q ++ [(k : Int)], _, ⟨by omega, by simp only [List.length_append, List.length_cons, List.length_nil]; omega, snoc_mem (fun y hy => by have := hqm y hy; omega) (by omega), nodup_snoc hqd (fun y hy => (hqm y hy).2) (by omega)⟩, by omega, zWk⟩) | refine ⟨k + 1, _, q, _, ⟨by omega, by omega, fun y hy => by have := hqm y hy; omega, hqd⟩, by omega, zWk⟩
  · iterate 10 refine zW ?_
    first | refine zLn fun _ => ?_ | refine zW ?_
    iterate 3 refine zW ?_
    refine zC (fun hc => ?_) fun hc => ?_
    rotate_left
    case' _ =>
      obtain ⟨p, hp⟩ : ∃ p : List Int, p = q := ⟨_, rfl⟩
      have hpl : 1 ≤ p.length ∧ p.length ≤ 10 := by have := of_decide_eq_false hc; rw [hp]; omega
      have hpd : p.Nodup := by rw [hp]; exact hqd
      have hpm : ∀ x ∈ p, 0 ≤ x ∧ x < (n : Int) := fun y hy => by have := hqm y (hp ▸ hy); omega
      refine zW ?_
    rotate_right
    case' _ =>
      obtain ⟨p, hp⟩ : ∃ p : List Int, p = [0] := ⟨_, rfl⟩
      have hpl : 1 ≤ p.length ∧ p.length ≤ 10 := by rw [hp]; simp
      have hpd : p.Nodup := by rw [hp]; simp
      have hpm : ∀ x ∈ p, 0 ≤ x ∧ x < (n : Int) := by rw [hp]; simp; omega
      refine zW ?_
      refine aops_lit (e := 3) (sz := 1) (by_ := 8) rfl rfl zRc rfl rfl rfl rfl ?_
      iterate 3 refine zW ?_
    all_goals (
      refine zW ?_; refine zW ?_
      refine zFz v [0,4,5] ?_
      first | (rw [show [D.i 0] = p.map D.i from by rw [hp]; rfl]) | rw [← hp]
      have hml2 : (p.map D.i).length = p.length := by simp
      refine zDr [.box b5 _ _, .box b _ _] ?_
      refine zT 0 ?_
      refine zT 3 ?_
      refine zT 9 ?_
      refine aany_each3 1 4 10 zKr (cho rfl zGd ?_) (cho rfl zGd ?_) (cho rfl zGd ?_)
      rotate_left 2
      case' _ =>
        refine aops_lit (e := 3) (sz := 1) (by_ := 8) rfl rfl zRc rfl rfl rfl rfl ?_
        refine zW ?_
        refine aany_each3 1 4 11 zKr (cho rfl zGd ?_) (cho rfl zGd ?_) (cho rfl zGd ?_)
        rotate_left 2
        case' _ =>
          (refine aops_call zRc (Pick_con _ _ _ [0,0,0,1,-1] (by decide)) zSplit rfl rfl ?_; rintro _ _ ⟨r39, a39, rfl, hr39, rfl⟩; have hrb : -1 ≤ r39 ∧ r39 ≤ 1 := (by simp at hr39; omega))
          refine zW ?_
          refine zE2 1 4 ?_ ?_
          rotate_left
          case' _ =>
            refine zW ?_; refine zW ?_
            refine zT 5 ?_
            refine zT 6 ?_
            refine zT 7 ?_
            refine aany_take 8 rfl zGd zKr zKr zKr (AP.ar (ap_quon rfl rfl (by omega))) rfl rfl ?_
            refine zT 12 ?_
            refine zT 13 ?_
            refine zOn 1 ?_
            refine zW ?_; refine zW ?_
            refine zT 2 ?_
            refine zT 14 ?_
            refine zT 15 ?_
            refine zOn 16 ?_
            iterate 3 refine zW ?_
          rotate_right
          case' _ =>
            refine zW ?_; refine zW ?_
            refine zT 2 ?_
            refine zOn 4 ?_
            refine zW ?_; refine zW ?_
            refine zT 5 ?_
            refine zT 6 ?_
            refine zT 7 ?_
            refine aany_take 8 rfl zGd zKr zKr zKr (AP.ar (ap_quon rfl rfl (by omega))) rfl rfl ?_
            refine zT 12 ?_
            refine zT 13 ?_
            refine zT 14 ?_
            refine zT 15 ?_
            refine zOn 16 ?_
            iterate 3 refine zW ?_
        rotate_right
        case' _ =>
          refine zW ?_; refine zW ?_
          refine zT 5 ?_
          refine zT 6 ?_
          refine zT 7 ?_
          refine aany_take 8 rfl zGd zKr zKr zKr (AP.ar (ap_quon rfl rfl (by omega))) rfl rfl ?_
          refine zE2 1 11 ?_ ?_
          rotate_left
          case' _ =>
            (refine aops_call zRc (Pick_con _ _ _ [0,0,0,1,-1] (by decide)) zSplit rfl rfl ?_; rintro _ _ ⟨r39, a39, rfl, hr39, rfl⟩; have hrb : -1 ≤ r39 ∧ r39 ≤ 1 := (by simp at hr39; omega))
            refine zW ?_
            refine zT 12 ?_
            refine zT 13 ?_
            refine zOn 1 ?_
            refine zW ?_; refine zW ?_
            refine zT 2 ?_
            refine zT 14 ?_
            refine zT 15 ?_
            refine zOn 16 ?_
            iterate 3 refine zW ?_
          rotate_right
          case' _ =>
            refine zW ?_; refine zW ?_
            refine zT 2 ?_
            refine zOn 11 ?_
            (refine aops_call zRc (Pick_con _ _ _ [0,0,0,1,-1] (by decide)) zSplit rfl rfl ?_; rintro _ _ ⟨r39, a39, rfl, hr39, rfl⟩; have hrb : -1 ≤ r39 ∧ r39 ≤ 1 := (by simp at hr39; omega))
            refine zW ?_
            refine zT 12 ?_
            refine zT 13 ?_
            refine zT 14 ?_
            refine zT 15 ?_
            refine zOn 16 ?_
            iterate 3 refine zW ?_
        rotate_right
        case' _ =>
          refine zW ?_; refine zW ?_
          refine zT 2 ?_
          refine zE2 4 11 ?_ ?_
          rotate_left
          case' _ =>
            (refine aops_call zRc (Pick_con _ _ _ [0,0,0,1,-1] (by decide)) zSplit rfl rfl ?_; rintro _ _ ⟨r39, a39, rfl, hr39, rfl⟩; have hrb : -1 ≤ r39 ∧ r39 ≤ 1 := (by simp at hr39; omega))
            refine zW ?_
            refine zOn 4 ?_
            refine zW ?_; refine zW ?_
            refine zT 5 ?_
            refine zT 6 ?_
            refine zT 7 ?_
            refine aany_take 8 rfl zGd zKr zKr zKr (AP.ar (ap_quon rfl rfl (by omega))) rfl rfl ?_
            refine zT 12 ?_
            refine zT 13 ?_
            refine zT 14 ?_
            refine zT 15 ?_
            refine zOn 16 ?_
            iterate 3 refine zW ?_
          rotate_right
          case' _ =>
            refine zW ?_; refine zW ?_
            refine zT 5 ?_
            refine zT 6 ?_
            refine zT 7 ?_
            refine aany_take 8 rfl zGd zKr zKr zKr (AP.ar (ap_quon rfl rfl (by omega))) rfl rfl ?_
            refine zOn 11 ?_
            (refine aops_call zRc (Pick_con _ _ _ [0,0,0,1,-1] (by decide)) zSplit rfl rfl ?_; rintro _ _ ⟨r39, a39, rfl, hr39, rfl⟩; have hrb : -1 ≤ r39 ∧ r39 ≤ 1 := (by simp at hr39; omega))
            refine zW ?_
            refine zT 12 ?_
            refine zT 13 ?_
            refine zT 14 ?_
            refine zT 15 ?_
            refine zOn 16 ?_
            iterate 3 refine zW ?_
      rotate_right
      case' _ =>
        refine zW ?_; refine zW ?_
        refine zT 5 ?_
        refine zT 6 ?_
        refine zT 7 ?_
        refine aany_take 8 rfl zGd zKr zKr zKr (AP.ar (ap_quon rfl rfl (by omega))) rfl rfl ?_
        refine zE2 1 10 ?_ ?_
        rotate_left
        case' _ =>
          refine aops_lit (e := 3) (sz := 1) (by_ := 8) rfl rfl zRc rfl rfl rfl rfl ?_
          refine zW ?_
          refine zE2 1 11 ?_ ?_
          rotate_left
          case' _ =>
            (refine aops_call zRc (Pick_con _ _ _ [0,0,0,1,-1] (by decide)) zSplit rfl rfl ?_; rintro _ _ ⟨r39, a39, rfl, hr39, rfl⟩; have hrb : -1 ≤ r39 ∧ r39 ≤ 1 := (by simp at hr39; omega))
            refine zW ?_
            refine zT 12 ?_
            refine zT 13 ?_
            refine zOn 1 ?_
            refine zW ?_; refine zW ?_
            refine zT 2 ?_
            refine zT 14 ?_
            refine zT 15 ?_
            refine zOn 16 ?_
            iterate 3 refine zW ?_
          rotate_right
          case' _ =>
            refine zW ?_; refine zW ?_
            refine zT 2 ?_
            refine zOn 11 ?_
            (refine aops_call zRc (Pick_con _ _ _ [0,0,0,1,-1] (by decide)) zSplit rfl rfl ?_; rintro _ _ ⟨r39, a39, rfl, hr39, rfl⟩; have hrb : -1 ≤ r39 ∧ r39 ≤ 1 := (by simp at hr39; omega))
            refine zW ?_
            refine zT 12 ?_
            refine zT 13 ?_
            refine zT 14 ?_
            refine zT 15 ?_
            refine zOn 16 ?_
            iterate 3 refine zW ?_
        rotate_right
        case' _ =>
          refine zW ?_; refine zW ?_
          refine zT 2 ?_
          refine zOn 10 ?_
          refine aops_lit (e := 3) (sz := 1) (by_ := 8) rfl rfl zRc rfl rfl rfl rfl ?_
          refine zW ?_
          refine zOn 11 ?_
          (refine aops_call zRc (Pick_con _ _ _ [0,0,0,1,-1] (by decide)) zSplit rfl rfl ?_; rintro _ _ ⟨r39, a39, rfl, hr39, rfl⟩; have hrb : -1 ≤ r39 ∧ r39 ≤ 1 := (by simp at hr39; omega))
          refine zW ?_
          refine zT 12 ?_
          refine zT 13 ?_
          refine zT 14 ?_
          refine zT 15 ?_
          refine zOn 16 ?_
          iterate 3 refine zW ?_
      rotate_right
      case' _ =>
        refine zW ?_; refine zW ?_
        refine zT 2 ?_
        refine zE2 4 10 ?_ ?_
        rotate_left
        case' _ =>
          refine aops_lit (e := 3) (sz := 1) (by_ := 8) rfl rfl zRc rfl rfl rfl rfl ?_
          refine zW ?_
          refine zE2 4 11 ?_ ?_
          rotate_left
          case' _ =>
            (refine aops_call zRc (Pick_con _ _ _ [0,0,0,1,-1] (by decide)) zSplit rfl rfl ?_; rintro _ _ ⟨r39, a39, rfl, hr39, rfl⟩; have hrb : -1 ≤ r39 ∧ r39 ≤ 1 := (by simp at hr39; omega))
            refine zW ?_
            refine zOn 4 ?_
            refine zW ?_; refine zW ?_
            refine zT 5 ?_
            refine zT 6 ?_
            refine zT 7 ?_
            refine aany_take 8 rfl zGd zKr zKr zKr (AP.ar (ap_quon rfl rfl (by omega))) rfl rfl ?_
            refine zT 12 ?_
            refine zT 13 ?_
            refine zT 14 ?_
            refine zT 15 ?_
            refine zOn 16 ?_
            iterate 3 refine zW ?_
          rotate_right
          case' _ =>
            refine zW ?_; refine zW ?_
            refine zT 5 ?_
            refine zT 6 ?_
            refine zT 7 ?_
            refine aany_take 8 rfl zGd zKr zKr zKr (AP.ar (ap_quon rfl rfl (by omega))) rfl rfl ?_
            refine zOn 11 ?_
            (refine aops_call zRc (Pick_con _ _ _ [0,0,0,1,-1] (by decide)) zSplit rfl rfl ?_; rintro _ _ ⟨r39, a39, rfl, hr39, rfl⟩; have hrb : -1 ≤ r39 ∧ r39 ≤ 1 := (by simp at hr39; omega))
            refine zW ?_
            refine zT 12 ?_
            refine zT 13 ?_
            refine zT 14 ?_
            refine zT 15 ?_
            refine zOn 16 ?_
            iterate 3 refine zW ?_
        rotate_right
        case' _ =>
          refine zW ?_; refine zW ?_
          refine zT 5 ?_
          refine zT 6 ?_
          refine zT 7 ?_
          refine aany_take 8 rfl zGd zKr zKr zKr (AP.ar (ap_quon rfl rfl (by omega))) rfl rfl ?_
          refine zOn 10 ?_
          refine aops_lit (e := 3) (sz := 1) (by_ := 8) rfl rfl zRc rfl rfl rfl rfl ?_
          refine zW ?_
          refine zOn 11 ?_
          (refine aops_call zRc (Pick_con _ _ _ [0,0,0,1,-1] (by decide)) zSplit rfl rfl ?_; rintro _ _ ⟨r39, a39, rfl, hr39, rfl⟩; have hrb : -1 ≤ r39 ∧ r39 ≤ 1 := (by simp at hr39; omega))
          refine zW ?_
          refine zT 12 ?_
          refine zT 13 ?_
          refine zT 14 ?_
          refine zT 15 ?_
          refine zOn 16 ?_
          iterate 3 refine zW ?_
      all_goals (
        iterate 7 refine zW ?_
        refine awp_unnil [4,5] 3 rfl zSelC zHeapA ?_
        refine zW ?_
        exact post_ret (.cell rfl zUpd rfl rfl .nil) zKeep ⟨.mk _ p [], _, rfl, OKT_flat hn.2 (by omega) (by omega) hpm hpd hpl.2, rfl⟩
        )
      )
theorem group_con (b n k : Nat) (l : List Int) (hn : 1 ≤ n ∧ n ≤ 10) (a : Nat) : Con Tryz.prog 32 [.p b 0, .i n, .i k] [.box b 62 [.sl 1 (l.map .i), .i ((a : Nat) : Int)]] (fun d H => ∃ (t : Trust) (a' : Nat), d = av t ∧ OKT n t ∧ H = [.box b 62 [.sl 1 (l.map .i), .i ((a' : Nat) : Int)]]) := by
  have hcap : capB = 140737488355328 := rfl
  refine con_intro Tryz.func32 rfl Tryz.call32 rfl ?_
  refine zW ?_; refine zW ?_
  refine zAl fun b6 => ?_
  iterate 14 refine zW ?_
  refine awp_loop4 [0, 1, 2, 6] [.box b6 _ _] (fun (i : Nat) (v : Value) (g : List Trust) (a : Nat) r => (7, .v v) :: (8, .i (i : Int)) :: r) (fun i v g a r => .arr v 41 3 (avs g) :: .box b 62 [.sl 1 (l.map .i), .i ((a : Nat) : Int)] :: r) (fun i v g a => i ≤ 3 ∧ g.length ≤ i ∧ (1 ≤ i → 1 ≤ g.length) ∧ ∀ x ∈ g, Flat1 n x) (fun i v g a => 3 - i) (0) (.slice none 0 0) ([]) (a) zRc ⟨by omega, by simp, by omega, fun x h => absurd h List.not_mem_nil⟩ ((wk_own 41 3 rfl).trans (zWk)) ?_
  intro i v g a ⟨hi, hgl, hg1, hgm⟩
  have hal : (avs g).length = g.length := avs_len _
  iterate 7 refine zW ?_
  refine zC (fun hc => ?_) fun hc => ?_
  · have hlt := of_decide_eq_true hc
    iterate 7 refine zW ?_
    refine zAl fun b9 => ?_
    iterate 11 refine zW ?_
    refine awp_loop3 [0, 1, 2, 6, 7, 8, 9] [.box b6 _ _, .arr v 41 3 (avs g), .box b 62 [.sl 1 (l.map .i), .i ((a : Nat) : Int)]] (fun (j : Nat) (u : Value) (q : List Int) r => (10, .i (j : Int)) :: r) (fun j u q r => .box b9 41 [.i 1, .v u, .nil] :: .arr u 3 1 (q.map .i) :: r) (fun j u q => j = i + 3 * q.length ∧ j ≤ n + 2 + i ∧ (∀ x ∈ q, (0 ≤ x ∧ x < (n : Int)) ∧ x < (j : Int)) ∧ q.Nodup) (fun j u q => n + 3 - j) (i) (.slice none 0 0) ([]) zRc ⟨by simp, by omega, by simp, by simp⟩ ((wk_own 3 1 rfl).trans (zWk)) ?_
    intro j u q ⟨hj, hjn, hqm, hqd⟩
    have hml : (q.map D.i).length = q.length := by simp
    iterate 8 refine zW ?_
    refine zC (fun hc => ?_) fun hc => ?_
    · have hlt2 := of_decide_eq_true hc
      iterate 8 refine zW ?_
      refine aops_lit (e := 3) (sz := 1) (by_ := 8) rfl rfl zRc rfl rfl rfl rfl ?_
      first | refine aops_append (e := 3) (sz := 1) (by_ := 8) rfl zUpd rfl rfl rfl rfl rfl (by simp only [List.length_cons, List.length_nil, List.length_append, List.length_map, avs_len]; omega) (fun v26 hv26 => ?_) | refine aops_append_nil (e := 3) (sz := 1) (by_ := 8) rfl rfl rfl rfl rfl rfl (by simp only [List.length_cons, List.length_nil, List.length_append, List.length_map, avs_len]; omega) (fun v26 hv26 => ?_)
      iterate 11 refine zW ?_
      rw [mapi_snoc]
      refine ⟨j + 3, _, q ++ [(j : Int)], ⟨by simp only [List.length_append, List.length_cons, List.length_nil]; omega, by omega, snoc_mem (fun y hy => by have := hqm y hy; omega) (by omega), nodup_snoc hqd (fun y hy => (hqm y hy).2) (by omega)⟩, by omega, zWk⟩
    · have hge2 := of_decide_eq_false hc
      iterate 9 refine zW ?_
      first | refine zLn fun _ => ?_ | refine zW ?_
      iterate 3 refine zW ?_
      refine zC (fun hc => ?_) fun hc => ?_
      · have hq0 := of_decide_eq_true hc
        iterate 5 refine zW ?_
        first | refine zLn fun _ => ?_ | refine zW ?_
        (refine aops_call zRc (Range_con _ _ _ _ _ (by omega)) zSplit rfl rfl ?_; rintro _ _ ⟨r36, a36, rfl, hr36, rfl⟩)
        iterate 4 refine zW ?_
        refine zFz u [0,1,2,6,7,8,9] ?_
        iterate 3 refine zW ?_
        refine aops_unnil [0,1,2,6,7,8,9,38,39] 3 rfl rfl zSelC zHeapS ?_; refine aops_lit (e := 41) (sz := 3) (by_ := 56) rfl rfl zRc rfl rfl rfl rfl ?_
        first | refine aops_append (e := 41) (sz := 3) (by_ := 56) rfl zUpd rfl rfl rfl rfl rfl (by simp only [List.length_cons, List.length_nil, List.length_append, List.length_map, avs_len]; omega) (fun v41 hv41 => ?_) | refine aops_append_nil (e := 41) (sz := 3) (by_ := 56) rfl rfl rfl rfl rfl rfl (by simp only [List.length_cons, List.length_nil, List.length_append, List.length_map, avs_len]; omega) (fun v41 hv41 => ?_)
        iterate 10 refine zW ?_
        first | (rw [show D.agg [.i r36, .sl 1 (q.map .i), .sl 3 []] = av (.mk r36 q []) from rfl, avs_snoc]; refine ⟨i + 1, _, g ++ [.mk r36 q []], _, ⟨by omega, by simp only [List.length_append, List.length_cons, List.length_nil]; omega, fun _ => by simp, snoc_mem hgm (Flat1_of hn.2 (by omega) (by omega) (fun y hy => (hqm y hy).1) hqd (by omega))⟩, by omega, zWk⟩) | refine ⟨i + 1, _, g, _, ⟨by omega, by omega, fun _ => by omega, hgm⟩, by omega, zWk⟩
      · have hq1 := of_decide_eq_false hc
        iterate 9 refine zW ?_
        first | (rw [show D.agg [.i r36, .sl 1 (q.map .i), .sl 3 []] = av (.mk r36 q []) from rfl, avs_snoc]; refine ⟨i + 1, _, g ++ [.mk r36 q []], _, ⟨by omega, by simp only [List.length_append, List.length_cons, List.length_nil]; omega, fun _ => by simp, snoc_mem hgm (Flat1_of hn.2 (by omega) (by omega) (fun y hy => (hqm y hy).1) hqd (by omega))⟩, by omega, zWk⟩) | refine ⟨i + 1, _, g, _, ⟨by omega, by omega, fun _ => by omega, hgm⟩, by omega, zWk⟩
  · have hge := of_decide_eq_false hc
    iterate 7 refine zW ?_
    refine zFz v [0,2,6,7] ?_
    have hg1' := hg1 (by omega)
    refine zW ?_; refine zW ?_
    (refine aops_call zRc (N_con _ _ _ _ (by omega)) zSplit rfl rfl ?_; rintro _ _ ⟨r43, a43, rfl, hr43, rfl⟩)
    iterate 3 refine zW ?_
    refine zC (fun hc => ?_) fun hc => ?_
    · iterate 5 refine zW ?_
      first | refine zLn fun _ => ?_ | refine zW ?_
      refine aops_p (ap_remn rfl rfl (by omega)) rfl rfl rfl ?_; have e49 : ((k : Int) % ((avs g).length : Int)) = ((k % g.length : Nat) : Int) := (by rw [avs_len]; exact (Int.natCast_emod _ _).symm); rw [e49]
      obtain ⟨x, hx, _⟩ := drop_cons (l := g) (k := k % g.length) (Nat.mod_lt _ (by omega)); have hx' := avs_get hx; refine aops_p (ap_index rfl rfl rfl rfl (by decide) rfl hx') rfl rfl rfl ?_
      iterate 6 refine zW ?_
      exact post_ret (.cell rfl zUpd rfl rfl .nil) zKeep ⟨x, _, rfl, (hgm x (List.mem_of_getElem? hx)).ok, rfl⟩
    · iterate 6 refine zW ?_
      first | refine zLn fun _ => ?_ | refine zW ?_
      iterate 3 refine zW ?_
      first | refine zLn fun _ => ?_ | refine zW ?_
      (refine aops_call zRc (Range_con _ _ _ _ _ (by omega)) zSplit rfl rfl ?_; rintro _ _ ⟨r59, a59, rfl, hr59, rfl⟩)
      iterate 5 refine zW ?_
      refine awp_unnil [6] 1 rfl zSelC zHeapA ?_
      refine zW ?_
      exact post_ret (.cell rfl zUpd rfl rfl .nil) zKeep ⟨.mk _ [] g, _, rfl, OKT_two (by omega) (by omega) hgm (by omega), rfl⟩
theorem Trust2_con (b n : Nat) (l : List Int) (hn : 1 ≤ n ∧ n ≤ 10) (a : Nat) : Con Tryz.prog 30 [.p b 0, .i n, .i 2] [.box b 62 [.sl 1 (l.map .i), .i ((a : Nat) : Int)]] (fun d H => ∃ (t : Trust) (a' : Nat), d = av t ∧ OKT n t ∧ H = [.box b 62 [.sl 1 (l.map .i), .i ((a' : Nat) : Int)]]) := Trust_con b n 1 l hn (by omega) a
theorem not_f {c : Bool} (h : (!c) = false) : c = true := by simpa using h
end Go.Proofs.YtmolbagfkdbdnaaGreatDoor
