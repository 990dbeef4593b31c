/- The walks of: quorum_con, rNodes_con, rdecl_con, of_con, indexF_con, containsF_con, lev1_con, level_con, validT_con, rsameI_con, rsame_con, quorum0_con, quorumV_con, rquorum0_con, rquorumN_con, rquorum_con, relim0_con, relimN_con, relim_con, rgreat0_con, rgreatN_con, rgreat_con, blank_con, member_con, validC_con, r6valid_con, lower_con, less_con, delT_con, del_con, lowered_con. Each says what one function of the program answers, for the arguments that its statement names. No condition beyond what each theorem says. -/
import Derived.Test.YtgmpjpaekpefdaaGreatAnalyserExactW1
import Derived.Test.YtgmpjpaekpefdaaGreatProg
import Derived.KernelRfl
import Derived.Tactics
import Derived.Tactics2
import Derived.StillTactics
set_option linter.unusedVariables false
set_option linter.unusedSimpArgs false
set_option linter.unnecessarySimpa false
set_option maxRecDepth 4000
namespace Go.Proofs.YtgmpjpaekpefdaaGreat
open Go Go.Av Go.Tq
theorem quorum_con (c : List Mem) (s : Nat) (hs : s < 1024) : Con none Tryz.prog 92 [cv c, .i s] [] (Is (.b (quorumC c s)) []) := by
  have hcap : capB = 140737488355328 := rfl
  refine con_intro Tryz.func92 rfl Tryz.call92 rfl ?_
  refine zS ?_
  refine aops_box rfl zFlat rfl rfl (fun b2 => ?_)
  refine zAs ?_; refine zN ?_; refine awp_seq ?_; refine zS ?_; refine zMv ?_
  refine aops_call_v zRc (validn hs) rfl rfl ?_
  refine zNo ?_; refine zMv ?_
  all_goals first | (refine zY ?_; refine zMv ?_) | refine zU ?_ | refine zNf ?_ | (refine zGf (fun hg => ?_) fun hg => ?_; case' _ => refine zMv ?_)
  all_goals first | (refine zY ?_; refine zCm ?_) | refine zU ?_ | refine zNf ?_ | (refine zGf (fun hg => ?_) fun hg => ?_; case' _ => refine zCm ?_)
  all_goals refine zPk ?_
  all_goals refine zMv ?_
  all_goals first | (refine zY ?_; refine zLd ?_) | refine zU ?_ | refine zNf ?_ | (refine zGf (fun hg => ?_) fun hg => ?_; case' _ => refine zLd ?_)
  all_goals first | (refine zY ?_; refine zMv ?_) | refine zU ?_ | refine zNf ?_ | (refine zGf (fun hg => ?_) fun hg => ?_; case' _ => refine zMv ?_)
  all_goals first | (refine zY ?_; refine aops_call_b zRc (inside_con c s hs) rfl rfl (fun c17 hc17 => ?_)) | refine zU ?_ | refine zNf ?_ | (refine zGf (fun hg => ?_) fun hg => ?_; case' _ => refine aops_call_b zRc (inside_con c s hs) rfl rfl (fun c17 hc17 => ?_))
  all_goals first | (refine zY ?_; refine zNo ?_) | refine zU ?_ | refine zNf ?_ | (refine zGf (fun hg => ?_) fun hg => ?_; case' _ => refine zNo ?_)
  all_goals refine zPk ?_
  all_goals (
    refine zN ?_
    refine zC (fun hc => ?_) fun hc => ?_
    · first
      | (exact absurd hc (by decide))
      | (refine awp_seq ?_
         refine awp_region ?_; refine zAs ?_; refine zN ?_; refine awp_ret ?_; refine seqQ_r ?_
         refine post_is (.tmp rfl .nil) zKeep ?_
         first | (rw [quorum_f1 (hc17.trans (not_t (by with_reducible assumption)))]; rfl) | (rw [quorum_f2 (by with_reducible assumption)]; rfl)
        )
    · first
      | (exact absurd hc (by decide))
      | (have hi0 := hc17.trans (not_f hc)
         have hin := (insideC_iff hs).1 hi0
         refine awp_skip ?_; refine seqQ_n ?_; refine zS ?_; refine zLd ?_; refine zMv ?_
         (refine aops_call zRc (unh_con c s hs hin) zSplit rfl rfl ?_; rintro _ _ ⟨k, b, rfl, hb1, hb0, rfl⟩)
         refine zMv ?_
         refine zP (ap_extract rfl rfl) ?_
         refine zP (ap_extract rfl rfl) ?_
         refine zAs ?_; refine zAs ?_; refine zN (zS ?_); refine zMv ?_; refine zNo ?_; refine zAs ?_; refine zN ?_; refine awp_ret ?_
         refine post_is (.tmp rfl .nil) zKeep ?_
         rw [quorum_t (by with_reducible assumption) hi0 hb1 hb0]; rfl
        )
    )
theorem rNodes_con (s : Int) : Con none Tryz.prog 68 [.i s] [] (Is (.sl 1 ((nodesOf s).map .i)) []) := by
  have hcap : capB = 140737488355328 := rfl
  refine con_intro Tryz.func68 rfl Tryz.call68 rfl ?_
  refine zS ?_; refine zAs ?_; refine zN (zS ?_); refine zAs ?_; refine zN ?_; refine awp_seq ?_; refine zS ?_; refine zAs ?_; refine zN ?_; refine awp_block ?_
  refine awp_loop3 [0] [] (fun (k : Nat) (v : Value) (q : List Int) r => (3, .v v) :: (4, .i (k : Int)) :: r) (fun (k : Nat) (v : Value) (q : List Int) r => .arr v 3 1 (q.map .i) :: r) (fun (k : Nat) (v : Value) (q : List Int) => k ≤ 10 ∧ q.length ≤ k ∧ q = (upTo k).filter fun x => has s x) (fun (k : Nat) (v : Value) (q : List Int) => 10 - k) (0) (.slice none 0 0) ([]) zRc ⟨by omega, by simp, rfl⟩ ((wk_own 3 1 rfl).trans (wk zSub zKeep)) ?_
  intro k v q ⟨hk, hql, hI⟩
  refine awp_seq ?_; refine zS ?_; refine zMv ?_; refine zCm ?_; refine zN ?_
  refine zC (fun hc => ?_) fun hc => ?_
  · have hlt := of_decide_eq_true hc
    refine awp_skip ?_; refine seqQ_n ?_; refine awp_seq ?_; refine awp_block ?_; refine zS ?_; refine zMv ?_; refine zMv ?_
    refine aops_call_b zRc (rhas_con _ _) rfl rfl (fun c11 hc11 => ?_)
    refine zN ?_
    refine zC (fun hc => ?_) fun hc => ?_
    · refine awp_region ?_
      refine zMv ?_; refine zMv ?_
      refine aops_lit (e := 3) (sz := 1) (by_ := 8) rfl rfl zRc rfl rfl rfl rfl ?_
      first | refine aops_append (e := 3) (sz := 1) (by_ := 8) rfl zUpd rfl rfl rfl rfl rfl zLen (fun v15 hv15 => ?_) | refine aops_append_nil (e := 3) (sz := 1) (by_ := 8) rfl rfl rfl rfl rfl rfl zLen (fun v15 hv15 => ?_)
      refine zAs ?_; refine aops_nil ?_; refine blockQ_n ?_; refine seqQ_n ?_; refine awp_region ?_; refine zMv ?_; refine zAr ?_; refine zAs ?_; refine zN ?_
      first | (rw [mapi_snoc]; refine ⟨k + 1, _, q ++ [(k : Int)], ⟨by omega, by simp only [List.length_append, List.length_cons, List.length_nil]; omega, by rw [nodesTo_succ, if_pos (hc11.trans (by with_reducible assumption)), ← hI]⟩, by omega, wk zSub zKeep⟩) | refine ⟨k + 1, _, q, ⟨by omega, by omega, by rw [nodesTo_succ, if_neg (by rw [hc11.trans (by with_reducible assumption)]; decide), ← hI, List.append_nil]⟩, by omega, wk zSub zKeep⟩
    · refine awp_skip ?_
      refine blockQ_n ?_; refine seqQ_n ?_; refine awp_region ?_; refine zMv ?_; refine zAr ?_; refine zAs ?_; refine zN ?_
      first | (rw [mapi_snoc]; refine ⟨k + 1, _, q ++ [(k : Int)], ⟨by omega, by simp only [List.length_append, List.length_cons, List.length_nil]; omega, by rw [nodesTo_succ, if_pos (hc11.trans (by with_reducible assumption)), ← hI]⟩, by omega, wk zSub zKeep⟩) | refine ⟨k + 1, _, q, ⟨by omega, by omega, by rw [nodesTo_succ, if_neg (by rw [hc11.trans (by with_reducible assumption)]; decide), ← hI, List.append_nil]⟩, by omega, wk zSub zKeep⟩
  · have hge := of_decide_eq_false hc
    obtain rfl : k = 10 := by omega
    refine awp_exit ?_; refine seqQ_x ?_; refine seqQ_x ?_; refine blockQ_x rfl ?_; refine seqQ_n ?_; refine awp_seq ?_
    refine awp_freeze v [3] zRem zSelC zHeapA ?_
    refine awp_region ?_; refine zMv ?_; refine zAs ?_; refine zN ?_; refine awp_ret ?_
    refine post_is (.tmp rfl .nil) zKeep ?_
    rw [hI]; rfl
theorem rdecl_con (c : List Mem) : Con none Tryz.prog 67 [cv c] [] (Is (.i (declC c : Int)) []) := by
  have hcap : capB = 140737488355328 := rfl
  have hl1 : (c.map mv).length = c.length := by simp
  refine con_intro Tryz.func67 rfl Tryz.call67 rfl ?_
  refine zS ?_
  refine aops_box rfl zFlat rfl rfl (fun b1 => ?_)
  refine zAs ?_; refine zN (zS ?_); refine zAs ?_; refine zN ?_; refine awp_seq ?_; refine zS ?_; refine zF 0 1 false ?_; refine zL1 ?_
  first | refine aops_len rfl rfl rfl rfl (fun _ => ?_) | refine zP (ap_len_arr rfl zUpd rfl) ?_ | refine zP (ap_len_nil rfl rfl) ?_
  refine zMv ?_; refine zN ?_; refine awp_block ?_
  refine awp_loop2 [7, 8] [] (fun (k : Nat) (s : Nat) r => (3, .i (s : Int)) :: (9, .i (k : Int)) :: r) (fun (k : Nat) (s : Nat) r => r) (fun (k : Nat) (s : Nat) => k ≤ c.length ∧ s < 1024 ∧ declGo s k (c.drop k) = declC c) (fun (k : Nat) (s : Nat) => c.length - k) (0) (0) zRc ⟨by omega, by omega, by simp [declC]⟩ (wk zSub zKeep) ?_
  intro k s ⟨hk, hs, hI⟩
  refine zS ?_; refine zCm ?_; refine zN ?_; refine awp_seq ?_
  refine zC (fun hc => ?_) fun hc => ?_
  · have hlt := of_decide_eq_true hc
    obtain ⟨x, hx, hd⟩ := drop_cons (l := c) (k := k) (by omega)
    have hx' := getMap mv hx
    refine awp_skip ?_; refine seqQ_n ?_; refine awp_seq ?_; refine awp_block ?_; refine zS ?_; refine zMv ?_
    first | refine zP (ap_index rfl rfl rfl rfl (by decide) rfl zAss) ?_ | refine zP (ap_index rfl rfl rfl rfl (by decide) (by omega) zAss) ?_ | refine zP (ap_index_own rfl rfl rfl rfl rfl (by first | omega | (simp only [List.length_map, List.length_set, avs_len]; omega))) ?_
    refine zLd ?_
    refine aops_alloc rfl zRc rfl rfl (fun b5 => ?_)
    refine zAs ?_; refine zSt ?_; refine zN (zS ?_); refine zMv ?_; refine zCm ?_; refine zMv ?_
    all_goals first | (refine zY ?_; refine zF 0 1 false ?_) | refine zU ?_ | refine zNt ?_ | (refine zGt (fun hg => ?_) fun hg => ?_; case' _ => refine zF 0 1 false ?_)
    all_goals first | (refine zY ?_; refine zL1 ?_) | refine zU ?_ | refine zNt ?_ | (refine zGt (fun hg => ?_) fun hg => ?_; case' _ => refine zL1 ?_)
    all_goals refine zPk ?_
    all_goals (
      refine zN ?_
      refine zC (fun hc => ?_) fun hc => ?_
      · first
        | (exact absurd hc (by decide))
        | (first | (have h10 := of_decide_eq_true hg; have hp := pow_lt10 (k := k) (by omega)) | exact absurd hc (by decide)
           refine awp_region ?_; refine zMv ?_; refine zMv ?_
           refine zP (ap_shl (p := 1) rfl rfl rfl (by omega) (by omega)) ?_
           refine zP (ap_bits rfl rfl rfl (by omega) (by omega)) ?_
           refine zAs ?_; refine aops_nil ?_; refine blockQ_n ?_; refine seqQ_n ?_; refine awp_region ?_; refine zAr ?_; refine zMv ?_; refine zN ?_
           rw [hd] at hI; simp only [declGo] at hI
           first | (rw [if_pos (by rw [show x.decl = true by with_reducible assumption, show decide ((k : Int) < 10) = true by with_reducible assumption]; rfl)] at hI; refine ⟨k + 1, s ||| 2 ^ k, ⟨by omega, Nat.or_lt_two_pow (n := 10) hs (pow_lt10 (by have := of_decide_eq_true (show decide ((k : Int) < 10) = true by with_reducible assumption); omega)), hI⟩, by omega, ?_⟩; rw [Nat.one_mul]; exact (wk zSub zKeep)) | (rw [if_neg (by first | (rw [show x.decl = false by with_reducible assumption]; simp; done) | (rw [show decide ((k : Int) < 10) = false by with_reducible assumption]; simp; done))] at hI; refine ⟨k + 1, s, ⟨by omega, hs, hI⟩, by omega, wk zSub zKeep⟩)
          )
      · first
        | (exact absurd hc (by decide))
        | (refine awp_skip ?_
           refine blockQ_n ?_; refine seqQ_n ?_; refine awp_region ?_; refine zAr ?_; refine zMv ?_; refine zN ?_
           rw [hd] at hI; simp only [declGo] at hI
           first | (rw [if_pos (by rw [show x.decl = true by with_reducible assumption, show decide ((k : Int) < 10) = true by with_reducible assumption]; rfl)] at hI; refine ⟨k + 1, s ||| 2 ^ k, ⟨by omega, Nat.or_lt_two_pow (n := 10) hs (pow_lt10 (by have := of_decide_eq_true (show decide ((k : Int) < 10) = true by with_reducible assumption); omega)), hI⟩, by omega, ?_⟩; rw [Nat.one_mul]; exact (wk zSub zKeep)) | (rw [if_neg (by first | (rw [show x.decl = false by with_reducible assumption]; simp; done) | (rw [show decide ((k : Int) < 10) = false by with_reducible assumption]; simp; done))] at hI; refine ⟨k + 1, s, ⟨by omega, hs, hI⟩, by omega, wk zSub zKeep⟩)
          )
      )
  · have hge := of_decide_eq_false hc
    rw [drop_nil (by omega)] at hI; simp only [declGo] at hI
    refine awp_exit ?_; refine seqQ_x ?_; refine seqQ_x ?_; refine blockQ_x rfl ?_; refine seqQ_n ?_; refine zS ?_; refine zMv ?_; refine zAs ?_; refine zN ?_; refine awp_ret ?_
    refine post_is (.tmp rfl .nil) zKeep ?_
    rw [← hI]; rfl
theorem sub_clr {s j : Nat} (hs : s < 1024) (h : s.testBit j = true) : (s : Int) - ((1 * 2 ^ j : Nat) : Int) = ((clr s j : Nat) : Int) := by
  have h1 : clr s j < 1024 := Nat.lt_of_le_of_lt (clr_le s j) hs
  have h2 : j < 10 := by
    rcases Nat.lt_or_ge j 10 with h3 | h3
    · exact h3
    · have : s < 2 ^ j := Nat.lt_of_lt_of_le hs (Nat.pow_le_pow_right (n := 2) (by omega) h3)
      rw [Nat.testBit_lt_two_pow this] at h; cases h
  have h3 := pow_lt10 h2
  have hand : clr s j &&& 2 ^ j = 0 := by
    refine Nat.eq_of_testBit_eq fun i => ?_
    rw [Nat.testBit_and, drop_bit' hs h, Nat.testBit_two_pow, Nat.zero_testBit]
    by_cases e : j = i <;> simp [e]
  have hor : clr s j ||| 2 ^ j = s := by
    refine Nat.eq_of_testBit_eq fun i => ?_
    rw [Nat.testBit_or, drop_bit' hs h, Nat.testBit_two_pow]
    by_cases e : j = i
    · subst e; simp [h]
    · simp [e]
  have h4 : BitVec.ofNat 64 (clr s j) &&& BitVec.ofNat 64 (2 ^ j) = 0#64 := by
    apply BitVec.eq_of_toNat_eq
    rw [BitVec.toNat_and, BitVec.toNat_ofNat, BitVec.toNat_ofNat, Nat.mod_eq_of_lt (by omega), Nat.mod_eq_of_lt (by omega), hand]
    rfl
  have h5 := congrArg BitVec.toNat (BitVec.add_eq_or_of_and_eq_zero _ _ h4)
  rw [BitVec.toNat_or, BitVec.toNat_add, BitVec.toNat_ofNat, BitVec.toNat_ofNat, Nat.mod_eq_of_lt (a := clr s j) (by omega), Nat.mod_eq_of_lt (a := 2 ^ j) (by omega), hor] at h5
  omega
theorem badN_nd (k : Int) : (!nd k) = badN k := by
  unfold nd badN
  by_cases h1 : 0 ≤ k <;> by_cases h2 : k < 10 <;> simp [h1, h2] <;> omega
theorem any_cons_f {p : Int → Bool} {x : Int} {r : List Int} (h : p x = false) : (x :: r).any p = r.any p := by simp [h]
theorem any_cons_t {p : Int → Bool} {x : Int} {r : List Int} (h : p x = true) : (x :: r).any p = true := by simp [h]
theorem of_con (l : List Int) : Con none Tryz.prog 220 [.sl 1 (l.map .i)] [] (Is (.tup [.i (ofGo 0 l).1, .i (ofGo 0 l).2]) []) := by
  have hcap : capB = 140737488355328 := rfl
  have hl1 : (l.map D.i).length = l.length := by simp
  refine con_intro Tryz.func220 rfl Tryz.call220 rfl ?_
  refine zS ?_; refine zAs ?_; refine zAs ?_; refine zN (zS ?_); refine zAs ?_; refine zN ?_; refine awp_seq ?_; refine zS ?_; refine zMv ?_
  first | refine aops_len rfl rfl rfl rfl (fun _ => ?_) | refine zP (ap_len_arr rfl zUpd rfl) ?_ | refine zP (ap_len_nil rfl rfl) ?_
  refine zMv ?_; refine zN ?_; refine awp_block ?_
  refine awp_loop2 [7, 8] [] (fun (k : Nat) (s : Nat) r => (4, .i (s : Int)) :: (9, .i (k : Int)) :: r) (fun (k : Nat) (s : Nat) r => r) (fun (k : Nat) (s : Nat) => k ≤ l.length ∧ s < 1024 ∧ ofGo s (l.drop k) = ofGo 0 l) (fun (k : Nat) (s : Nat) => l.length - k) (0) (0) zRc ⟨by omega, by omega, by simp⟩ (wk zSub zKeep) ?_
  intro k s ⟨hk, hs, hI⟩
  refine zS ?_; refine zCm ?_; refine zN ?_; refine awp_seq ?_
  refine zC (fun hc => ?_) fun hc => ?_
  · have hlt : k < l.length := by have := of_decide_eq_true hc; omega
    obtain ⟨x, hx, hd⟩ := drop_cons hlt
    have hx' := getMap D.i hx
    refine awp_skip ?_; refine seqQ_n ?_; refine awp_seq ?_; refine awp_block ?_; refine zS ?_
    first | refine zP (ap_index rfl rfl rfl rfl (by decide) rfl zAss) ?_ | refine zP (ap_index rfl rfl rfl rfl (by decide) (by omega) zAss) ?_ | refine zP (ap_index_own rfl rfl rfl rfl rfl (by first | omega | (simp only [List.length_map, List.length_set, avs_len]; omega))) ?_
    refine zL1 ?_; refine zAs ?_; refine zN ?_; refine awp_seq ?_; refine zS ?_; refine zMv ?_; refine zCm ?_; refine zMv ?_
    all_goals first | (refine zY ?_; refine zMv ?_) | refine zU ?_ | refine zNf ?_ | (refine zGf (fun hg => ?_) fun hg => ?_; case' _ => refine zMv ?_)
    all_goals first | (refine zY ?_; refine zCm ?_) | refine zU ?_ | refine zNf ?_ | (refine zGf (fun hg => ?_) fun hg => ?_; case' _ => refine zCm ?_)
    all_goals refine zPk ?_
    all_goals (
      refine zN ?_
      refine zC (fun hc => ?_) fun hc => ?_
      · first
        | (exact absurd hc (by decide))
        | (refine awp_seq ?_
           refine awp_region ?_; refine zAs ?_; refine zAs ?_; refine zN ?_; refine awp_ret ?_; refine seqQ_r ?_; refine blockQ_r ?_; refine seqQ_r ?_; refine seqQ_r ?_; refine blockQ_r ?_; refine seqQ_r ?_
           refine post_is (.tmp rfl (.tmp rfl .nil)) .nil ?_
           rw [hd, ofGo, if_pos (by first | (have := of_decide_eq_true hg; omega) | (have := of_decide_eq_true hc; omega))] at hI
           rw [← hI]; rfl
          )
      · first
        | (exact absurd hc (by decide))
        | (have hc2 := hc
           refine awp_skip ?_; refine seqQ_n ?_; refine awp_seq ?_; refine zS ?_; refine zMv ?_; refine zMv ?_
           refine aops_call_v zRc (has_con _ _) rfl rfl ?_
           refine zN ?_
           refine zC (fun hc => ?_) fun hc => ?_
           · refine awp_seq ?_
             refine awp_region ?_; refine zAs ?_; refine zAs ?_; refine zN ?_; refine awp_ret ?_; refine seqQ_r ?_; refine blockQ_r ?_; refine seqQ_r ?_; refine seqQ_r ?_; refine blockQ_r ?_; refine seqQ_r ?_
             refine post_is (.tmp rfl (.tmp rfl .nil)) .nil ?_
             have h3 := of_decide_eq_false hg
             have h4 := of_decide_eq_false hc2
             rw [hd, ofGo, if_neg (by omega), if_pos hc] at hI
             rw [← hI]; rfl
           · refine awp_skip ?_
             refine seqQ_n ?_
             obtain ⟨q, rfl, hq⟩ := badN_f hg hc2
             have hp2 := pow_lt10 hq
             refine awp_region ?_; refine zMv ?_; refine zMv ?_
             refine zP (ap_shl (p := 1) rfl rfl rfl (by omega) (by omega)) ?_
             refine zP (ap_bits rfl rfl rfl (by omega) (by omega)) ?_
             refine zAs ?_; refine aops_nil ?_; refine blockQ_n ?_; refine seqQ_n ?_; refine awp_region ?_; refine zAr ?_; refine zMv ?_; refine zN ?_
             rw [hd, ofGo, if_neg (by omega), if_neg (by simp [hc])] at hI
             refine ⟨k + 1, s ||| 1 * 2 ^ q, ⟨by omega, or_lt10 hs hq, ?_⟩, by omega, wk zSub zKeep⟩
             simpa using hI
          )
      )
  · have hge : l.length ≤ k := by have := of_decide_eq_false hc; omega
    rw [drop_nil hge] at hI; simp only [ofGo] at hI
    refine awp_exit ?_; refine seqQ_x ?_; refine seqQ_x ?_; refine blockQ_x rfl ?_; refine seqQ_n ?_; refine zS ?_; refine zMv ?_; refine zAs ?_; refine zAs ?_; refine zN ?_; refine awp_ret ?_
    refine post_is (.tmp rfl (.tmp rfl .nil)) .nil ?_
    rw [← hI]; rfl
theorem indexF_con (f : FuncId) (p : Int → Bool) (hf : ∀ k : Int, Con none Tryz.prog f [.i k] [] (Is (.b (p k)) [])) (l : List Int) : Con none Tryz.prog 249 [.sl 1 (l.map .i), .v (.func (.func f) #[] #[])] [] (fun d H => ∃ r : Int, d = .i r ∧ decide (0 ≤ r) = l.any p ∧ H = []) := by
  have hcap : capB = 140737488355328 := rfl
  have hl1 : (l.map D.i).length = l.length := by simp
  refine con_intro Tryz.func249 rfl Tryz.call249 rfl ?_
  refine zS ?_; refine zAs ?_; refine zN ?_; refine awp_seq ?_; refine zS ?_; refine zMv ?_
  first | refine aops_len rfl rfl rfl rfl (fun _ => ?_) | refine zP (ap_len_arr rfl zUpd rfl) ?_ | refine zP (ap_len_nil rfl rfl) ?_
  refine zMv ?_; refine zN ?_; refine awp_block ?_
  refine awp_loop1 [0, 1, 7] [] (fun (k : Nat) r => (8, .i (k : Int)) :: r) (fun (k : Nat) r => r) (fun (k : Nat) => k ≤ l.length ∧ (l.drop k).any p = l.any p) (fun (k : Nat) => l.length - k) (0) zRc ⟨by omega, by simp⟩ (wk zSub zKeep) ?_
  intro k ⟨hk, hI⟩
  refine zS ?_; refine zCm ?_; refine zN ?_; refine awp_seq ?_
  refine zC (fun hc => ?_) fun hc => ?_
  · have hlt : k < l.length := by have := of_decide_eq_true hc; omega
    obtain ⟨x, hx, hd⟩ := drop_cons hlt
    have hx' := getMap D.i hx
    rw [hd] at hI
    refine awp_skip ?_; refine seqQ_n ?_; refine awp_seq ?_; refine awp_block ?_; refine zS ?_; refine zMv ?_; refine zAs ?_; refine zN (zS ?_); refine zMv ?_; refine zMv ?_; refine zMv ?_
    first | refine zP (ap_index rfl rfl rfl rfl (by decide) rfl zAss) ?_ | refine zP (ap_index rfl rfl rfl rfl (by decide) (by omega) zAss) ?_ | refine zP (ap_index_own rfl rfl rfl rfl rfl (by first | omega | (simp only [List.length_map, List.length_set, avs_len]; omega))) ?_
    refine zL1 ?_
    refine aops_callv_b (caps := []) rfl zRc (hf x) rfl rfl (fun c16 hc16 => ?_)
    refine zN ?_
    refine zC (fun hc => ?_) fun hc => ?_
    · refine awp_seq ?_
      refine awp_region ?_; refine zMv ?_; refine zAs ?_; refine zN ?_; refine awp_ret ?_; refine blockQ_r ?_; refine seqQ_r ?_; refine seqQ_r ?_; refine blockQ_r ?_; refine seqQ_r ?_
      refine post_ret (.tmp rfl .nil) zKeep ⟨_, rfl, ?_, rfl⟩
      rw [any_cons_t (hc16.trans hc)] at hI
      rw [← hI]; exact decide_eq_true (by omega)
    · refine awp_skip ?_
      refine blockQ_n ?_; refine seqQ_n ?_; refine awp_region ?_; refine zAr ?_; refine zMv ?_; refine zN ?_
      rw [any_cons_f (hc16.trans hc)] at hI
      refine ⟨k + 1, ⟨by omega, hI⟩, by omega, wk zSub zKeep⟩
  · have hge : l.length ≤ k := by have := of_decide_eq_false hc; omega
    rw [drop_nil hge] at hI
    refine awp_exit ?_; refine seqQ_x ?_; refine seqQ_x ?_; refine blockQ_x rfl ?_; refine seqQ_n ?_; refine zS ?_; refine zAs ?_; refine zN ?_; refine awp_ret ?_
    refine post_ret (.tmp rfl .nil) zKeep ⟨_, rfl, ?_, rfl⟩
    rw [← hI]; rfl
theorem containsF_con (f : FuncId) (p : Int → Bool) (hf : ∀ k : Int, Con none Tryz.prog f [.i k] [] (Is (.b (p k)) [])) (l : List Int) : Con none Tryz.prog 218 [.sl 1 (l.map .i), .v (.func (.func f) #[] #[])] [] (Is (.b (l.any p)) []) := by
  have hcap : capB = 140737488355328 := rfl
  refine con_intro Tryz.func218 rfl Tryz.call218 rfl ?_
  refine zS ?_; refine zAs ?_; refine zN (zS ?_); refine zMv ?_; refine zMv ?_
  (refine aops_call zRc (indexF_con f p hf l) zSplit rfl rfl ?_; rintro _ _ ⟨r, rfl, hr, rfl⟩)
  refine zCm ?_; refine zAs ?_; refine zN ?_; refine awp_ret ?_
  refine post_is (.tmp rfl .nil) zKeep ?_
  rw [← hr]; rfl
theorem lev1_con (k : Int) : Con none Tryz.prog 219 [.i k] [] (Is (.b (badN k)) []) := by
  have hcap : capB = 140737488355328 := rfl
  refine con_intro Tryz.func219 rfl Tryz.call219 rfl ?_
  refine zS ?_; refine zAs ?_; refine zN (zS ?_); refine zMv ?_
  refine aops_call_v zRc (node_con _) rfl rfl ?_
  refine zNo ?_; refine zAs ?_; refine zN ?_; refine awp_ret ?_
  refine post_is (.tmp rfl .nil) zKeep ?_
  rw [← badN_nd]; rfl
theorem level_con : ∀ (t : Trust), Con none Tryz.prog 191 [av t] [] (Is (.i (checkT t)) []) := by
  have hcap : capB = 140737488355328 := rfl
  intro t
  induction t using Trust.ind with
  | _ t ih =>
    have hl1 : (t.nodes.map D.i).length = t.nodes.length := by simp
    have hl2 := avs_len t.inner
    refine con_intro Tryz.func191 rfl Tryz.call191 rfl ?_
    refine zS ?_
    refine aops_box rfl zFlat rfl rfl (fun b1 => ?_)
    refine zAs ?_; refine zN ?_; refine awp_seq ?_; refine zS ?_; refine zF 0 1 false ?_; refine zL1 ?_; refine zCm ?_; refine zMv ?_
    all_goals first | (refine zY ?_; refine zF 0 1 false ?_) | refine zU ?_ | refine zNf ?_ | (refine zGf (fun hg => ?_) fun hg => ?_; case' _ => refine zF 0 1 false ?_)
    all_goals first | (refine zY ?_; refine zL1 ?_) | refine zU ?_ | refine zNf ?_ | (refine zGf (fun hg => ?_) fun hg => ?_; case' _ => refine zL1 ?_)
    all_goals first | (refine zY ?_; refine zF 1 1 false ?_) | refine zU ?_ | refine zNf ?_ | (refine zGf (fun hg => ?_) fun hg => ?_; case' _ => refine zF 1 1 false ?_)
    all_goals first | (refine zY ?_; refine zL1 ?_) | refine zU ?_ | refine zNf ?_ | (refine zGf (fun hg => ?_) fun hg => ?_; case' _ => refine zL1 ?_)
    all_goals first | (refine zY ?_; (first | refine aops_len rfl rfl rfl rfl (fun _ => ?_) | refine zP (ap_len_arr rfl zUpd rfl) ?_ | refine zP (ap_len_nil rfl rfl) ?_)) | refine zU ?_ | refine zNf ?_ | (refine zGf (fun hg => ?_) fun hg => ?_; case' _ => (first | refine aops_len rfl rfl rfl rfl (fun _ => ?_) | refine zP (ap_len_arr rfl zUpd rfl) ?_ | refine zP (ap_len_nil rfl rfl) ?_))
    all_goals first | (refine zY ?_; refine zF 2 1 false ?_) | refine zU ?_ | refine zNf ?_ | (refine zGf (fun hg => ?_) fun hg => ?_; case' _ => refine zF 2 1 false ?_)
    all_goals first | (refine zY ?_; refine zL1 ?_) | refine zU ?_ | refine zNf ?_ | (refine zGf (fun hg => ?_) fun hg => ?_; case' _ => refine zL1 ?_)
    all_goals first | (refine zY ?_; (first | refine aops_len rfl rfl rfl rfl (fun _ => ?_) | refine zP (ap_len_arr rfl zUpd rfl) ?_ | refine zP (ap_len_nil rfl rfl) ?_)) | refine zU ?_ | refine zNf ?_ | (refine zGf (fun hg => ?_) fun hg => ?_; case' _ => (first | refine aops_len rfl rfl rfl rfl (fun _ => ?_) | refine zP (ap_len_arr rfl zUpd rfl) ?_ | refine zP (ap_len_nil rfl rfl) ?_))
    all_goals first | (refine zY ?_; refine zAr ?_) | refine zU ?_ | refine zNf ?_ | (refine zGf (fun hg => ?_) fun hg => ?_; case' _ => refine zAr ?_)
    all_goals first | (refine zY ?_; refine zCm ?_) | refine zU ?_ | refine zNf ?_ | (refine zGf (fun hg => ?_) fun hg => ?_; case' _ => refine zCm ?_)
    all_goals refine zPk ?_
    all_goals (
      refine zN ?_
      refine zC (fun hc => ?_) fun hc => ?_
      · first
        | (exact absurd hc (by decide))
        | (refine awp_seq ?_
           refine awp_region ?_; refine zAs ?_; refine zN ?_; refine awp_ret ?_; refine seqQ_r ?_
           refine post_is (.tmp rfl .nil) .nil ?_
           simp only [resD, checkT]; rw [if_pos (by first | (have := of_decide_eq_true hg; omega) | (have := of_decide_eq_true hc; omega))]
          )
      · first
        | (exact absurd hc (by decide))
        | (have hth : ¬ (t.th < 1 ∨ (t.nodes.length + t.inner.length : Int) < t.th) := by have h1 := of_decide_eq_false hg; have h2 := of_decide_eq_false hc; omega
           refine awp_skip ?_; refine seqQ_n ?_; refine awp_seq ?_; refine zS ?_; refine zF 1 1 false ?_; refine zL1 ?_
           refine aops_call_v zRc (containsF_con _ badN lev1_con t.nodes) rfl rfl ?_
           refine zN ?_
           refine zC (fun hc => ?_) fun hc => ?_
           · have hany := hc
             refine zS ?_; refine zAs ?_; refine zN ?_; refine awp_ret ?_; refine seqQ_r ?_
             refine post_is (.tmp rfl .nil) .nil ?_
             simp only [resD, checkT]; rw [if_neg hth, if_pos hany]
           · have hany := hc
             refine awp_skip ?_; refine seqQ_n ?_; refine awp_seq ?_; refine zS ?_; refine zF 1 1 false ?_; refine zL1 ?_
             refine aops_call_v zRc (of_con t.nodes) rfl rfl ?_
             refine zMv ?_
             refine zP (ap_extract rfl rfl) ?_
             refine zP (ap_extract rfl rfl) ?_
             refine zAs ?_; refine zAs ?_; refine zN (zS ?_); refine zMv ?_; refine zCm ?_; refine zN ?_
             refine zC (fun hc => ?_) fun hc => ?_
             · have he := hc
               refine zS ?_; refine zMv ?_; refine zAs ?_; refine zN ?_; refine awp_ret ?_; refine seqQ_r ?_
               refine post_is (.tmp rfl .nil) .nil ?_
               simp only [resD, checkT]; rw [if_neg hth, if_neg (by rw [hany]; simp), if_pos (by simpa using he)]
             · have he := hc
               refine awp_skip ?_; refine seqQ_n ?_; refine awp_seq ?_; refine zS ?_; refine zF 2 1 false ?_; refine zL1 ?_
               first | refine aops_len rfl rfl rfl rfl (fun _ => ?_) | refine zP (ap_len_arr rfl zUpd rfl) ?_ | refine zP (ap_len_nil rfl rfl) ?_
               refine zMv ?_; refine zN ?_; refine awp_block ?_
               refine awp_loop1 [36, 37] [] (fun (k : Nat) r => (38, .i (k : Int)) :: r) (fun (k : Nat) r => r) (fun (k : Nat) => k ≤ t.inner.length ∧ checkL (t.inner.drop k) = checkL t.inner) (fun (k : Nat) => t.inner.length - k) (0) zRc ⟨by omega, by simp⟩ (wk zSub zKeep) ?_
               intro k ⟨hk, hI⟩
               refine zS ?_; refine zCm ?_; refine zN ?_; refine awp_seq ?_
               refine zC (fun hc => ?_) fun hc => ?_
               · have hlt : k < t.inner.length := by have := of_decide_eq_true hc; omega
                 obtain ⟨x, hx, hd⟩ := drop_cons hlt
                 have hx' := avs_get hx
                 have hxm := List.mem_of_getElem? hx
                 refine awp_skip ?_; refine seqQ_n ?_; refine awp_seq ?_; refine awp_block ?_; refine zS ?_
                 first | refine zP (ap_index rfl rfl rfl rfl (by decide) rfl zAss) ?_ | refine zP (ap_index rfl rfl rfl rfl (by decide) (by omega) zAss) ?_ | refine zP (ap_index_own rfl rfl rfl rfl rfl (by first | omega | (simp only [List.length_map, List.length_set, avs_len]; omega))) ?_
                 refine zLd ?_
                 refine aops_alloc rfl zRc rfl rfl (fun b6 => ?_)
                 refine zSt ?_; refine zN (zS ?_); refine zLd ?_
                 refine aops_call_v zRc (ih _ hxm) rfl rfl ?_
                 refine zAs ?_; refine zN (zS ?_); refine zMv ?_; refine zCm ?_; refine zN ?_
                 refine zC (fun hc => ?_) fun hc => ?_
                 · refine awp_seq ?_
                   refine awp_region ?_; refine zMv ?_; refine zAs ?_; refine zN ?_; refine awp_ret ?_; refine blockQ_r ?_; refine seqQ_r ?_; refine seqQ_r ?_; refine blockQ_r ?_; refine seqQ_r ?_
                   refine post_is (.tmp rfl .nil) .nil ?_
                   rw [hd, checkL_cons, if_pos (by simpa using hc)] at hI
                   have e : checkT t = checkL t.inner := by unfold checkT; rw [if_neg hth, if_neg (by rw [hany]; simp), if_neg (by simpa using he)]
                   simp only [resD]; rw [e, ← hI]
                 · refine awp_skip ?_
                   refine blockQ_n ?_; refine seqQ_n ?_; refine awp_region ?_; refine zAr ?_; refine zMv ?_; refine zN ?_
                   have hz := of_decide_eq_true (Bool.not_eq_false' .. ▸ hc)
                   rw [hd, checkL_cons, if_neg (by simpa using hz)] at hI
                   refine ⟨k + 1, ⟨by omega, hI⟩, by omega, wk zSub zKeep⟩
               · have hge : t.inner.length ≤ k := by have := of_decide_eq_false hc; omega
                 rw [drop_nil hge] at hI; simp only [checkL] at hI
                 refine awp_exit ?_; refine seqQ_x ?_; refine seqQ_x ?_; refine blockQ_x rfl ?_; refine seqQ_n ?_; refine zS ?_; refine zAs ?_; refine zN ?_; refine awp_ret ?_
                 refine post_is (.tmp rfl .nil) .nil ?_
                 have e : checkT t = checkL t.inner := by unfold checkT; rw [if_neg hth, if_neg (by rw [hany]; simp), if_neg (by simpa using he)]
                 simp only [resD]; rw [e, ← hI]
          )
      )
theorem validT_con (t : Trust) (ht : sizeT t ≤ 1000000000) : Con none Tryz.prog 151 [av t] [] (Is (.i (validT t)) []) := by
  have hcap : capB = 140737488355328 := rfl
  refine con_intro Tryz.func151 rfl Tryz.call151 rfl ?_
  refine zS ?_
  refine aops_box rfl zFlat rfl rfl (fun b1 => ?_)
  refine zAs ?_; refine zN ?_; refine awp_seq ?_; refine zS ?_; refine zLd ?_
  refine aops_call_v zRc (depth_con 1000000000 (by omega) t ht) rfl rfl ?_
  refine zCm ?_; refine zMv ?_
  all_goals first | (refine zY ?_; refine zLd ?_) | refine zU ?_ | refine zNf ?_ | (refine zGf (fun hg => ?_) fun hg => ?_; case' _ => refine zLd ?_)
  all_goals first | (refine zY ?_; refine aops_call_v zRc (size_con 1000000000 (by omega) t ht) rfl rfl ?_) | refine zU ?_ | refine zNf ?_ | (refine zGf (fun hg => ?_) fun hg => ?_; case' _ => refine aops_call_v zRc (size_con 1000000000 (by omega) t ht) rfl rfl ?_)
  all_goals first | (refine zY ?_; refine zCm ?_) | refine zU ?_ | refine zNf ?_ | (refine zGf (fun hg => ?_) fun hg => ?_; case' _ => refine zCm ?_)
  all_goals refine zPk ?_
  all_goals (
    refine zN ?_
    refine zC (fun hc => ?_) fun hc => ?_
    · first
      | (exact absurd hc (by decide))
      | (refine awp_seq ?_
         refine awp_region ?_; refine zAs ?_; refine zN ?_; refine awp_ret ?_; refine seqQ_r ?_
         refine post_is (.tmp rfl .nil) .nil ?_
         simp only [resD, validT]; rw [if_pos (by first | (have := of_decide_eq_true hg; omega) | (have := of_decide_eq_true hc; omega))]
        )
    · first
      | (exact absurd hc (by decide))
      | (refine awp_skip ?_
         refine seqQ_n ?_; refine zS ?_; refine zLd ?_
         refine aops_call_v zRc (level_con t) rfl rfl ?_
         refine zAs ?_; refine zN ?_; refine awp_ret ?_
         refine post_is (.tmp rfl .nil) .nil ?_
         simp only [resD, validT]; rw [if_neg (by have h1 := of_decide_eq_false hg; have h2 := of_decide_eq_false hc; omega)]
        )
    )
theorem op_ints {w : World} (n : Nat) : OpN Tryz.prog w 22 n (List Int) (fun l => [.sl 1 (l.map .i)]) :=
  op_slice Tryz.underlying22 zKr (by omega) (of_decide_eq_true zKr) mk_int (fun m _ => op_int Tryz.underlying3)
theorem op_trust {w : World} : ∀ n, OpN Tryz.prog w 48 n Trust (fun t => [.i t.th, .sl 1 (t.nodes.map .i), .sl 3 (avs t.inner)]) := by
  intro n
  induction n using Nat.strongRecOn with
  | ind n ih =>
    refine op_struct Tryz.underlying48 zKr (fun m hm => ?_)
    refine (opf_cons zKr (op_int Tryz.underlying3) (opf_cons zKr (op_ints m) (opf_cons zKr (op_slice (sz := 3) (mk := fun t => .agg [.i t.th, .sl 1 (t.nodes.map .i), .sl 3 (avs t.inner)]) Tryz.underlying46 zKr (by omega) (of_decide_eq_true zKr) (mk_agg _) (fun k hk => ih k (by omega))) opf_nil))).map (fun p => .mk p.1 p.2.1 p.2.2.1) ?_
    intro p
    show _ = [D.i p.1, D.sl 1 (p.2.1.map D.i), D.sl 3 (avs p.2.2.1)]
    rw [avs_map]
    rfl
theorem op_config {w : World} (n : Nat) : OpN Tryz.prog w 28 n (List Mem) (fun c => [.sl 4 (c.map mv)]) := by
  refine op_struct Tryz.underlying28 zKr (fun m hm => ?_)
  refine (opf_cons zKr (op_slice (sz := 4) (mk := mv) (toC := fun x : Mem => [.b x.decl, .i x.t.th, .sl 1 (x.t.nodes.map .i), .sl 3 (avs x.t.inner)]) Tryz.underlying26 zKr (by omega) (of_decide_eq_true zKr) (mk_agg _) (fun k hk => ?_)) opf_nil).map (fun p => p.1) (fun p => rfl)
  refine op_struct Tryz.underlying101 zKr (fun j hj => ?_)
  exact (opf_cons zKr (op_bool Tryz.underlying4) (opf_cons zKr (op_trust j) opf_nil)).map (fun p => ⟨p.1, p.2.1⟩) (fun p => rfl)
theorem rsameI_con (x y : List Int) : Con none Tryz.prog 133 [.sl 1 (x.map .i), .sl 1 (y.map .i)] [] (Is (.b (decide (x = y))) []) := by
  have hcap : capB = 140737488355328 := rfl
  have hx1 : (x.map D.i).length = x.length := by simp
  have hy1 : (y.map D.i).length = y.length := by simp
  refine con_intro Tryz.func133 rfl Tryz.call133 rfl ?_
  refine zS ?_; refine zAs ?_; refine zN ?_; refine awp_seq ?_; refine zS ?_; refine zMv ?_
  first | refine aops_len rfl rfl rfl rfl (fun _ => ?_) | refine zP (ap_len_arr rfl zUpd rfl) ?_ | refine zP (ap_len_nil rfl rfl) ?_
  refine zMv ?_
  first | refine aops_len rfl rfl rfl rfl (fun _ => ?_) | refine zP (ap_len_arr rfl zUpd rfl) ?_ | refine zP (ap_len_nil rfl rfl) ?_
  refine zCm ?_; refine zN ?_
  refine zC (fun hc => ?_) fun hc => ?_
  · have hne := of_neq_true hc
    refine zS ?_; refine zAs ?_; refine zN ?_; refine awp_ret ?_; refine seqQ_r ?_
    refine post_is (.tmp rfl .nil) zKeep ?_
    rw [decide_eq_false (fun e => hne (by rw [e]))]; rfl
  · have hlen := of_neq_false hc
    have hll : x.length = y.length := by omega
    refine awp_skip ?_; refine seqQ_n ?_; refine awp_seq ?_; refine zS ?_; refine zMv ?_
    first | refine aops_len rfl rfl rfl rfl (fun _ => ?_) | refine zP (ap_len_arr rfl zUpd rfl) ?_ | refine zP (ap_len_nil rfl rfl) ?_
    refine zMv ?_; refine zN ?_; refine awp_block ?_
    refine awp_loop1 [0, 1, 12] [] (fun (k : Nat) r => (13, .i (k : Int)) :: r) (fun (k : Nat) r => r) (fun (k : Nat) => k ≤ x.length ∧ x.take k = y.take k) (fun (k : Nat) => x.length - k) (0) zRc ⟨by omega, by simp⟩ (wk zSub zKeep) ?_
    intro k ⟨hk, hI⟩
    refine zS ?_; refine zCm ?_; refine zN ?_; refine awp_seq ?_
    refine zC (fun hc => ?_) fun hc => ?_
    · have hlt := of_decide_eq_true hc
      obtain ⟨u, hu, _⟩ := drop_cons (l := x) (k := k) (by omega)
      obtain ⟨v, hv, _⟩ := drop_cons (l := y) (k := k) (by omega)
      have hu' := getMap D.i hu
      have hv' := getMap D.i hv
      refine awp_skip ?_; refine seqQ_n ?_; refine awp_seq ?_; refine awp_block ?_; refine zS ?_; refine zMv ?_; refine zAs ?_; refine zN ?_; refine awp_seq ?_
      refine awp_draw (Hm := []) zKr zSplit ?_
      refine zT 0 rfl (AP.ar (ap_move rfl)) ?_
      refine zT 1 rfl (AP.ar (ap_move rfl)) ?_
      first | refine zT 2 rfl (AP.ar (ap_index rfl rfl rfl rfl (by decide) rfl zAss)) ?_ | refine zT 2 rfl (AP.ar (ap_index rfl rfl rfl rfl (by decide) (by omega) zAss)) ?_ | refine zT 2 rfl (AP.ar (ap_index_own rfl rfl rfl rfl rfl (by first | omega | (simp only [List.length_map, List.length_set, avs_len]; omega)))) ?_
      refine zTL 3 ?_
      refine zT 4 rfl (AP.ar (ap_move rfl)) ?_
      refine zT 5 rfl (AP.ar (ap_move rfl)) ?_
      first | refine zT 6 rfl (AP.ar (ap_index rfl rfl rfl rfl (by decide) rfl zAss)) ?_ | refine zT 6 rfl (AP.ar (ap_index rfl rfl rfl rfl (by decide) (by omega) zAss)) ?_ | refine zT 6 rfl (AP.ar (ap_index_own rfl rfl rfl rfl rfl (by first | omega | (simp only [List.length_map, List.length_set, avs_len]; omega)))) ?_
      refine zTL 7 ?_
      refine zT 8 rfl (AP.ar (ap_cmp rfl rfl rfl)) ?_
      refine aany_nil zKr ?_
      all_goals (
        refine seqQ_n ?_
        refine zC (fun hc => ?_) fun hc => ?_
        · have hne := of_neq_true hc
          refine zS ?_; refine zAs ?_; refine zN ?_; refine awp_ret ?_; refine blockQ_r ?_; refine seqQ_r ?_; refine seqQ_r ?_; refine blockQ_r ?_; refine seqQ_r ?_
          refine post_is (.tmp rfl .nil) zKeep ?_
          rw [decide_eq_false (fun e => hne (by rw [e, hv] at hu; injection hu with hu; exact hu.symm))]; rfl
        · refine awp_skip ?_
          refine blockQ_n ?_; refine seqQ_n ?_; refine awp_region ?_; refine zAr ?_; refine zMv ?_; refine zN ?_
          have e := of_neq_false hc
          refine ⟨k + 1, ⟨by omega, by rw [List.take_add_one, List.take_add_one, hI, hu, hv, e]⟩, by omega, wk zSub zKeep⟩
        )
    · have hge := of_decide_eq_false hc
      refine awp_exit ?_; refine seqQ_x ?_; refine seqQ_x ?_; refine blockQ_x rfl ?_; refine seqQ_n ?_; refine zS ?_; refine zAs ?_; refine zN ?_; refine awp_ret ?_
      refine post_is (.tmp rfl .nil) zKeep ?_
      rw [List.take_of_length_le (by omega), List.take_of_length_le (by omega)] at hI; rw [decide_eq_true hI]; rfl
theorem same_false1 {t u : Trust} (h : ¬ t.th = u.th) : same t u = false := by unfold same; rw [decide_eq_false h, Bool.false_and]
theorem same_false2 {t u : Trust} (h : decide (t.nodes = u.nodes) = false) : same t u = false := by unfold same; rw [h, Bool.false_and, Bool.and_false]
theorem same_false3 {t u : Trust} (h : ¬ t.inner.length = u.inner.length) : same t u = false := by unfold same; rw [sameL_of_len h, Bool.and_false, Bool.and_false]
theorem same_eq {t u : Trust} (h1 : t.th = u.th) (h2 : decide (t.nodes = u.nodes) = true) : same t u = sameL t.inner u.inner := by unfold same; rw [decide_eq_true h1, h2, Bool.true_and, Bool.true_and]
theorem rsame_con : ∀ (t u : Trust), Con none Tryz.prog 96 [av t, av u] [] (Is (.b (same t u)) []) := by
  have hcap : capB = 140737488355328 := rfl
  intro t
  induction t using Trust.ind with
  | _ t ih =>
    intro u
    have hx1 := avs_len t.inner
    have hy1 := avs_len u.inner
    refine con_intro Tryz.func96 rfl Tryz.call96 rfl ?_
    refine zS ?_
    refine aops_box rfl zFlat rfl rfl (fun b2 => ?_)
    refine aops_box rfl zFlat rfl rfl (fun b3 => ?_)
    refine zAs ?_; refine zN ?_; refine awp_seq ?_; refine zS ?_; refine zF 0 1 false ?_; refine zL1 ?_; refine zF 0 1 false ?_; refine zL1 ?_; refine zCm ?_; refine zMv ?_
    all_goals first | (refine zY ?_; refine zF 1 1 false ?_) | refine zU ?_ | refine zNf ?_ | (refine zGf (fun hg => ?_) fun hg => ?_; case' _ => refine zF 1 1 false ?_)
    all_goals first | (refine zY ?_; refine zL1 ?_) | refine zU ?_ | refine zNf ?_ | (refine zGf (fun hg => ?_) fun hg => ?_; case' _ => refine zL1 ?_)
    all_goals first | (refine zY ?_; refine zF 1 1 false ?_) | refine zU ?_ | refine zNf ?_ | (refine zGf (fun hg => ?_) fun hg => ?_; case' _ => refine zF 1 1 false ?_)
    all_goals first | (refine zY ?_; refine zL1 ?_) | refine zU ?_ | refine zNf ?_ | (refine zGf (fun hg => ?_) fun hg => ?_; case' _ => refine zL1 ?_)
    all_goals first | (refine zY ?_; refine aops_call_b zRc (rsameI_con t.nodes u.nodes) rfl rfl (fun c16 hc16 => ?_)) | refine zU ?_ | refine zNf ?_ | (refine zGf (fun hg => ?_) fun hg => ?_; case' _ => refine aops_call_b zRc (rsameI_con t.nodes u.nodes) rfl rfl (fun c16 hc16 => ?_))
    all_goals first | (refine zY ?_; refine zNo ?_) | refine zU ?_ | refine zNf ?_ | (refine zGf (fun hg => ?_) fun hg => ?_; case' _ => refine zNo ?_)
    all_goals refine zPk ?_
    all_goals refine zMv ?_
    all_goals first | (refine zY ?_; refine zF 2 1 false ?_) | refine zU ?_ | refine zNf ?_ | (refine zGf (fun hg => ?_) fun hg => ?_; case' _ => refine zF 2 1 false ?_)
    all_goals first | (refine zY ?_; refine zL1 ?_) | refine zU ?_ | refine zNf ?_ | (refine zGf (fun hg => ?_) fun hg => ?_; case' _ => refine zL1 ?_)
    all_goals first | (refine zY ?_; (first | refine aops_len rfl rfl rfl rfl (fun _ => ?_) | refine zP (ap_len_arr rfl zUpd rfl) ?_ | refine zP (ap_len_nil rfl rfl) ?_)) | refine zU ?_ | refine zNf ?_ | (refine zGf (fun hg => ?_) fun hg => ?_; case' _ => (first | refine aops_len rfl rfl rfl rfl (fun _ => ?_) | refine zP (ap_len_arr rfl zUpd rfl) ?_ | refine zP (ap_len_nil rfl rfl) ?_))
    all_goals first | (refine zY ?_; refine zF 2 1 false ?_) | refine zU ?_ | refine zNf ?_ | (refine zGf (fun hg => ?_) fun hg => ?_; case' _ => refine zF 2 1 false ?_)
    all_goals first | (refine zY ?_; refine zL1 ?_) | refine zU ?_ | refine zNf ?_ | (refine zGf (fun hg => ?_) fun hg => ?_; case' _ => refine zL1 ?_)
    all_goals first | (refine zY ?_; (first | refine aops_len rfl rfl rfl rfl (fun _ => ?_) | refine zP (ap_len_arr rfl zUpd rfl) ?_ | refine zP (ap_len_nil rfl rfl) ?_)) | refine zU ?_ | refine zNf ?_ | (refine zGf (fun hg => ?_) fun hg => ?_; case' _ => (first | refine aops_len rfl rfl rfl rfl (fun _ => ?_) | refine zP (ap_len_arr rfl zUpd rfl) ?_ | refine zP (ap_len_nil rfl rfl) ?_))
    all_goals first | (refine zY ?_; refine zCm ?_) | refine zU ?_ | refine zNf ?_ | (refine zGf (fun hg => ?_) fun hg => ?_; case' _ => refine zCm ?_)
    all_goals refine zPk ?_
    all_goals (
      refine zN ?_
      refine zC (fun hc => ?_) fun hc => ?_
      · first
        | (exact absurd hc (by decide))
        | (refine awp_seq ?_
           refine awp_region ?_; refine zAs ?_; refine zN ?_; refine awp_ret ?_; refine seqQ_r ?_
           refine post_is (.tmp rfl .nil) zKeep ?_
           first
           | (rw [same_false1 (of_neq_true (show (!decide (t.th = u.th)) = true by with_reducible assumption))]; rfl)
           | (rw [same_false2 (hc16.trans (not_t (by with_reducible assumption)))]; rfl)
           | (rw [same_false3 (fun e => of_neq_true (show (!decide ((((avs t.inner).length : Nat) : Int) = ((avs u.inner).length : Nat))) = true by with_reducible assumption) (by omega))]; rfl)
          )
      · first
        | (exact absurd hc (by decide))
        | (have hth := of_neq_false (show (!decide (t.th = u.th)) = false by with_reducible assumption)
           have hns := hc16.trans (not_f (by with_reducible assumption))
           have hlen := of_neq_false (show (!decide ((((avs t.inner).length : Nat) : Int) = ((avs u.inner).length : Nat))) = false by with_reducible assumption)
           have hll : t.inner.length = u.inner.length := by omega
           refine awp_skip ?_; refine seqQ_n ?_; refine awp_seq ?_; refine zS ?_; refine zF 2 1 false ?_; refine zL1 ?_
           first | refine aops_len rfl rfl rfl rfl (fun _ => ?_) | refine zP (ap_len_arr rfl zUpd rfl) ?_ | refine zP (ap_len_nil rfl rfl) ?_
           refine zMv ?_; refine zN ?_; refine awp_block ?_
           refine awp_loop1 [2, 3, 30] [.box b2 _ _, .box b3 _ _] (fun (k : Nat) r => (31, .i (k : Int)) :: r) (fun (k : Nat) r => r) (fun (k : Nat) => k ≤ t.inner.length ∧ sameL (t.inner.drop k) (u.inner.drop k) = sameL t.inner u.inner) (fun (k : Nat) => t.inner.length - k) (0) zRc ⟨by omega, by simp⟩ (wk zSub zKeep) ?_
           intro k ⟨hk, hI⟩
           refine zS ?_; refine zCm ?_; refine zN ?_; refine awp_seq ?_
           refine zC (fun hc => ?_) fun hc => ?_
           · have hlt := of_decide_eq_true hc
             obtain ⟨y, hy, hyd⟩ := drop_cons (l := t.inner) (k := k) (by omega)
             obtain ⟨z, hz, hzd⟩ := drop_cons (l := u.inner) (k := k) (by omega)
             have hy' := avs_get hy
             have hz' := avs_get hz
             have hym := List.mem_of_getElem? hy
             refine awp_skip ?_; refine seqQ_n ?_; refine awp_seq ?_; refine awp_block ?_; refine zS ?_; refine zMv ?_; refine zAs ?_; refine zN ?_; refine awp_seq ?_
             refine awp_draw (Hm := []) zKr zSplit ?_
             refine zTF 0 2 1 false ?_; refine zTL 1 ?_
             refine zT 2 rfl (AP.ar (ap_move rfl)) ?_
             first | refine zT 3 rfl (AP.ar (ap_index rfl rfl rfl rfl (by decide) rfl zAss)) ?_ | refine zT 3 rfl (AP.ar (ap_index rfl rfl rfl rfl (by decide) (by omega) zAss)) ?_ | refine zT 3 rfl (AP.ar (ap_index_own rfl rfl rfl rfl rfl (by first | omega | (simp only [List.length_map, List.length_set, avs_len]; omega)))) ?_
             refine zTM 4 ?_; refine zTF 5 2 1 false ?_; refine zTL 6 ?_
             refine zT 7 rfl (AP.ar (ap_move rfl)) ?_
             first | refine zT 8 rfl (AP.ar (ap_index rfl rfl rfl rfl (by decide) rfl zAss)) ?_ | refine zT 8 rfl (AP.ar (ap_index rfl rfl rfl rfl (by decide) (by omega) zAss)) ?_ | refine zT 8 rfl (AP.ar (ap_index_own rfl rfl rfl rfl rfl (by first | omega | (simp only [List.length_map, List.length_set, avs_len]; omega)))) ?_
             refine zTM 9 ?_
             refine aany_one 10 zKr rfl (.none rfl) ?_
             refine aops_call_b zRc (ih y hym z) rfl rfl (fun c44 hc44 => ?_)
             refine aops_nil ?_
             refine zT 11 rfl (AP.ar (ap_not rfl)) ?_
             refine aany_nil zKr ?_
             all_goals (
               refine seqQ_n ?_
               refine zC (fun hc => ?_) fun hc => ?_
               · refine awp_seq ?_
                 refine awp_region ?_; refine zAs ?_; refine zN ?_; refine awp_ret ?_; refine blockQ_r ?_; refine seqQ_r ?_; refine seqQ_r ?_; refine blockQ_r ?_; refine seqQ_r ?_
                 refine post_is (.tmp rfl .nil) zKeep ?_
                 rw [hyd, hzd, sameL_cons, hc44.trans (not_t hc), Bool.false_and] at hI
                 rw [same_eq hth hns, ← hI]; rfl
               · refine awp_skip ?_
                 refine blockQ_n ?_; refine seqQ_n ?_; refine awp_region ?_; refine zAr ?_; refine zMv ?_; refine zN ?_
                 rw [hyd, hzd, sameL_cons, hc44.trans (not_f hc), Bool.true_and] at hI
                 refine ⟨k + 1, ⟨by omega, hI⟩, by omega, wk zSub zKeep⟩
               )
           · have hge := of_decide_eq_false hc
             rw [drop_nil (by omega), drop_nil (by omega)] at hI
             refine awp_exit ?_; refine seqQ_x ?_; refine seqQ_x ?_; refine blockQ_x rfl ?_; refine seqQ_n ?_; refine zS ?_; refine zAs ?_; refine zN ?_; refine awp_ret ?_
             refine post_is (.tmp rfl .nil) zKeep ?_
             rw [same_eq hth hns, ← hI]; rfl
          )
      )
theorem valid0 {s : Int} (h : valid s = false) : Con none Tryz.prog 128 [.i s] [] (Is (.b false) []) := by rw [← h]; exact valid_con s
theorem rvalid0 {s : Int} (h : valid s = false) : Con none Tryz.prog 66 [.i s] [] (Is (.b false) []) := by rw [← h]; exact rvalid_con s
theorem rvalidn {s : Nat} (h : s < 1024) : Con none Tryz.prog 66 [.i s] [] (Is (.b true) []) := by rw [← valid_n h]; exact rvalid_con s
theorem quorum0_con (c : List Mem) (s : Int) (hv : valid s = false) : Con none Tryz.prog 92 [cv c, .i s] [] (Is (.b false) []) := by
  have hcap : capB = 140737488355328 := rfl
  refine con_intro Tryz.func92 rfl Tryz.call92 rfl ?_
  refine zS ?_
  refine aops_box rfl zFlat rfl rfl (fun b2 => ?_)
  refine zAs ?_; refine zN ?_; refine awp_seq ?_; refine zS ?_; refine zMv ?_
  refine aops_call_v zRc (valid0 hv) rfl rfl ?_
  refine zNo ?_; refine zMv ?_
  all_goals first | (refine zY ?_; refine zMv ?_) | refine zU ?_ | refine zNf ?_ | (refine zGf (fun hg => ?_) fun hg => ?_; case' _ => refine zMv ?_)
  all_goals first | (refine zY ?_; refine zCm ?_) | refine zU ?_ | refine zNf ?_ | (refine zGf (fun hg => ?_) fun hg => ?_; case' _ => refine zCm ?_)
  all_goals refine zPk ?_
  all_goals refine zMv ?_
  all_goals first | (refine zY ?_; refine zLd ?_) | refine zU ?_ | refine zNf ?_ | (refine zGf (fun hg => ?_) fun hg => ?_; case' _ => refine zLd ?_)
  all_goals first | (refine zY ?_; refine zMv ?_) | refine zU ?_ | refine zNf ?_ | (refine zGf (fun hg => ?_) fun hg => ?_; case' _ => refine zMv ?_)
  all_goals first | (refine zY ?_; refine aops_call_v zRc (inside_con c 0 (by omega)) rfl rfl ?_) | refine zU ?_ | refine zNf ?_ | (refine zGf (fun hg => ?_) fun hg => ?_; case' _ => refine aops_call_v zRc (inside_con c 0 (by omega)) rfl rfl ?_)
  all_goals first | (refine zY ?_; refine zNo ?_) | refine zU ?_ | refine zNf ?_ | (refine zGf (fun hg => ?_) fun hg => ?_; case' _ => refine zNo ?_)
  all_goals refine zPk ?_
  all_goals (
    refine zN ?_
    refine zC (fun hc => ?_) fun hc => ?_
    · first
      | (exact absurd hc (by decide))
      | (refine awp_seq ?_
         refine awp_region ?_; refine zAs ?_; refine zN ?_; refine awp_ret ?_; refine seqQ_r ?_
         refine post_is (.tmp rfl .nil) zKeep rfl
        )
    · first
      | (exact absurd hc (by decide))
      | (refine awp_skip ?_
         refine seqQ_n ?_; refine zS ?_; refine zLd ?_; refine zMv ?_
         refine aops_call_v zRc (valid0 hv) rfl rfl ?_
         refine zMv ?_
         refine zP (ap_extract rfl rfl) ?_
         refine zP (ap_extract rfl rfl) ?_
         refine zAs ?_; refine zAs ?_; refine zN (zS ?_); refine zMv ?_; refine zNo ?_; refine zAs ?_; refine zN ?_; refine awp_ret ?_
         refine post_is (.tmp rfl .nil) zKeep rfl
        )
    )
theorem quorumV_con (c : List Mem) (s : Int) : Con none Tryz.prog 92 [cv c, .i s] [] (Is (.b (quorumV c s)) []) := by
  cases h : valid s with
  | false => rw [quorumV_inval h]; exact quorum0_con c s h
  | true =>
    obtain ⟨m, rfl, hm⟩ := valid_nat h
    rw [quorumV_nat hm]
    exact quorum_con c m hm
theorem rquorum0_con (c : List Mem) (s : Int) (hv : valid s = false) : Con none Tryz.prog 18 [cv c, .i s] [] (Is (.b false) []) := by
  have hcap : capB = 140737488355328 := rfl
  refine con_intro Tryz.func18 rfl Tryz.call18 rfl ?_
  refine zS ?_
  refine aops_box rfl zFlat rfl rfl (fun b2 => ?_)
  refine zAs ?_; refine zN ?_; refine awp_seq ?_; refine zS ?_; refine zMv ?_
  refine aops_call_v zRc (rvalid0 hv) rfl rfl ?_
  refine zNo ?_; refine zMv ?_
  all_goals first | (refine zY ?_; refine zMv ?_) | refine zU ?_ | refine zNf ?_ | (refine zGf (fun hg => ?_) fun hg => ?_; case' _ => refine zMv ?_)
  all_goals first | (refine zY ?_; refine zCm ?_) | refine zU ?_ | refine zNf ?_ | (refine zGf (fun hg => ?_) fun hg => ?_; case' _ => refine zCm ?_)
  all_goals refine zPk ?_
  all_goals refine zMv ?_
  all_goals first | (refine zY ?_; refine zMv ?_) | refine zU ?_ | refine zNf ?_ | (refine zGf (fun hg => ?_) fun hg => ?_; case' _ => refine zMv ?_)
  all_goals first | (refine zY ?_; refine zLd ?_) | refine zU ?_ | refine zNf ?_ | (refine zGf (fun hg => ?_) fun hg => ?_; case' _ => refine zLd ?_)
  all_goals first | (refine zY ?_; refine aops_call_v zRc (rdecl_con c) rfl rfl ?_) | refine zU ?_ | refine zNf ?_ | (refine zGf (fun hg => ?_) fun hg => ?_; case' _ => refine aops_call_v zRc (rdecl_con c) rfl rfl ?_)
  all_goals first | (refine zY ?_; refine zP (ap_bits rfl rfl rfl (by omega) (by omega)) ?_) | refine zU ?_ | refine zNf ?_ | (refine zGf (fun hg => ?_) fun hg => ?_; case' _ => refine zP (ap_bits rfl rfl rfl (by omega) (by omega)) ?_)
  all_goals first | (refine zY ?_; refine zMv ?_) | refine zU ?_ | refine zNf ?_ | (refine zGf (fun hg => ?_) fun hg => ?_; case' _ => refine zMv ?_)
  all_goals first | (refine zY ?_; refine zCm ?_) | refine zU ?_ | refine zNf ?_ | (refine zGf (fun hg => ?_) fun hg => ?_; case' _ => refine zCm ?_)
  all_goals refine zPk ?_
  all_goals (
    refine zN ?_
    refine awp_cond_t rfl zDec ?_
    refine zS ?_; refine zAs ?_; refine zN ?_; refine awp_ret ?_; refine seqQ_r ?_
    refine post_is (.tmp rfl .nil) zKeep rfl
    )
theorem rquorumN_con (c : List Mem) (s : Nat) (hs : s < 1024) : Con none Tryz.prog 18 [cv c, .i s] [] (Is (.b (quorumC c s)) []) := by
  have hcap : capB = 140737488355328 := rfl
  have hdl := declC_lt c
  refine con_intro Tryz.func18 rfl Tryz.call18 rfl ?_
  refine zS ?_
  refine aops_box rfl zFlat rfl rfl (fun b2 => ?_)
  refine zAs ?_; refine zN ?_; refine awp_seq ?_; refine zS ?_; refine zMv ?_
  refine aops_call_v zRc (rvalidn hs) rfl rfl ?_
  refine zNo ?_; refine zMv ?_
  all_goals first | (refine zY ?_; refine zMv ?_) | refine zU ?_ | refine zNf ?_ | (refine zGf (fun hg => ?_) fun hg => ?_; case' _ => refine zMv ?_)
  all_goals first | (refine zY ?_; refine zCm ?_) | refine zU ?_ | refine zNf ?_ | (refine zGf (fun hg => ?_) fun hg => ?_; case' _ => refine zCm ?_)
  all_goals refine zPk ?_
  all_goals refine zMv ?_
  all_goals first | (refine zY ?_; refine zMv ?_) | refine zU ?_ | refine zNf ?_ | (refine zGf (fun hg => ?_) fun hg => ?_; case' _ => refine zMv ?_)
  all_goals first | (refine zY ?_; refine zLd ?_) | refine zU ?_ | refine zNf ?_ | (refine zGf (fun hg => ?_) fun hg => ?_; case' _ => refine zLd ?_)
  all_goals first | (refine zY ?_; refine aops_call_v zRc (rdecl_con c) rfl rfl ?_) | refine zU ?_ | refine zNf ?_ | (refine zGf (fun hg => ?_) fun hg => ?_; case' _ => refine aops_call_v zRc (rdecl_con c) rfl rfl ?_)
  all_goals first | (refine zY ?_; refine zP (ap_bits rfl rfl rfl (by omega) (by omega)) ?_) | refine zU ?_ | refine zNf ?_ | (refine zGf (fun hg => ?_) fun hg => ?_; case' _ => refine zP (ap_bits rfl rfl rfl (by omega) (by omega)) ?_)
  all_goals first | (refine zY ?_; refine zMv ?_) | refine zU ?_ | refine zNf ?_ | (refine zGf (fun hg => ?_) fun hg => ?_; case' _ => refine zMv ?_)
  all_goals first | (refine zY ?_; refine zCm ?_) | refine zU ?_ | refine zNf ?_ | (refine zGf (fun hg => ?_) fun hg => ?_; case' _ => refine zCm ?_)
  all_goals refine zPk ?_
  all_goals (
    refine zN ?_
    refine zC (fun hc => ?_) fun hc => ?_
    · first
      | (exact absurd hc (by decide))
      | (refine awp_seq ?_
         refine awp_region ?_; refine zAs ?_; refine zN ?_; refine awp_ret ?_; refine seqQ_r ?_
         refine post_is (.tmp rfl .nil) zKeep ?_
         first
         | (rw [quorum_f2 (by with_reducible assumption)]; rfl)
         | (rw [quorum_out hs (of_neq_true (by with_reducible assumption))]; rfl)
        )
    · first
      | (exact absurd hc (by decide))
      | (have hin := in_of_and (of_neq_false hc)
         refine awp_skip ?_; refine seqQ_n ?_; refine awp_seq ?_; refine zS ?_; refine zMv ?_
         refine aops_call_v zRc (rNodes_con _) rfl rfl ?_
         first | refine aops_len rfl rfl rfl rfl (fun _ => ?_) | refine zP (ap_len_arr rfl zUpd rfl) ?_ | refine zP (ap_len_nil rfl rfl) ?_
         refine zMv ?_; refine zN ?_; refine awp_block ?_
         have hnl : ((nodesOf s).map D.i).length = (nodesOf s).length := by simp
         refine awp_loop1 [1, 2, 23, 24] [.box b2 _ _] (fun (k : Nat) r => (25, .i (k : Int)) :: r) (fun (k : Nat) r => r) (fun (k : Nat) => k ≤ (nodesOf s).length ∧ ∀ x ∈ (nodesOf s).take k, sat s (tOf c x) = true) (fun (k : Nat) => (nodesOf s).length - k) (0) zRc ⟨by omega, by simp⟩ (wk zSub zKeep) ?_
         intro k ⟨hk, hI⟩
         refine zS ?_; refine zCm ?_; refine zN ?_; refine awp_seq ?_
         refine zC (fun hc => ?_) fun hc => ?_
         · have hlt := of_decide_eq_true hc
           obtain ⟨x, hx, hd⟩ := drop_cons (l := nodesOf s) (k := k) (by omega)
           obtain ⟨j, y, rfl, hj, hy, hyd⟩ := hin.get hs (mem_nodesOf.1 (List.mem_of_getElem? hx))
           have hx' := getMap D.i hx
           have hy' := getMap mv hy
           have hxh := mem_nodesOf.1 (List.mem_of_getElem? hx)
           refine awp_skip ?_; refine seqQ_n ?_; refine awp_seq ?_; refine awp_block ?_; refine zS ?_
           first | refine zP (ap_index rfl rfl rfl rfl (by decide) rfl zAss) ?_ | refine zP (ap_index rfl rfl rfl rfl (by decide) (by omega) zAss) ?_ | refine zP (ap_index_own rfl rfl rfl rfl rfl (by first | omega | (simp only [List.length_map, List.length_set, avs_len]; omega))) ?_
           refine zL1 ?_; refine zAs ?_; refine zN (zS ?_); refine zF 0 1 false ?_; refine zL1 ?_; refine zMv ?_
           first | refine zP (ap_index rfl rfl rfl rfl (by decide) rfl zAss) ?_ | refine zP (ap_index rfl rfl rfl rfl (by decide) (by omega) zAss) ?_ | refine zP (ap_index_own rfl rfl rfl rfl rfl (by first | omega | (simp only [List.length_map, List.length_set, avs_len]; omega))) ?_
           refine zF 1 3 true ?_; refine zLd ?_; refine zMv ?_
           refine aops_call_b zRc (rsat_con _ y.t) rfl rfl (fun c36 hc36 => ?_)
           refine zNo ?_; refine zN ?_
           refine zC (fun hc => ?_) fun hc => ?_
           · refine awp_seq ?_
             refine awp_region ?_; refine zAs ?_; refine zN ?_; refine awp_ret ?_; refine blockQ_r ?_; refine seqQ_r ?_; refine seqQ_r ?_; refine blockQ_r ?_; refine seqQ_r ?_
             refine post_is (.tmp rfl .nil) zKeep ?_
             rw [quorum_bad hs hxh (by rw [tOf_get hy]; exact hc36.trans (not_t hc))]; rfl
           · refine awp_skip ?_
             refine blockQ_n ?_; refine seqQ_n ?_; refine awp_region ?_; refine zAr ?_; refine zMv ?_; refine zN ?_
             refine ⟨k + 1, ⟨by omega, fun z hz => ?_⟩, by omega, wk zSub zKeep⟩
             rw [List.take_add_one, hx] at hz
             rcases List.mem_append.1 hz with hz | hz
             · exact hI z hz
             · obtain rfl : z = (j : Int) := (by simpa using hz)
               rw [tOf_get hy]; exact hc36.trans (not_f hc)
         · have hge := of_decide_eq_false hc
           refine awp_exit ?_; refine seqQ_x ?_; refine seqQ_x ?_; refine blockQ_x rfl ?_; refine seqQ_n ?_; refine zS ?_; refine zAs ?_; refine zN ?_; refine awp_ret ?_
           refine post_is (.tmp rfl .nil) zKeep ?_
           rw [List.take_of_length_le (by omega)] at hI
           have hs0 := of_decide_eq_false (show decide ((s : Int) = 0) = false by with_reducible assumption)
           rw [(quorumC_iff hs).2 ⟨by omega, hin, fun x hx => hI x (mem_nodesOf.2 hx)⟩]; rfl
        )
    )
theorem rquorum_con (c : List Mem) (s : Int) : Con none Tryz.prog 18 [cv c, .i s] [] (Is (.b (quorumV c s)) []) := by
  cases h : valid s with
  | false => rw [quorumV_inval h]; exact rquorum0_con c s h
  | true =>
    obtain ⟨m, rfl, hm⟩ := valid_nat h
    rw [quorumV_nat hm]
    exact rquorumN_con c m hm
theorem relim0_con (c : List Mem) (s : Int) (hv : valid s = false) : Con none Tryz.prog 74 [cv c, .i s] [] (Is (.sl 1 []) []) := by
  have hcap : capB = 140737488355328 := rfl
  refine con_intro Tryz.func74 rfl Tryz.call74 rfl ?_
  refine zS ?_
  refine aops_box rfl zFlat rfl rfl (fun b2 => ?_)
  refine zAs ?_; refine zN ?_; refine awp_seq ?_; refine zS ?_; refine zMv ?_
  refine aops_call_v zRc (rvalid0 hv) rfl rfl ?_
  refine zNo ?_; refine zN ?_
  refine awp_cond_t rfl zDec ?_
  refine zS ?_; refine zAs ?_; refine zN ?_
  refine awp_unnil [4] 1 rfl zSelC zHeapA ?_
  refine awp_ret ?_; refine seqQ_r ?_
  refine post_is (.tmp rfl .nil) zKeep rfl
theorem relimN_con (c : List Mem) (m : Nat) (hm : m < 1024) : Con none Tryz.prog 74 [cv c, .i m] [] (Is (.sl 1 ((gOrder c m).map .i)) []) := by
  have hcap : capB = 140737488355328 := rfl
  have hdl := declC_lt c
  refine con_intro Tryz.func74 rfl Tryz.call74 rfl ?_
  refine zS ?_
  refine aops_box rfl zFlat rfl rfl (fun b2 => ?_)
  refine zAs ?_; refine zN ?_; refine awp_seq ?_; refine zS ?_; refine zMv ?_
  refine aops_call_v zRc (rvalidn hm) rfl rfl ?_
  refine zNo ?_; refine zN ?_
  refine awp_cond_f rfl zDec ?_
  refine awp_skip ?_; refine seqQ_n ?_; refine zS ?_; refine zMv ?_; refine zLd ?_
  refine aops_call_v zRc (rdecl_con c) rfl rfl ?_
  refine zP (ap_bits rfl rfl rfl (by omega) (by omega)) ?_
  refine zAs ?_; refine zN (zS ?_); refine zAs ?_; refine zN ?_; refine awp_seq ?_; refine zS ?_; refine zAs ?_; refine zN ?_; refine awp_block ?_
  refine awp_loop4 [2] [.box b2 _ _] (fun (s : Nat) (v : Value) (q : List Int) (g : Bool) r => (5, .i (s : Int)) :: (6, .v v) :: (7, .b g) :: r) (fun (s : Nat) (v : Value) (q : List Int) (g : Bool) r => .arr v 3 1 (q.map .i) :: r) (fun (s : Nat) (v : Value) (q : List Int) (g : Bool) => q.length + s ≤ 1023 ∧ In c s ∧ elim c s q = elim c (m &&& declC c) [] ∧ (g = false → unh c s = none)) (fun (s : Nat) (v : Value) (q : List Int) (g : Bool) => 2 * s + (if g = true then 1 else 0)) (m &&& declC c) (.slice none 0 0) ([]) (true) zRc ⟨by have := and_lt (a := m) hdl; simp; omega, In.and c m, rfl, fun h => by cases h⟩ ((wk_own 3 1 rfl).trans (wk zSub zKeep)) ?_
  intro s v q g ⟨hql, hin, hE, hG⟩
  have hs : s < 1024 := by omega
  have hml : (q.map D.i).length = q.length := by simp
  refine awp_seq ?_; refine zS ?_; refine zMv ?_; refine zN ?_
  refine zC (fun hc => ?_) fun hc => ?_
  · subst hc
    refine awp_skip ?_; refine seqQ_n ?_; refine awp_block ?_; refine zS ?_; refine zAs ?_; refine zN (zS ?_); refine zMv ?_
    refine aops_call_v zRc (rNodes_con _) rfl rfl ?_
    first | refine aops_len rfl rfl rfl rfl (fun _ => ?_) | refine zP (ap_len_arr rfl zUpd rfl) ?_ | refine zP (ap_len_nil rfl rfl) ?_
    refine zMv ?_; refine zN ?_; refine awp_block ?_
    have hnl : ((nodesOf s).map D.i).length = (nodesOf s).length := by simp
    refine awp_loop1 [2, 19, 20] [.box b2 _ _, .arr v 3 1 (q.map .i)] (fun (k : Nat) r => (5, .i (s : Int)) :: (6, .v v) :: (7, .b false) :: (21, .i (k : Int)) :: r) (fun (k : Nat) r => r) (fun (k : Nat) => k ≤ (nodesOf s).length ∧ unh c s = ((nodesOf s).drop k).find? (bad c s)) (fun (k : Nat) => (nodesOf s).length - k) (0) zRc ⟨by omega, by unfold unh; simp⟩ (wk zSub zKeep) ?_
    intro k ⟨hk, hI⟩
    refine zS ?_; refine zCm ?_; refine zN ?_; refine awp_seq ?_
    refine zC (fun hc => ?_) fun hc => ?_
    · have hlt := of_decide_eq_true hc
      obtain ⟨x, hx, hd⟩ := drop_cons (l := nodesOf s) (k := k) (by omega)
      obtain ⟨j, y, rfl, hj, hy, hyd⟩ := hin.get hs (mem_nodesOf.1 (List.mem_of_getElem? hx))
      have hx' := getMap D.i hx
      have hy' := getMap mv hy
      have hxh := mem_nodesOf.1 (List.mem_of_getElem? hx)
      refine awp_skip ?_; refine seqQ_n ?_; refine awp_seq ?_; refine awp_block ?_; refine zS ?_
      first | refine zP (ap_index rfl rfl rfl rfl (by decide) rfl zAss) ?_ | refine zP (ap_index rfl rfl rfl rfl (by decide) (by omega) zAss) ?_ | refine zP (ap_index_own rfl rfl rfl rfl rfl (by first | omega | (simp only [List.length_map, List.length_set, avs_len]; omega))) ?_
      refine zL1 ?_; refine zAs ?_; refine zN (zS ?_); refine zF 0 1 false ?_; refine zL1 ?_; refine zMv ?_
      first | refine zP (ap_index rfl rfl rfl rfl (by decide) rfl zAss) ?_ | refine zP (ap_index rfl rfl rfl rfl (by decide) (by omega) zAss) ?_ | refine zP (ap_index_own rfl rfl rfl rfl rfl (by first | omega | (simp only [List.length_map, List.length_set, avs_len]; omega))) ?_
      refine zF 1 3 true ?_; refine zLd ?_; refine zMv ?_
      refine aops_call_b zRc (rsat_con _ y.t) rfl rfl (fun c32 hc32 => ?_)
      refine zNo ?_; refine zN ?_
      refine zC (fun hc => ?_) fun hc => ?_
      · have hu : unh c s = some (j : Int) := by rw [hI, hd]; exact List.find?_cons_of_pos (by unfold bad; rw [tOf_get hy, hc32, not_t hc]; rfl)
        have hyb : s.testBit j = true := by have := ((has_iff hs).1 hxh).2.2; rwa [Int.toNat_natCast] at this
        have hcl := drop_lt hs hyb
        have hpj := pow_lt10 hj
        refine zS ?_; refine zMv ?_; refine zMv ?_
        refine zP (ap_shl (p := 1) rfl rfl rfl (by omega) (by omega)) ?_
        refine zAr ?_; refine zAs ?_; refine zN (zS ?_); refine zMv ?_; refine zMv ?_
        refine aops_lit (e := 3) (sz := 1) (by_ := 8) rfl rfl zRc rfl rfl rfl rfl ?_
        first | refine aops_append (e := 3) (sz := 1) (by_ := 8) rfl zUpd rfl rfl rfl rfl rfl zLen (fun v41 hv41 => ?_) | refine aops_append_nil (e := 3) (sz := 1) (by_ := 8) rfl rfl rfl rfl rfl rfl zLen (fun v41 hv41 => ?_)
        refine zAs ?_; refine zN (zS ?_); refine zAs ?_; refine zN ?_; refine awp_exit ?_; refine blockQ_y rfl ?_; refine seqQ_x ?_; refine seqQ_x ?_; refine blockQ_x rfl ?_; refine blockQ_n ?_; refine seqQ_n ?_
        first
        | (rw [mapi_snoc, sub_clr hs hyb]; refine ⟨clr s j, _, q ++ [(j : Int)], true, ⟨by simp only [List.length_append, List.length_cons, List.length_nil]; omega, hin.clr, by rw [← hE, elim_some hu, Int.toNat_natCast], fun h => (by cases h)⟩, by simp; omega, wk zSub zKeep⟩)
        | (refine ⟨s, v, q, false, ⟨hql, hin, hE, fun _ => hI⟩, by simp, wk zSub zKeep⟩)
      · refine awp_skip ?_
        refine blockQ_n ?_; refine seqQ_n ?_; refine awp_region ?_; refine zAr ?_; refine zMv ?_; refine zN ?_
        rw [hd, List.find?_cons_of_neg (by unfold bad; rw [tOf_get hy, hc32, not_f hc]; decide)] at hI
        refine ⟨k + 1, ⟨by omega, hI⟩, by omega, wk zSub zKeep⟩
    · have hge := of_decide_eq_false hc
      rw [drop_nil (by omega)] at hI; simp only [List.find?_nil] at hI
      refine awp_exit ?_; refine seqQ_x ?_; refine seqQ_x ?_; refine blockQ_x rfl ?_; refine blockQ_n ?_; refine seqQ_n ?_
      first
      | (rw [mapi_snoc, sub_clr hs hyb]; refine ⟨clr s j, _, q ++ [(j : Int)], true, ⟨by simp only [List.length_append, List.length_cons, List.length_nil]; omega, hin.clr, by rw [← hE, elim_some hu, Int.toNat_natCast], fun h => (by cases h)⟩, by simp; omega, wk zSub zKeep⟩)
      | (refine ⟨s, v, q, false, ⟨hql, hin, hE, fun _ => hI⟩, by simp, wk zSub zKeep⟩)
  · have hu := hG hc
    refine awp_exit ?_; refine seqQ_x ?_; refine seqQ_x ?_; refine blockQ_x rfl ?_; refine seqQ_n ?_; refine awp_seq ?_
    refine awp_freeze v [6] zRem zSelC zHeapA ?_
    refine awp_region ?_; refine zMv ?_; refine zAs ?_; refine zN ?_; refine awp_ret ?_
    refine post_is (.tmp rfl .nil) zKeep ?_
    rw [elim_none hu] at hE; rw [gOrder_eq c hm, ← hE]; rfl
theorem relim_con (c : List Mem) (s : Int) : Con none Tryz.prog 74 [cv c, .i s] [] (Is (.sl 1 ((gOrder c s).map .i)) []) := by
  cases h : valid s with
  | false => rw [gOrder_inval h]; exact relim0_con c s h
  | true =>
    obtain ⟨m, rfl, hm⟩ := valid_nat h
    exact relimN_con c m hm
theorem rgreat0_con (c : List Mem) (s : Int) (hv : valid s = false) : Con none Tryz.prog 23 [cv c, .i s] [] (Is (.i 0) []) := by
  have hcap : capB = 140737488355328 := rfl
  refine con_intro Tryz.func23 rfl Tryz.call23 rfl ?_
  refine zS ?_
  refine aops_box rfl zFlat rfl rfl (fun b2 => ?_)
  refine zAs ?_; refine zN ?_; refine awp_seq ?_; refine zS ?_; refine zMv ?_
  refine aops_call_v zRc (rvalid0 hv) rfl rfl ?_
  refine zNo ?_; refine zN ?_
  refine awp_cond_t rfl zDec ?_
  refine zS ?_; refine zAs ?_; refine zN ?_; refine awp_ret ?_; refine seqQ_r ?_
  refine post_is (.tmp rfl .nil) zKeep rfl
theorem bit_lt10 {s j : Nat} (hs : s < 1024) (h : s.testBit j = true) : j < 10 := by
  rcases Nat.lt_or_ge j 10 with h3 | h3
  · exact h3
  · have : s < 2 ^ j := Nat.lt_of_lt_of_le hs (Nat.pow_le_pow_right (n := 2) (by omega) h3)
    rw [Nat.testBit_lt_two_pow this] at h; cases h
theorem rgreatN_con (c : List Mem) (m : Nat) (hm : m < 1024) : Con none Tryz.prog 23 [cv c, .i m] [] (Is (.i (great c m : Int)) []) := by
  have hcap : capB = 140737488355328 := rfl
  have hdl := declC_lt c
  have hgl : ((gOrder c m).map D.i).length = (gOrder c m).length := by simp
  refine con_intro Tryz.func23 rfl Tryz.call23 rfl ?_
  refine zS ?_
  refine aops_box rfl zFlat rfl rfl (fun b2 => ?_)
  refine zAs ?_; refine zN ?_; refine awp_seq ?_; refine zS ?_; refine zMv ?_
  refine aops_call_v zRc (rvalidn hm) rfl rfl ?_
  refine zNo ?_; refine zN ?_
  refine awp_cond_f rfl zDec ?_
  refine awp_skip ?_; refine seqQ_n ?_; refine zS ?_; refine zMv ?_; refine zLd ?_
  refine aops_call_v zRc (rdecl_con c) rfl rfl ?_
  refine zP (ap_bits rfl rfl rfl (by omega) (by omega)) ?_
  refine zAs ?_; refine zN ?_; refine awp_seq ?_; refine zS ?_; refine zLd ?_; refine zMv ?_
  refine aops_call_v zRc (relim_con c _) rfl rfl ?_
  first | refine aops_len rfl rfl rfl rfl (fun _ => ?_) | refine zP (ap_len_arr rfl zUpd rfl) ?_ | refine zP (ap_len_nil rfl rfl) ?_
  refine zMv ?_; refine zN ?_; refine awp_block ?_
  refine awp_loop2 [17, 18] [] (fun (k : Nat) (s : Nat) r => (5, .i (s : Int)) :: (19, .i (k : Int)) :: r) (fun (k : Nat) (s : Nat) r => r) (fun (k : Nat) (s : Nat) => k ≤ (gOrder c m).length ∧ Run s ((gOrder c m).drop k) (great c m)) (fun (k : Nat) (s : Nat) => (gOrder c m).length - k) (0) (m &&& declC c) zRc ⟨by omega, gOrder_run c hm⟩ (wk zSub zKeep) ?_
  intro k s ⟨hk, hR⟩
  refine zS ?_; refine zCm ?_; refine zN ?_; refine awp_seq ?_
  refine zC (fun hc => ?_) fun hc => ?_
  · have hlt := of_decide_eq_true hc
    obtain ⟨x, hx, hd⟩ := drop_cons (l := gOrder c m) (k := k) (by omega)
    have hx' := getMap D.i hx
    rw [hd] at hR
    cases hR with
    | @cons _ j _ _ hs hyb hR' =>
    refine awp_skip ?_; refine seqQ_n ?_; refine awp_seq ?_; refine awp_block ?_; refine zS ?_
    first | refine zP (ap_index rfl rfl rfl rfl (by decide) rfl zAss) ?_ | refine zP (ap_index rfl rfl rfl rfl (by decide) (by omega) zAss) ?_ | refine zP (ap_index_own rfl rfl rfl rfl rfl (by first | omega | (simp only [List.length_map, List.length_set, avs_len]; omega))) ?_
    refine zL1 ?_; refine zAs ?_; refine zN ?_
    have hj10 : j < 10 := bit_lt10 hs hyb
    have hpj := pow_lt10 hj10
    refine awp_region ?_; refine zMv ?_; refine zMv ?_
    refine zP (ap_shl (p := 1) rfl rfl rfl (by omega) (by omega)) ?_
    refine zAr ?_; refine zAs ?_; refine aops_nil ?_; refine blockQ_n ?_; refine seqQ_n ?_; refine awp_region ?_; refine zAr ?_; refine zMv ?_; refine zN ?_
    rw [sub_clr hs hyb]
    refine ⟨k + 1, clr s j, ⟨by omega, hR'⟩, by omega, wk zSub zKeep⟩
  · have hge := of_decide_eq_false hc
    rw [drop_nil (by omega)] at hR
    refine awp_exit ?_; refine seqQ_x ?_; refine seqQ_x ?_; refine blockQ_x rfl ?_; refine seqQ_n ?_; refine zS ?_; refine zMv ?_; refine zAs ?_; refine zN ?_; refine awp_ret ?_
    refine post_is (.tmp rfl .nil) zKeep ?_
    cases hR; rfl
theorem rgreat_con (c : List Mem) (s : Int) : Con none Tryz.prog 23 [cv c, .i s] [] (Is (.i (great c s : Int)) []) := by
  cases h : valid s with
  | false => rw [great_inval h]; exact rgreat0_con c s h
  | true =>
    obtain ⟨m, rfl, hm⟩ := valid_nat h
    exact rgreatN_con c m hm
def blankT (t : Trust) : Bool := decide (t.th = 0) && (decide (t.nodes.length = 0) && decide (t.inner.length = 0))
theorem memV_0 {m : Mem} {n : Nat} {b : Bool} (h : m.decl = false) (hb : blankT m.t = b) : memV m n = if b = true then 0 else 1 := by
  unfold memV
  rw [h, ← hb]
  unfold blankT
  simp [and_assoc]
theorem blank_con (t : Trust) : Con none Tryz.prog 150 [av t] [] (Is (.b (blankT t)) []) := by
  have hcap : capB = 140737488355328 := rfl
  have hl1 : (t.nodes.map D.i).length = t.nodes.length := by simp
  have hl2 := avs_len t.inner
  refine con_intro Tryz.func150 rfl Tryz.call150 rfl ?_
  refine zS ?_
  refine aops_box rfl zFlat rfl rfl (fun b1 => ?_)
  refine zAs ?_; refine zN (zS ?_); refine zF 0 1 false ?_; refine zL1 ?_; refine zCm ?_; refine zMv ?_
  all_goals first | (refine zY ?_; refine zF 1 1 false ?_) | refine zU ?_ | refine zNt ?_ | (refine zGt (fun hg => ?_) fun hg => ?_; case' _ => refine zF 1 1 false ?_)
  all_goals first | (refine zY ?_; refine zL1 ?_) | refine zU ?_ | refine zNt ?_ | (refine zGt (fun hg => ?_) fun hg => ?_; case' _ => refine zL1 ?_)
  all_goals first | (refine zY ?_; (first | refine aops_len rfl rfl rfl rfl (fun _ => ?_) | refine zP (ap_len_arr rfl zUpd rfl) ?_ | refine zP (ap_len_nil rfl rfl) ?_)) | refine zU ?_ | refine zNt ?_ | (refine zGt (fun hg => ?_) fun hg => ?_; case' _ => (first | refine aops_len rfl rfl rfl rfl (fun _ => ?_) | refine zP (ap_len_arr rfl zUpd rfl) ?_ | refine zP (ap_len_nil rfl rfl) ?_))
  all_goals first | (refine zY ?_; (rw [hl1]; refine zCm ?_)) | refine zU ?_ | refine zNt ?_ | (refine zGt (fun hg => ?_) fun hg => ?_; case' _ => (rw [hl1]; refine zCm ?_))
  all_goals refine zPk ?_
  all_goals refine zMv ?_
  all_goals first | (refine zY ?_; refine zF 2 1 false ?_) | refine zU ?_ | refine zNt ?_ | (refine zGt (fun hg => ?_) fun hg => ?_; case' _ => refine zF 2 1 false ?_)
  all_goals first | (refine zY ?_; refine zL1 ?_) | refine zU ?_ | refine zNt ?_ | (refine zGt (fun hg => ?_) fun hg => ?_; case' _ => refine zL1 ?_)
  all_goals first | (refine zY ?_; (first | refine aops_len rfl rfl rfl rfl (fun _ => ?_) | refine zP (ap_len_arr rfl zUpd rfl) ?_ | refine zP (ap_len_nil rfl rfl) ?_)) | refine zU ?_ | refine zNt ?_ | (refine zGt (fun hg => ?_) fun hg => ?_; case' _ => (first | refine aops_len rfl rfl rfl rfl (fun _ => ?_) | refine zP (ap_len_arr rfl zUpd rfl) ?_ | refine zP (ap_len_nil rfl rfl) ?_))
  all_goals first | (refine zY ?_; (rw [hl2]; refine zCm ?_)) | refine zU ?_ | refine zNt ?_ | (refine zGt (fun hg => ?_) fun hg => ?_; case' _ => (rw [hl2]; refine zCm ?_))
  all_goals refine zPk ?_
  all_goals refine zAs ?_
  all_goals (
    refine zN ?_; refine awp_ret ?_
    refine post_is (.tmp rfl .nil) zKeep ?_
    unfold blankT
    first
    | (simp_all [resD]; done)
    | (have e1 : t.nodes = [] := by simpa using of_decide_eq_true (show decide (((t.nodes.length : Nat) : Int) = 0) = true by with_reducible assumption); simp_all [resD]; done)
    )
theorem member_con (m : Mem) (hm : sizeT m.t ≤ 1000000000) (n : Nat) (hn : n ≤ 10) : Con none Tryz.prog 116 [mv m, .i n] [] (Is (.i (memV m n)) []) := by
  have hcap : capB = 140737488355328 := rfl
  have hp10 := pow_le10 hn
  have hul := uses_lt m.t
  refine con_intro Tryz.func116 rfl Tryz.call116 rfl ?_
  refine zS ?_
  refine aops_box rfl zFlat rfl rfl (fun b2 => ?_)
  refine zAs ?_; refine zN ?_; refine awp_seq ?_; refine zS ?_; refine zF 0 1 false ?_; refine zL1 ?_; refine zNo ?_; refine zN ?_
  refine zC (fun hc => ?_) fun hc => ?_
  · have hdl : m.decl = false := not_t hc
    refine awp_seq ?_; refine zS ?_; refine zF 1 3 true ?_; refine zLd ?_
    refine aops_call_b zRc (blank_con m.t) rfl rfl (fun c11 hc11 => ?_)
    refine zNo ?_; refine zN ?_
    refine zC (fun hc => ?_) fun hc => ?_
    · refine awp_seq ?_
      refine awp_region ?_; refine zAs ?_; refine zN ?_; refine awp_ret ?_; refine seqQ_r ?_; refine seqQ_r ?_
      refine post_is (.tmp rfl .nil) .nil ?_
      rw [memV_0 hdl (hc11.trans (not_t hc))]; rfl
    · refine awp_skip ?_
      refine seqQ_n ?_; refine zS ?_; refine zAs ?_; refine zN ?_; refine awp_ret ?_; refine seqQ_r ?_
      refine post_is (.tmp rfl .nil) .nil ?_
      rw [memV_0 hdl (hc11.trans (not_f hc))]; rfl
  · have hdl : m.decl = true := not_f hc
    refine awp_skip ?_; refine seqQ_n ?_; refine awp_seq ?_; refine zS ?_; refine zF 1 3 true ?_; refine zLd ?_
    refine aops_call_v zRc (validT_con m.t hm) rfl rfl ?_
    refine zAs ?_; refine zN (zS ?_); refine zMv ?_; refine zCm ?_; refine zN ?_
    refine zC (fun hc => ?_) fun hc => ?_
    · have hv := of_neq_true hc
      refine zS ?_; refine zMv ?_; refine zAs ?_; refine zN ?_; refine awp_ret ?_; refine seqQ_r ?_
      refine post_is (.tmp rfl .nil) .nil ?_
      unfold memV; rw [if_pos hdl, if_neg hv]; rfl
    · have hv := of_neq_false hc
      refine awp_skip ?_; refine seqQ_n ?_; refine awp_seq ?_; refine awp_seq ?_
      refine awp_draw (Hm := []) zKr zSplit ?_
      refine zTF 0 1 3 true ?_; refine zTM 1 ?_
      refine zT 3 rfl (AP.ar (ap_move rfl)) ?_
      refine zT 4 rfl (AP.ar (ap_shl (p := 1) rfl rfl rfl (by omega) (by omega))) ?_
      refine aany_one 2 zKr rfl (.none rfl) ?_
      refine aops_call_v zRc (uses_con m.t) rfl rfl ?_
      refine aops_nil ?_
      refine zT 5 rfl (AP.ar (ap_cmp rfl rfl rfl)) ?_
      refine aany_nil zKr ?_
      all_goals (
        refine seqQ_n ?_
        refine zC (fun hc => ?_) fun hc => ?_
        · have hge := of_decide_eq_true hc
          refine zS ?_; refine zAs ?_; refine zN ?_; refine awp_ret ?_; refine seqQ_r ?_
          refine post_is (.tmp rfl .nil) .nil ?_
          unfold memV; rw [if_pos hdl, if_pos hv, if_pos (by omega)]; rfl
        · have hge := of_decide_eq_false hc
          refine awp_skip ?_; refine seqQ_n ?_; refine zS ?_; refine zAs ?_; refine zN ?_; refine awp_ret ?_
          refine post_is (.tmp rfl .nil) .nil ?_
          unfold memV; rw [if_pos hdl, if_pos hv, if_neg (by omega)]; rfl
        )
theorem validC_con (c : List Mem) (hs : ∀ m ∈ c, sizeT m.t ≤ 1000000000) : Con none Tryz.prog 70 [cv c] [] (Is (.i (validC c)) []) := by
  have hcap : capB = 140737488355328 := rfl
  have hml : (c.map mv).length = c.length := by simp
  refine con_intro Tryz.func70 rfl Tryz.call70 rfl ?_
  refine zS ?_
  refine aops_box rfl zFlat rfl rfl (fun b1 => ?_)
  refine zAs ?_; refine zN ?_; refine awp_seq ?_; refine zS ?_; refine zF 0 1 false ?_; refine zL1 ?_
  first | refine aops_len rfl rfl rfl rfl (fun _ => ?_) | refine zP (ap_len_arr rfl zUpd rfl) ?_ | refine zP (ap_len_nil rfl rfl) ?_
  refine zCm ?_; refine zN ?_
  refine zC (fun hc => ?_) fun hc => ?_
  · have hlen := of_decide_eq_true hc
    refine zS ?_; refine zAs ?_; refine zN ?_; refine awp_ret ?_; refine seqQ_r ?_
    refine post_is (.tmp rfl .nil) .nil ?_
    unfold validC; rw [if_pos (by omega)]; rfl
  · have hlen := of_decide_eq_false hc
    refine awp_skip ?_; refine seqQ_n ?_; refine awp_seq ?_; refine zS ?_; refine zF 0 1 false ?_; refine zL1 ?_
    first | refine aops_len rfl rfl rfl rfl (fun _ => ?_) | refine zP (ap_len_arr rfl zUpd rfl) ?_ | refine zP (ap_len_nil rfl rfl) ?_
    refine zMv ?_; refine zN ?_; refine awp_block ?_
    refine awp_loop1 [1, 11, 12] [.box b1 _ _] (fun (k : Nat) r => (13, .i (k : Int)) :: r) (fun (k : Nat) r => r) (fun (k : Nat) => k ≤ c.length ∧ memsV c.length (c.drop k) = memsV c.length c) (fun (k : Nat) => c.length - k) (0) zRc ⟨by omega, by simp⟩ (wk zSub zKeep) ?_
    intro k ⟨hk, hI⟩
    refine zS ?_; refine zCm ?_; refine zN ?_; refine awp_seq ?_
    refine zC (fun hc => ?_) fun hc => ?_
    · have hlt := of_decide_eq_true hc
      obtain ⟨x, hx, hd⟩ := drop_cons (l := c) (k := k) (by omega)
      have hx' := getMap mv hx
      refine awp_skip ?_; refine seqQ_n ?_; refine awp_seq ?_; refine awp_block ?_; refine zS ?_
      first | refine zP (ap_index rfl rfl rfl rfl (by decide) rfl zAss) ?_ | refine zP (ap_index rfl rfl rfl rfl (by decide) (by omega) zAss) ?_ | refine zP (ap_index_own rfl rfl rfl rfl rfl (by first | omega | (simp only [List.length_map, List.length_set, avs_len]; omega))) ?_
      refine zLd ?_
      refine aops_alloc rfl zRc rfl rfl (fun b4 => ?_)
      refine zSt ?_; refine zN (zS ?_); refine zLd ?_; refine zF 0 1 false ?_; refine zL1 ?_
      first | refine aops_len rfl rfl rfl rfl (fun _ => ?_) | refine zP (ap_len_arr rfl zUpd rfl) ?_ | refine zP (ap_len_nil rfl rfl) ?_
      (rw [hml]; refine aops_call_v zRc (member_con x (hs x (List.mem_of_getElem? hx)) c.length (by omega)) rfl rfl ?_)
      refine zAs ?_; refine zN (zS ?_); refine zMv ?_; refine zCm ?_; refine zN ?_
      refine zC (fun hc => ?_) fun hc => ?_
      · refine awp_seq ?_
        refine awp_region ?_; refine zMv ?_; refine zAs ?_; refine zN ?_; refine awp_ret ?_; refine blockQ_r ?_; refine seqQ_r ?_; refine seqQ_r ?_; refine blockQ_r ?_; refine seqQ_r ?_
        refine post_is (.tmp rfl .nil) .nil ?_
        rw [hd] at hI; simp only [memsV] at hI
        rw [if_neg (of_neq_true hc)] at hI
        unfold validC; rw [if_neg (by omega), ← hI]; rfl
      · refine awp_skip ?_
        refine blockQ_n ?_; refine seqQ_n ?_; refine awp_region ?_; refine zAr ?_; refine zMv ?_; refine zN ?_
        rw [hd] at hI; simp only [memsV] at hI
        rw [if_pos (of_neq_false hc)] at hI
        refine ⟨k + 1, ⟨by omega, hI⟩, by omega, wk zSub zKeep⟩
    · have hge := of_decide_eq_false hc
      rw [drop_nil (by omega)] at hI; simp only [memsV] at hI
      refine awp_exit ?_; refine seqQ_x ?_; refine seqQ_x ?_; refine blockQ_x rfl ?_; refine seqQ_n ?_; refine zS ?_; refine zAs ?_; refine zN ?_; refine awp_ret ?_
      refine post_is (.tmp rfl .nil) .nil ?_
      unfold validC; rw [if_neg (by omega), ← hI]; rfl
theorem v32 : validC (sameC 3 2) = 0 := same_valid (by omega) (by omega)
theorem a32 : aloneC (sameC 3 2) 0 = false := by kernel_rfl
theorem same_none (t : Trust) : same t Trust.none = blankT t := by
  unfold same blankT
  have h1 : decide (t.nodes = Trust.none.nodes) = decide (t.nodes.length = 0) := by rw [Bool.eq_iff_iff, decide_eq_true_iff, decide_eq_true_iff]; simp [Trust.none, Trust.nodes]
  have h2 : sameL t.inner Trust.none.inner = decide (t.inner.length = 0) := by
    cases h : t.inner with
    | nil => rfl
    | cons x r => rfl
  rw [h1, h2]
  rfl
theorem memV_s {m : Mem} {n : Nat} {b : Bool} (h : m.decl = false) (hb : same m.t Trust.none = b) : memV m n = if b = true then 0 else 1 := memV_0 h (by rw [← same_none]; exact hb)
theorem memV_v {m : Mem} {n : Nat} (h : m.decl = true) (hv : ¬ validT m.t = 0) : memV m n = validT m.t := by unfold memV; rw [if_pos h, if_neg hv]
theorem memV_u {m : Mem} {n : Nat} (h : m.decl = true) (hv : validT m.t = 0) (hu : 2 ^ n ≤ uses m.t) : memV m n = 5 := by unfold memV; rw [if_pos h, if_pos hv, if_pos hu]
theorem memV_k {m : Mem} {n : Nat} (h : m.decl = true) (hv : validT m.t = 0) (hu : ¬ 2 ^ n ≤ uses m.t) : memV m n = 0 := by unfold memV; rw [if_pos h, if_pos hv, if_neg hu]
theorem r6valid_con (c : List Mem) (hs : ∀ m ∈ c, sizeT m.t ≤ 1000000000) : Con none Tryz.prog 49 [cv c] [] (Is (.i (validC c)) []) := by
  have hcap : capB = 140737488355328 := rfl
  have hml : (c.map mv).length = c.length := by simp
  refine con_intro Tryz.func49 rfl Tryz.call49 rfl ?_
  refine zS ?_
  refine aops_box rfl zFlat rfl rfl (fun b1 => ?_)
  refine zAs ?_; refine zN ?_; refine awp_seq ?_; refine zS ?_; refine zF 0 1 false ?_; refine zL1 ?_
  first | refine aops_len rfl rfl rfl rfl (fun _ => ?_) | refine zP (ap_len_arr rfl zUpd rfl) ?_ | refine zP (ap_len_nil rfl rfl) ?_
  refine zCm ?_; refine zN ?_
  refine zC (fun hc => ?_) fun hc => ?_
  · have hlen := of_decide_eq_true hc
    refine zS ?_; refine zAs ?_; refine zN ?_; refine awp_ret ?_; refine seqQ_r ?_
    refine post_is (.tmp rfl .nil) .nil ?_
    unfold validC; rw [if_pos (by omega)]; rfl
  · have hlen := of_decide_eq_false hc
    have h10 := pow_le10 (n := c.length) (by omega)
    have hul := fun t : Trust => uses_lt t
    have hp2 : 2 ^ (c.map mv).length = 2 ^ c.length := by rw [hml]
    refine awp_skip ?_; refine seqQ_n ?_; refine awp_seq ?_; refine zS ?_; refine zF 0 1 false ?_; refine zL1 ?_
    first | refine aops_len rfl rfl rfl rfl (fun _ => ?_) | refine zP (ap_len_arr rfl zUpd rfl) ?_ | refine zP (ap_len_nil rfl rfl) ?_
    refine zMv ?_; refine zN ?_; refine awp_block ?_
    refine awp_loop1 [1, 11, 12] [.box b1 _ _] (fun (k : Nat) r => (13, .i (k : Int)) :: r) (fun (k : Nat) r => r) (fun (k : Nat) => k ≤ c.length ∧ memsV c.length (c.drop k) = memsV c.length c) (fun (k : Nat) => c.length - k) (0) zRc ⟨by omega, by simp⟩ (wk zSub zKeep) ?_
    intro k ⟨hk, hI⟩
    refine zS ?_; refine zCm ?_; refine zN ?_; refine awp_seq ?_
    refine zC (fun hc => ?_) fun hc => ?_
    · have hlt := of_decide_eq_true hc
      obtain ⟨x, hx, hd⟩ := drop_cons (l := c) (k := k) (by omega)
      have hx' := getMap mv hx
      have hul2 := hul x.t
      refine awp_skip ?_; refine seqQ_n ?_; refine awp_seq ?_; refine awp_block ?_; refine zS ?_
      first | refine zP (ap_index rfl rfl rfl rfl (by decide) rfl zAss) ?_ | refine zP (ap_index rfl rfl rfl rfl (by decide) (by omega) zAss) ?_ | refine zP (ap_index_own rfl rfl rfl rfl rfl (by first | omega | (simp only [List.length_map, List.length_set, avs_len]; omega))) ?_
      refine zLd ?_
      refine aops_alloc rfl zRc rfl rfl (fun b4 => ?_)
      refine zSt ?_; refine zN ?_; refine awp_seq ?_; refine zS ?_; refine zF 0 1 false ?_; refine zL1 ?_; refine zNo ?_; refine zN ?_
      refine zC (fun hc => ?_) fun hc => ?_
      · have hdl : x.decl = false := not_t hc
        refine awp_seq ?_; refine zS ?_; refine zF 1 3 true ?_; refine zLd ?_
        refine zP (ap_build zKr rfl zRc zFill) ?_
        (refine aops_unnil [1,11,12,13,21,22] 1 rfl rfl (by repeat (first | exact SelC.nil | apply SelC.cons rfl (Cv.agg (CvL.cons Cv.same (CvL.cons Cv.fz (CvL.cons Cv.same CvL.nil)))) | apply SelC.cons rfl Cv.same)) zHeapS ?_; refine aops_unnil [1,11,12,13,21,22] 3 rfl rfl zSelC zHeapS ?_; refine aops_call_b zRc (rsame_con x.t Trust.none) rfl rfl (fun c23 hc23 => ?_))
        refine zNo ?_; refine zN ?_
        refine zC (fun hc => ?_) fun hc => ?_
        · have hm1 : memV x c.length = 1 := by rw [memV_s hdl (hc23.trans (not_t hc))]; rfl
          refine zS ?_; refine zAs ?_; refine zN ?_; refine awp_ret ?_; refine seqQ_r ?_; refine seqQ_r ?_; refine blockQ_r ?_; refine seqQ_r ?_; refine seqQ_r ?_; refine blockQ_r ?_; refine seqQ_r ?_
          refine post_is (.tmp rfl .nil) .nil ?_
          rw [hd] at hI; simp only [memsV] at hI
          rw [if_neg (by rw [hm1]; first | exact hv9 | omega), hm1] at hI
          unfold validC; rw [if_neg (by omega), ← hI]; rfl
        · have hm0 : memV x c.length = 0 := by rw [memV_s hdl (hc23.trans (not_f hc))]; rfl
          refine awp_skip ?_; refine seqQ_n ?_; refine awp_exit ?_; refine seqQ_x ?_; refine blockQ_x rfl ?_; refine seqQ_n ?_; refine awp_region ?_; refine zAr ?_; refine zMv ?_; refine zN ?_
          rw [hd] at hI; simp only [memsV] at hI
          rw [if_pos hm0] at hI
          refine ⟨k + 1, ⟨by omega, hI⟩, by omega, wk zSub zKeep⟩
      · have hdl : x.decl = true := not_f hc
        refine awp_skip ?_; refine seqQ_n ?_; refine awp_seq ?_; refine zS ?_; refine zF 1 3 true ?_; refine zLd ?_
        refine aops_call_v zRc (rvalidT_con x.t (hs x (List.mem_of_getElem? hx))) rfl rfl ?_
        refine zAs ?_; refine zN (zS ?_); refine zMv ?_; refine zCm ?_; refine zN ?_
        refine zC (fun hc => ?_) fun hc => ?_
        · have hv9 := of_neq_true hc
          have hm1 : memV x c.length = validT x.t := memV_v hdl hv9
          refine zS ?_; refine zMv ?_; refine zAs ?_; refine zN ?_; refine awp_ret ?_; refine seqQ_r ?_; refine blockQ_r ?_; refine seqQ_r ?_; refine seqQ_r ?_; refine blockQ_r ?_; refine seqQ_r ?_
          refine post_is (.tmp rfl .nil) .nil ?_
          rw [hd] at hI; simp only [memsV] at hI
          rw [if_neg (by rw [hm1]; first | exact hv9 | omega), hm1] at hI
          unfold validC; rw [if_neg (by omega), ← hI]; rfl
        · have hv := of_neq_false hc
          refine awp_skip ?_; refine seqQ_n ?_; refine awp_seq ?_
          refine awp_draw (Hm := []) zKr zSplit ?_
          refine zTF 0 1 3 true ?_; refine zTM 1 ?_; refine zTF 3 0 1 false ?_; refine zTL 4 ?_
          first | refine zT 5 rfl (AP.ar (ap_len rfl rfl)) ?_ | refine zT 5 rfl (ar_len_arr rfl zUpd rfl) ?_ | refine zT 5 rfl (AP.ar (ap_len_nil rfl rfl)) ?_
          refine zT 6 rfl (AP.ar (ap_shl (p := 1) rfl rfl rfl (by omega) (by omega))) ?_
          refine aany_one 2 zKr rfl (.none rfl) ?_
          refine aops_call_v zRc (ruses_con x.t) rfl rfl ?_
          refine aops_nil ?_
          refine zT 7 rfl (AP.ar (ap_cmp rfl rfl rfl)) ?_
          refine aany_nil zKr ?_
          all_goals (
            refine seqQ_n ?_
            refine zC (fun hc => ?_) fun hc => ?_
            · have hge := of_decide_eq_true hc
              have hm1 : memV x c.length = 5 := memV_u hdl hv (by omega)
              refine zS ?_; refine zAs ?_; refine zN ?_; refine awp_ret ?_; refine blockQ_r ?_; refine seqQ_r ?_; refine seqQ_r ?_; refine blockQ_r ?_; refine seqQ_r ?_
              refine post_is (.tmp rfl .nil) .nil ?_
              rw [hd] at hI; simp only [memsV] at hI
              rw [if_neg (by rw [hm1]; first | exact hv9 | omega), hm1] at hI
              unfold validC; rw [if_neg (by omega), ← hI]; rfl
            · have hge := of_decide_eq_false hc
              have hm0 : memV x c.length = 0 := memV_k hdl hv (by omega)
              refine awp_skip ?_; refine blockQ_n ?_; refine seqQ_n ?_; refine awp_region ?_; refine zAr ?_; refine zMv ?_; refine zN ?_
              rw [hd] at hI; simp only [memsV] at hI
              rw [if_pos hm0] at hI
              refine ⟨k + 1, ⟨by omega, hI⟩, by omega, wk zSub zKeep⟩
            )
    · have hge := of_decide_eq_false hc
      rw [drop_nil (by omega)] at hI; simp only [memsV] at hI
      refine awp_exit ?_; refine seqQ_x ?_; refine seqQ_x ?_; refine blockQ_x rfl ?_; refine seqQ_n ?_; refine zS ?_; refine zAs ?_; refine zN ?_; refine awp_ret ?_
      refine post_is (.tmp rfl .nil) .nil ?_
      unfold validC; rw [if_neg (by omega), ← hI]; rfl
theorem lower_con (k : Int) : Con none Tryz.prog 193 [.i k] [] (Is (.i (lw k)) []) := by
  have hcap : capB = 140737488355328 := rfl
  refine con_intro Tryz.func193 rfl Tryz.call193 rfl ?_
  refine zS ?_; refine zAs ?_; refine zN ?_; refine awp_seq ?_; refine zS ?_; refine zMv ?_; refine zCm ?_; refine zN ?_
  refine zC (fun hc => ?_) fun hc => ?_
  · refine awp_seq ?_
    refine awp_region ?_; refine zMv ?_; refine zAs ?_; refine zN ?_; refine awp_ret ?_; refine seqQ_r ?_
    refine post_is (.tmp rfl .nil) .nil ?_
    unfold lw; rw [if_pos (of_decide_eq_true hc)]; rfl
  · refine awp_skip ?_
    refine seqQ_n ?_; refine zS ?_; refine zMv ?_
    refine zP (ap_arithw rfl rfl rfl) ?_
    refine zAs ?_; refine zN ?_; refine awp_ret ?_
    refine post_is (.tmp rfl .nil) .nil ?_
    unfold lw; rw [if_neg (of_decide_eq_false hc)]; rfl
theorem less_mk {s : Int} {t : Trust} {th th2 : Int} {q : List Int} {q2 : List Trust} (h1 : lessN s t.nodes t.th [] = (th, q)) (h2 : lessI s t.inner th [] = (th2, q2)) : less s t = .mk th2 q q2 := by unfold less; rw [h1, h2]
theorem less_con (s : Int) : ∀ (t : Trust), sizeT t ≤ 200000 → Con none Tryz.prog 153 [av t, .i s] [] (Is (av (less s t)) []) := by
  have hcap : capB = 140737488355328 := rfl
  intro t
  induction t using Trust.ind with
  | _ t ih =>
    have hl1 : (t.nodes.map D.i).length = t.nodes.length := by simp
    have hl2 := avs_len t.inner
    intro hsz
    have hs0 : sizeT t = t.nodes.length + t.inner.length + sizeL t.inner := rfl
    refine con_intro Tryz.func153 rfl Tryz.call153 rfl ?_
    refine zS ?_
    refine aops_box rfl zFlat rfl rfl (fun b2 => ?_)
    refine aops_alloc rfl zRc rfl rfl (fun b4 => ?_)
    refine zN (zS ?_); refine zF 0 1 false ?_; refine zL1 ?_
    refine zP (ap_build zKr rfl zRc zFill) ?_
    refine aops_alloc rfl zRc rfl rfl (fun b5 => ?_)
    refine zSt ?_; refine zN ?_; refine awp_seq ?_; refine zS ?_; refine zF 1 1 false ?_; refine zL1 ?_
    first | refine aops_len rfl rfl rfl rfl (fun _ => ?_) | refine zP (ap_len_arr rfl zUpd rfl) ?_ | refine zP (ap_len_nil rfl rfl) ?_
    refine zMv ?_; refine zN ?_; refine awp_block ?_
    refine awp_loop4 [1, 2, 4, 5, 15, 16] [.box b4 _ _, .box b2 _ _] (fun (k : Nat) (v : Value) (th : Int) (q : List Int) r => (17, .i (k : Int)) :: r) (fun (k : Nat) (v : Value) (th : Int) (q : List Int) r => .box b5 48 [.i th, .v v, .nil] :: .arr v 3 1 (q.map .i) :: r) (fun (k : Nat) (v : Value) (th : Int) (q : List Int) => k ≤ t.nodes.length ∧ q.length ≤ k ∧ lessN s (t.nodes.drop k) th q = lessN s t.nodes t.th []) (fun (k : Nat) (v : Value) (th : Int) (q : List Int) => t.nodes.length - k) (0) (.slice none 0 0) (t.th) ([]) zRc ⟨by omega, by simp, by simp⟩ ((wk_own 3 1 rfl).trans (wk zSub zKeep)) ?_
    intro k v th q ⟨hk, hql, hI⟩
    have hml : (q.map D.i).length = q.length := by simp
    refine zS ?_; refine zCm ?_; refine zN ?_; refine awp_seq ?_
    refine zC (fun hc => ?_) fun hc => ?_
    · have hlt := of_decide_eq_true hc
      obtain ⟨x, hx, hd⟩ := drop_cons (l := t.nodes) (k := k) (by omega)
      have hx' := getMap D.i hx
      refine awp_skip ?_; refine seqQ_n ?_; refine awp_seq ?_; refine awp_block ?_; refine zS ?_
      first | refine zP (ap_index rfl rfl rfl rfl (by decide) rfl zAss) ?_ | refine zP (ap_index rfl rfl rfl rfl (by decide) (by omega) zAss) ?_ | refine zP (ap_index_own rfl rfl rfl rfl rfl (by first | omega | (simp only [List.length_map, List.length_set, avs_len]; omega))) ?_
      refine zL1 ?_; refine zAs ?_; refine zN (zS ?_); refine zMv ?_; refine zMv ?_
      refine aops_call_b zRc (rhas_con s x) rfl rfl (fun c23 hc23 => ?_)
      refine zN ?_
      refine zC (fun hc => ?_) fun hc => ?_
      · refine awp_region ?_
        refine zF 0 1 false ?_; refine zL1 ?_
        refine aops_call_v zRc (lower_con _) rfl rfl ?_
        refine zF 0 1 false ?_; refine zSt ?_; refine aops_nil ?_; refine blockQ_n ?_; refine seqQ_n ?_; refine awp_region ?_; refine zAr ?_; refine zMv ?_; refine zN ?_
        rw [hd] at hI; simp only [lessN] at hI
        first
        | (rw [if_pos (hc23.trans hc)] at hI; refine ⟨k + 1, v, lw th, q, ⟨by omega, by omega, hI⟩, by omega, wk zSub zKeep⟩)
        | (rw [if_neg (fun e => by rw [hc23.trans hc] at e; cases e)] at hI; rw [mapi_snoc]; refine ⟨k + 1, _, th, q ++ [x], ⟨by omega, by simp only [List.length_append, List.length_cons, List.length_nil]; omega, hI⟩, by omega, wk zSub zKeep⟩)
      · refine awp_region ?_
        refine zF 1 1 false ?_; refine zL1 ?_; refine zMv ?_
        refine aops_lit (e := 3) (sz := 1) (by_ := 8) rfl rfl zRc rfl rfl rfl rfl ?_
        first | refine aops_append (e := 3) (sz := 1) (by_ := 8) rfl zUpd rfl rfl rfl rfl rfl zLen (fun v32 hv32 => ?_) | refine aops_append_nil (e := 3) (sz := 1) (by_ := 8) rfl rfl rfl rfl rfl rfl zLen (fun v32 hv32 => ?_)
        refine zF 1 1 false ?_; refine zSt ?_; refine aops_nil ?_; refine blockQ_n ?_; refine seqQ_n ?_; refine awp_region ?_; refine zAr ?_; refine zMv ?_; refine zN ?_
        rw [hd] at hI; simp only [lessN] at hI
        first
        | (rw [if_pos (hc23.trans hc)] at hI; refine ⟨k + 1, v, lw th, q, ⟨by omega, by omega, hI⟩, by omega, wk zSub zKeep⟩)
        | (rw [if_neg (fun e => by rw [hc23.trans hc] at e; cases e)] at hI; rw [mapi_snoc]; refine ⟨k + 1, _, th, q ++ [x], ⟨by omega, by simp only [List.length_append, List.length_cons, List.length_nil]; omega, hI⟩, by omega, wk zSub zKeep⟩)
    · have hge := of_decide_eq_false hc
      have hN : lessN s t.nodes t.th [] = (th, q) := by rw [drop_nil (by omega)] at hI; exact hI.symm
      refine awp_exit ?_; refine seqQ_x ?_; refine seqQ_x ?_; refine blockQ_x rfl ?_; refine seqQ_n ?_; refine awp_seq ?_; refine zS ?_; refine zF 2 1 false ?_; refine zL1 ?_
      first | refine aops_len rfl rfl rfl rfl (fun _ => ?_) | refine zP (ap_len_arr rfl zUpd rfl) ?_ | refine zP (ap_len_nil rfl rfl) ?_
      refine zMv ?_; refine zN ?_; refine awp_block ?_
      refine awp_loop4 [1, 4, 5, 36, 37] [.box b4 _ _, .box b2 _ _, .arr v 3 1 (q.map .i)] (fun (k : Nat) (v2 : Value) (th2 : Int) (q2 : List Trust) r => (38, .i (k : Int)) :: r) (fun (k : Nat) (v2 : Value) (th2 : Int) (q2 : List Trust) r => .box b5 48 [.i th2, .v v, .v v2] :: .arr v2 48 3 (avs q2) :: r) (fun (k : Nat) (v2 : Value) (th2 : Int) (q2 : List Trust) => k ≤ t.inner.length ∧ q2.length ≤ k ∧ lessI s (t.inner.drop k) th2 q2 = lessI s t.inner th []) (fun (k : Nat) (v2 : Value) (th2 : Int) (q2 : List Trust) => t.inner.length - k) (0) (.slice none 0 0) (th) ([]) zRc ⟨by omega, by simp, by simp⟩ ((wk_own 48 3 rfl).trans (wk zSub zKeep)) ?_
      intro k v2 th2 q2 ⟨hk, hql2, hI2⟩
      have hal : (avs q2).length = q2.length := avs_len _
      refine zS ?_; refine zCm ?_; refine zN ?_; refine awp_seq ?_
      refine zC (fun hc => ?_) fun hc => ?_
      · have hlt := of_decide_eq_true hc
        obtain ⟨y, hy, hd⟩ := drop_cons (l := t.inner) (k := k) (by omega)
        have hy' := avs_get hy
        have hym := List.mem_of_getElem? hy
        refine awp_skip ?_; refine seqQ_n ?_; refine awp_seq ?_; refine awp_block ?_; refine zS ?_
        first | refine zP (ap_index rfl rfl rfl rfl (by decide) rfl zAss) ?_ | refine zP (ap_index rfl rfl rfl rfl (by decide) (by omega) zAss) ?_ | refine zP (ap_index_own rfl rfl rfl rfl rfl (by first | omega | (simp only [List.length_map, List.length_set, avs_len]; omega))) ?_
        refine zLd ?_
        refine aops_alloc rfl zRc rfl rfl (fun b9 => ?_)
        refine zSt ?_; refine zN (zS ?_); refine zLd ?_; refine zMv ?_
        refine aops_call_v zRc (ih y hym (by have := sizeL_mem hym; omega)) rfl rfl ?_
        refine aops_alloc rfl zRc rfl rfl (fun b10 => ?_)
        refine zSt ?_; refine zN (zS ?_); refine zF 0 1 false ?_; refine zL1 ?_; refine zCm ?_; refine zN ?_
        refine zC (fun hc => ?_) fun hc => ?_
        · refine awp_region ?_
          refine zF 0 1 false ?_; refine zL1 ?_
          refine aops_call_v zRc (lower_con _) rfl rfl ?_
          refine zF 0 1 false ?_; refine zSt ?_; refine aops_nil ?_; refine blockQ_n ?_; refine seqQ_n ?_; refine awp_region ?_; refine zAr ?_; refine zMv ?_; refine zN ?_
          rw [hd, lessI_cons] at hI2
          first
          | (rw [if_pos (of_decide_eq_true hc)] at hI2; refine ⟨k + 1, v2, lw th2, q2, ⟨by omega, by omega, hI2⟩, by omega, wk zSub zKeep⟩)
          | (rw [if_neg (of_decide_eq_false hc)] at hI2; rw [show D.agg [.i (less s y).th, .sl 1 ((less s y).nodes.map .i), .sl 3 (avs (less s y).inner)] = av (less s y) from rfl, avs_snoc]; refine ⟨k + 1, _, th2, q2 ++ [less s y], ⟨by omega, by simp only [List.length_append, List.length_cons, List.length_nil]; omega, hI2⟩, by omega, wk zSub zKeep⟩)
        · refine awp_region ?_
          refine zF 2 1 false ?_; refine zL1 ?_; refine zLd ?_
          refine aops_lit (e := 48) (sz := 3) (by_ := 56) rfl rfl zRc rfl rfl rfl rfl ?_
          first | refine aops_append (e := 48) (sz := 3) (by_ := 56) rfl zUpd rfl rfl rfl rfl rfl zLen (fun v56 hv56 => ?_) | refine aops_append_nil (e := 48) (sz := 3) (by_ := 56) rfl rfl rfl rfl rfl rfl zLen (fun v56 hv56 => ?_)
          refine zF 2 1 false ?_; refine zSt ?_; refine aops_nil ?_; refine blockQ_n ?_; refine seqQ_n ?_; refine awp_region ?_; refine zAr ?_; refine zMv ?_; refine zN ?_
          rw [hd, lessI_cons] at hI2
          first
          | (rw [if_pos (of_decide_eq_true hc)] at hI2; refine ⟨k + 1, v2, lw th2, q2, ⟨by omega, by omega, hI2⟩, by omega, wk zSub zKeep⟩)
          | (rw [if_neg (of_decide_eq_false hc)] at hI2; rw [show D.agg [.i (less s y).th, .sl 1 ((less s y).nodes.map .i), .sl 3 (avs (less s y).inner)] = av (less s y) from rfl, avs_snoc]; refine ⟨k + 1, _, th2, q2 ++ [less s y], ⟨by omega, by simp only [List.length_append, List.length_cons, List.length_nil]; omega, hI2⟩, by omega, wk zSub zKeep⟩)
      · have hge := of_decide_eq_false hc
        have hL : lessI s t.inner th [] = (th2, q2) := by rw [drop_nil (by omega)] at hI2; exact hI2.symm
        refine awp_exit ?_; refine seqQ_x ?_; refine seqQ_x ?_; refine blockQ_x rfl ?_; refine seqQ_n ?_; refine zS ?_; refine zLd ?_; refine zSt ?_; refine zN ?_
        refine awp_freeze v [4] zRem zSelC zHeapA ?_; refine awp_freeze v2 [4] zRem zSelC zHeapA ?_
        refine awp_ret ?_
        refine post_is (.cell rfl zUpd rfl rfl .nil) zKeep ?_
        rw [less_mk hN hL]; rfl
theorem delT_con (t : Trust) (k : Int) (s : Nat) (hs : s < 1024) (hsz : sizeT t ≤ 200000) : Con none Tryz.prog 119 [av t, .i k, .i s] [] (Is (av (delT s k t)) []) := by
  have hcap : capB = 140737488355328 := rfl
  refine con_intro Tryz.func119 rfl Tryz.call119 rfl ?_
  refine zS ?_
  refine aops_box rfl zFlat rfl rfl (fun b3 => ?_)
  refine aops_alloc rfl zRc rfl rfl (fun b6 => ?_)
  refine zN ?_; refine awp_seq ?_; refine zS ?_; refine zMv ?_
  refine aops_call_v zRc (rvalidn hs) rfl rfl ?_
  refine zNo ?_; refine zN ?_
  refine awp_cond_f rfl zDec ?_
  refine awp_skip ?_; refine seqQ_n ?_; refine zS ?_; refine zLd ?_; refine zMv ?_
  refine aops_call_v zRc (less_con s t hsz) rfl rfl ?_
  refine aops_alloc rfl zRc rfl rfl (fun b7 => ?_)
  refine zSt ?_; refine zN ?_; refine awp_seq ?_; refine zS ?_; refine zF 0 1 false ?_; refine zL1 ?_; refine zCm ?_; refine zN ?_
  refine zC (fun hc => ?_) fun hc => ?_
  · have hle := of_decide_eq_true hc
    refine zS ?_; refine zMv ?_
    refine aops_lit (e := 3) (sz := 1) (by_ := 8) rfl rfl zRc rfl rfl rfl rfl ?_
    refine zP (ap_build zKr rfl zRc zFill) ?_
    refine zSt ?_; refine zN ?_
    refine awp_unnil [6] 3 rfl zSelC zHeapA ?_
    refine awp_ret ?_; refine seqQ_r ?_
    refine post_is (.cell rfl zUpd rfl rfl .nil) zKeep ?_
    unfold delT; rw [if_pos hle]; rfl
  · have hle := of_decide_eq_false hc
    refine awp_skip ?_; refine seqQ_n ?_; refine zS ?_; refine zLd ?_; refine zSt ?_; refine zN ?_; refine awp_ret ?_
    refine post_is (.cell rfl zUpd rfl rfl .nil) zKeep ?_
    unfold delT; rw [if_neg hle]; rfl
theorem delM_1 {s : Int} {k : Nat} {m : Mem} (h : has s k = true) : delM s k m = ⟨false, Trust.none⟩ := by unfold delM; rw [if_pos h]
theorem delM_2 {s : Int} {k : Nat} {m : Mem} (h : has s k = false) (hd : m.decl = true) : delM s k m = ⟨m.decl, delT s k m.t⟩ := by unfold delM; rw [if_neg (by rw [h]; decide), if_pos hd, hd]
theorem delM_3 {s : Int} {k : Nat} {m : Mem} (h : has s k = false) (hd : m.decl = false) : delM s k m = m := by unfold delM; rw [if_neg (by rw [h]; decide), if_neg (by rw [hd]; decide)]
theorem del_next {s : Int} {k : Nat} {x : Mem} {c l l' q : List Mem} (hd : l = x :: l') (hI : q ++ delGo s k l = delC c s) : (q ++ [delM s k x]) ++ delGo s (k + 1) l' = delC c s := by rw [← hI, hd]; simp [delGo]
theorem del_con (c : List Mem) (hcl : c.length ≤ 10) (s : Nat) (hs : s < 1024) (hsz : ∀ m ∈ c, sizeT m.t ≤ 200000) : Con none Tryz.prog 78 [cv c, .i s] [] (Is (cv (delC c s)) []) := by
  have hcap : capB = 140737488355328 := rfl
  have hml : (c.map mv).length = c.length := by simp
  refine con_intro Tryz.func78 rfl Tryz.call78 rfl ?_
  refine zS ?_
  refine aops_box rfl zFlat rfl rfl (fun b2 => ?_)
  refine aops_alloc rfl zRc rfl rfl (fun b4 => ?_)
  refine zN ?_; refine awp_seq ?_; refine zS ?_; refine zMv ?_
  refine aops_call_v zRc (rvalidn hs) rfl rfl ?_
  refine zNo ?_; refine zN ?_
  refine awp_cond_f rfl zDec ?_
  refine awp_skip ?_; refine seqQ_n ?_; refine zS ?_
  refine aops_alloc rfl zRc rfl rfl (fun b5 => ?_)
  refine zN ?_; refine awp_seq ?_; refine zS ?_; refine zF 0 1 false ?_; refine zL1 ?_
  first | refine aops_len rfl rfl rfl rfl (fun _ => ?_) | refine zP (ap_len_arr rfl zUpd rfl) ?_ | refine zP (ap_len_nil rfl rfl) ?_
  refine zMv ?_; refine zN ?_; refine awp_block ?_
  refine awp_loop3 [1, 4, 5, 13, 14] [.box b4 _ _, .box b2 _ _] (fun (k : Nat) (v : Value) (q : List Mem) r => (15, .i (k : Int)) :: r) (fun (k : Nat) (v : Value) (q : List Mem) r => .box b5 28 [.v v] :: .arr v 101 4 (q.map mv) :: r) (fun (k : Nat) (v : Value) (q : List Mem) => k ≤ c.length ∧ q.length = k ∧ q ++ delGo s k (c.drop k) = delC c s) (fun (k : Nat) (v : Value) (q : List Mem) => c.length - k) (0) (.slice none 0 0) ([]) zRc ⟨by omega, rfl, by simp [delC]⟩ ((wk_own 101 4 rfl).trans (wk zSub zKeep)) ?_
  intro k v q ⟨hk, hql, hI⟩
  have hqm : (q.map mv).length = q.length := by simp
  refine zS ?_; refine zCm ?_; refine zN ?_; refine awp_seq ?_
  refine zC (fun hc => ?_) fun hc => ?_
  · have hlt := of_decide_eq_true hc
    obtain ⟨x, hx, hd⟩ := drop_cons (l := c) (k := k) (by omega)
    have hx' := getMap mv hx
    refine awp_skip ?_; refine seqQ_n ?_; refine awp_seq ?_; refine awp_block ?_; refine zS ?_; refine zMv ?_
    first | refine zP (ap_index rfl rfl rfl rfl (by decide) rfl zAss) ?_ | refine zP (ap_index rfl rfl rfl rfl (by decide) (by omega) zAss) ?_ | refine zP (ap_index_own rfl rfl rfl rfl rfl (by first | omega | (simp only [List.length_map, List.length_set, avs_len]; omega))) ?_
    refine zLd ?_
    refine aops_alloc rfl zRc rfl rfl (fun b7 => ?_)
    refine zAs ?_; refine zSt ?_; refine zN ?_; refine awp_seq ?_; refine awp_block ?_; refine zS ?_; refine zMv ?_; refine zMv ?_
    refine aops_call_b zRc (rhas_con s k) rfl rfl (fun c23 hc23 => ?_)
    refine zAs ?_; refine zN ?_
    refine zC (fun hc => ?_) fun hc => ?_
    · refine awp_region ?_
      refine zP (ap_build zKr rfl zRc zFill) ?_
      refine zSt ?_; refine aops_nil ?_; refine blockQ_n ?_; refine seqQ_n ?_; refine awp_region ?_; refine zF 0 1 false ?_; refine zL1 ?_; refine zLd ?_
      refine aops_unnil [1,4,5,13,14,15,35,36] 1 rfl rfl (by repeat (first | exact SelC.nil | apply SelC.cons rfl (Cv.agg (CvL.cons Cv.same (CvL.cons Cv.same (CvL.cons Cv.fz (CvL.cons Cv.same CvL.nil))))) | apply SelC.cons rfl Cv.same)) zHeapS ?_; refine aops_unnil [1,4,5,13,14,15,35,36] 3 rfl rfl zSelC zHeapS ?_; refine aops_lit (e := 101) (sz := 4) (by_ := 64) rfl rfl zRc rfl rfl rfl rfl ?_
      first | refine aops_append (e := 101) (sz := 4) (by_ := 64) rfl zUpd rfl rfl rfl rfl rfl (by simp only [List.length_cons, List.length_nil, List.length_append, List.length_map]; omega) (fun v38 hv38 => ?_) | refine aops_append_nil (e := 101) (sz := 4) (by_ := 64) rfl rfl rfl rfl rfl rfl (by simp only [List.length_cons, List.length_nil, List.length_append, List.length_map]; omega) (fun v38 hv38 => ?_)
      refine zF 0 1 false ?_; refine zSt ?_; refine aops_nil ?_; refine blockQ_n ?_; refine seqQ_n ?_; refine awp_region ?_; refine zAr ?_; refine zMv ?_; refine zN ?_
      first
      | (refine ⟨k + 1, v38, q ++ [delM s k x], ⟨by omega, by simp only [List.length_append, List.length_cons, List.length_nil]; omega, del_next hd hI⟩, by omega, ?_⟩; rw [← mv_snoc, delM_1 (hc23.trans (by with_reducible assumption))]; exact (wk zSub zKeep))
      | (refine ⟨k + 1, v38, q ++ [delM s k x], ⟨by omega, by simp only [List.length_append, List.length_cons, List.length_nil]; omega, del_next hd hI⟩, by omega, ?_⟩; rw [← mv_snoc, delM_2 (hc23.trans (by with_reducible assumption)) (by with_reducible assumption)]; exact (wk zSub zKeep))
      | (refine ⟨k + 1, v38, q ++ [delM s k x], ⟨by omega, by simp only [List.length_append, List.length_cons, List.length_nil]; omega, del_next hd hI⟩, by omega, ?_⟩; rw [← mv_snoc, delM_3 (hc23.trans (by with_reducible assumption)) (by with_reducible assumption)]; exact (wk zSub zKeep))
    · refine awp_seq ?_
      refine awp_region ?_; refine zF 0 1 false ?_; refine zL1 ?_; refine zAs ?_; refine zN ?_
      refine zC (fun hc => ?_) fun hc => ?_
      · refine awp_region ?_
        refine zF 1 3 true ?_; refine zLd ?_; refine zMv ?_; refine zMv ?_
        refine aops_call_v zRc (delT_con x.t k s hs (hsz x (List.mem_of_getElem? hx))) rfl rfl ?_
        refine zF 1 3 true ?_; refine zSt ?_; refine aops_nil ?_; refine blockQ_n ?_; refine seqQ_n ?_; refine awp_region ?_; refine zF 0 1 false ?_; refine zL1 ?_; refine zLd ?_
        refine aops_unnil [1,4,5,13,14,15,35,36] 1 rfl rfl (by repeat (first | exact SelC.nil | apply SelC.cons rfl (Cv.agg (CvL.cons Cv.same (CvL.cons Cv.same (CvL.cons Cv.fz (CvL.cons Cv.same CvL.nil))))) | apply SelC.cons rfl Cv.same)) zHeapS ?_; refine aops_unnil [1,4,5,13,14,15,35,36] 3 rfl rfl zSelC zHeapS ?_; refine aops_lit (e := 101) (sz := 4) (by_ := 64) rfl rfl zRc rfl rfl rfl rfl ?_
        first | refine aops_append (e := 101) (sz := 4) (by_ := 64) rfl zUpd rfl rfl rfl rfl rfl (by simp only [List.length_cons, List.length_nil, List.length_append, List.length_map]; omega) (fun v38 hv38 => ?_) | refine aops_append_nil (e := 101) (sz := 4) (by_ := 64) rfl rfl rfl rfl rfl rfl (by simp only [List.length_cons, List.length_nil, List.length_append, List.length_map]; omega) (fun v38 hv38 => ?_)
        refine zF 0 1 false ?_; refine zSt ?_; refine aops_nil ?_; refine blockQ_n ?_; refine seqQ_n ?_; refine awp_region ?_; refine zAr ?_; refine zMv ?_; refine zN ?_
        first
        | (refine ⟨k + 1, v38, q ++ [delM s k x], ⟨by omega, by simp only [List.length_append, List.length_cons, List.length_nil]; omega, del_next hd hI⟩, by omega, ?_⟩; rw [← mv_snoc, delM_1 (hc23.trans (by with_reducible assumption))]; exact (wk zSub zKeep))
        | (refine ⟨k + 1, v38, q ++ [delM s k x], ⟨by omega, by simp only [List.length_append, List.length_cons, List.length_nil]; omega, del_next hd hI⟩, by omega, ?_⟩; rw [← mv_snoc, delM_2 (hc23.trans (by with_reducible assumption)) (by with_reducible assumption)]; exact (wk zSub zKeep))
        | (refine ⟨k + 1, v38, q ++ [delM s k x], ⟨by omega, by simp only [List.length_append, List.length_cons, List.length_nil]; omega, del_next hd hI⟩, by omega, ?_⟩; rw [← mv_snoc, delM_3 (hc23.trans (by with_reducible assumption)) (by with_reducible assumption)]; exact (wk zSub zKeep))
      · refine awp_skip ?_
        refine blockQ_n ?_; refine seqQ_n ?_; refine awp_region ?_; refine zF 0 1 false ?_; refine zL1 ?_; refine zLd ?_
        refine aops_unnil [1,4,5,13,14,15,35,36] 1 rfl rfl (by repeat (first | exact SelC.nil | apply SelC.cons rfl (Cv.agg (CvL.cons Cv.same (CvL.cons Cv.same (CvL.cons Cv.fz (CvL.cons Cv.same CvL.nil))))) | apply SelC.cons rfl Cv.same)) zHeapS ?_; refine aops_unnil [1,4,5,13,14,15,35,36] 3 rfl rfl zSelC zHeapS ?_; refine aops_lit (e := 101) (sz := 4) (by_ := 64) rfl rfl zRc rfl rfl rfl rfl ?_
        first | refine aops_append (e := 101) (sz := 4) (by_ := 64) rfl zUpd rfl rfl rfl rfl rfl (by simp only [List.length_cons, List.length_nil, List.length_append, List.length_map]; omega) (fun v38 hv38 => ?_) | refine aops_append_nil (e := 101) (sz := 4) (by_ := 64) rfl rfl rfl rfl rfl rfl (by simp only [List.length_cons, List.length_nil, List.length_append, List.length_map]; omega) (fun v38 hv38 => ?_)
        refine zF 0 1 false ?_; refine zSt ?_; refine aops_nil ?_; refine blockQ_n ?_; refine seqQ_n ?_; refine awp_region ?_; refine zAr ?_; refine zMv ?_; refine zN ?_
        first
        | (refine ⟨k + 1, v38, q ++ [delM s k x], ⟨by omega, by simp only [List.length_append, List.length_cons, List.length_nil]; omega, del_next hd hI⟩, by omega, ?_⟩; rw [← mv_snoc, delM_1 (hc23.trans (by with_reducible assumption))]; exact (wk zSub zKeep))
        | (refine ⟨k + 1, v38, q ++ [delM s k x], ⟨by omega, by simp only [List.length_append, List.length_cons, List.length_nil]; omega, del_next hd hI⟩, by omega, ?_⟩; rw [← mv_snoc, delM_2 (hc23.trans (by with_reducible assumption)) (by with_reducible assumption)]; exact (wk zSub zKeep))
        | (refine ⟨k + 1, v38, q ++ [delM s k x], ⟨by omega, by simp only [List.length_append, List.length_cons, List.length_nil]; omega, del_next hd hI⟩, by omega, ?_⟩; rw [← mv_snoc, delM_3 (hc23.trans (by with_reducible assumption)) (by with_reducible assumption)]; exact (wk zSub zKeep))
  · have hge := of_decide_eq_false hc
    have hF : q = delC c s := by rw [drop_nil (by omega)] at hI; simpa [delGo] using hI
    refine awp_exit ?_; refine seqQ_x ?_; refine seqQ_x ?_; refine blockQ_x rfl ?_; refine seqQ_n ?_; refine zS ?_; refine zLd ?_; refine zSt ?_; refine zN ?_
    refine awp_freeze v [4] zRem zSelC zHeapA ?_
    refine awp_ret ?_
    refine post_is (.cell rfl zUpd rfl rfl .nil) zKeep ?_
    rw [← hF]; rfl
/-- The thresholds are not negative, and no giants. -/
abbrev TB (k : Int) : Prop := 0 ≤ k ∧ k ≤ 1000000000000
inductive NN : Trust → Prop
  | mk {th : Int} {q : List Int} {i : List Trust} (h : TB th) (hi : ∀ y ∈ i, NN y) : NN (.mk th q i)
theorem NN.th {t : Trust} (h : NN t) : TB t.th := by cases h with | mk h hi => exact h
theorem NN.inner {t : Trust} (h : NN t) : ∀ y ∈ t.inner, NN y := by cases h with | mk h hi => exact hi
theorem lw_nn {k : Int} (h : TB k) : TB (lw k) ∧ max k 1 - 1 = lw k := by
  obtain ⟨h1, h2⟩ := h
  unfold lw TB
  split
  · omega
  · rw [wrap_id (by omega) (by omega)]; omega
theorem lessN_nn {s : Int} : ∀ (l : List Int) (th : Int) (q : List Int), TB th → TB (lessN s l th q).1
  | [], th, q, h => by simpa [lessN] using h
  | x :: l, th, q, h => by
    simp only [lessN]
    split
    · exact lessN_nn l _ _ (lw_nn h).1
    · exact lessN_nn l _ _ h
theorem lessI_nn {s : Int} : ∀ (l : List Trust) (th : Int) (q : List Trust), TB th → TB (lessI s l th q).1
  | [], th, q, h => by simpa [lessI] using h
  | x :: l, th, q, h => by
    rw [lessI_cons]
    split
    · exact lessI_nn l _ _ (lw_nn h).1
    · exact lessI_nn l _ _ h
theorem less_nn {s : Int} {t : Trust} (h : NN t) : TB (less s t).th :=
  lessI_nn t.inner _ [] (lessN_nn t.nodes t.th [] h.th)
theorem lowered_con (k : Int) (h : TB k) : Con none Tryz.prog 200 [.i k, .i 1] [] (Is (.i (lw k)) []) := by
  have hcap : capB = 140737488355328 := rfl
  have h2 := (lw_nn h).2
  obtain ⟨h0, h1⟩ := h
  refine con_intro Tryz.func200 rfl Tryz.call200 rfl ?_
  refine zS ?_; refine zAs ?_; refine zN (zS ?_); refine zMv ?_; refine zMv ?_
  refine zP (ap_max rfl rfl) ?_
  refine zMv ?_
  refine zP (ap_arith (m := lw k) rfl rfl (by simp only [addI, Option.some.injEq]; exact h2) (by omega)) ?_
  refine zAs ?_; refine zN ?_; refine awp_ret ?_
  exact post_is (.tmp rfl .nil) zKeep rfl
end Go.Proofs.YtgmpjpaekpefdaaGreat
