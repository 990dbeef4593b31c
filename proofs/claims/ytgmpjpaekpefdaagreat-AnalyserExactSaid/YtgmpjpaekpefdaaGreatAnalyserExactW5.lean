/- The walks of: rprefer_con, plain_con, rplain_con, gSplit_con, rSplit_con, thin_con, light_con, SSome_con, exact_con, exact43_con. Each says what one function of the program answers, for the arguments that its statement names. No condition beyond what each theorem says. -/
import Derived.Test.YtgmpjpaekpefdaaGreatAnalyserExactW4
import Derived.Test.YtgmpjpaekpefdaaGreatProg
import Derived.KernelRfl
import Derived.Tactics
import Derived.Tactics2
import Derived.StillTactics
set_option linter.unusedVariables false
set_option linter.unusedSimpArgs false
set_option linter.unnecessarySimpa false
set_option maxRecDepth 4000
namespace Go.Proofs.YtgmpjpaekpefdaaGreat
open Go Go.Av Go.Tq
theorem rprefer_con (s : Nat) (hs : s < 1024) (w : ByteArray) : Con none Tryz.prog 89 [.i s, .v (.string w)] [] (fun d H => ∃ v, d = .v v ∧ H = [.arr v 59 34 ((prefL s w).map stv)]) := by
  have hcap : capB = 140737488355328 := rfl
  refine con_intro Tryz.func89 rfl Tryz.call89 rfl ?_
  refine zS ?_; refine zAs ?_; refine zN (zS ?_); refine zAs ?_; refine zN ?_; refine awp_seq ?_; refine zS ?_; refine zAs ?_; refine zN ?_; refine awp_block ?_
  refine awp_loop2 [0, 1] [] (fun (k : Nat) (v : Value) r => (5, .v v) :: (6, .i (k : Int)) :: r) (fun (k : Nat) (v : Value) r => .arr v 59 34 (((nodesTo s k).map (fun j => prefS j w)).map stv) :: r) (fun (k : Nat) (v : Value) => k ≤ 10) (fun (k : Nat) (v : Value) => 10 - k) (0) (.slice none 0 0) zRc (by omega) ((wk_own 59 34 rfl).trans (wk zSub zKeep)) ?_
  intro k v hk
  have hql : (((nodesTo s k).map (fun j => prefS j w)).map stv).length ≤ 10 := by have := nodesTo_len (s : Int) k; simp only [List.length_map]; omega
  refine awp_seq ?_; refine zS ?_; refine zMv ?_; refine zCm ?_; refine zN ?_
  refine zC (fun hc => ?_) fun hc => ?_
  · have hlt := of_decide_eq_true hc
    refine awp_skip ?_; refine seqQ_n ?_; refine awp_seq ?_; refine awp_block ?_; refine awp_seq ?_
    have hd16 : s / 2 ^ k < 9223372036854775808 := Nat.lt_of_le_of_lt (Nat.div_le_self _ _) (by omega)
    refine awp_region ?_; refine zMv ?_; refine zMv ?_
    refine zP (ap_convu rfl rfl rfl (by omega)) ?_
    refine zP (ap_shr rfl rfl (by omega)) ?_
    refine zP (ap_bits (q := 1) rfl rfl rfl (by omega) (by omega)) ?_
    refine zCm ?_; refine zN ?_
    refine zC (fun hc => ?_) fun hc => ?_
    · refine awp_region ?_
      refine zMv ?_; refine zMv ?_; refine zMv ?_
      refine zP (ap_build zKr rfl zRc zFill) ?_
      refine aops_unnil [0,1,6,17,20] 1 rfl rfl (by repeat (first | exact SelC.nil | apply SelC.cons rfl (cvPref k w) | apply SelC.cons rfl Cv.same)) zHeapS ?_; refine aops_lit (e := 59) (sz := 34) (by_ := 448) rfl rfl zRc rfl rfl rfl rfl ?_
      first | refine aops_append (e := 59) (sz := 34) (by_ := 448) rfl zUpd rfl rfl rfl rfl rfl (by simp only [List.length_cons, List.length_nil]; omega) (fun v22 hv22 => ?_) | refine aops_append_nil (e := 59) (sz := 34) (by_ := 448) rfl rfl rfl rfl rfl rfl (by simp only [List.length_cons, List.length_nil]; omega) (fun v22 hv22 => ?_)
      refine zAs ?_; refine aops_nil ?_; refine blockQ_n ?_; refine seqQ_n ?_; refine awp_region ?_; refine zMv ?_; refine zAr ?_; refine zAs ?_; refine zN ?_
      first
      | (have h0 : decide (((s / 2 ^ k &&& 1 : Nat) : Int) = 1) = true := (by with_reducible assumption); rw [st_snoc, show (nodesTo s k).map (fun j => prefS j w) ++ [prefS k w] = (nodesTo s (k + 1)).map (fun j => prefS j w) from by rw [nodesTo_t ((bit_iff hs (by omega)).1 (of_decide_eq_true h0)), List.map_append]; rfl]; refine ⟨k + 1, _, by omega, by omega, wk zSub zKeep⟩)
      | (have h0 : decide (((s / 2 ^ k &&& 1 : Nat) : Int) = 1) = false := (by with_reducible assumption); refine ⟨k + 1, v, by omega, by omega, ?_⟩; rw [nodesTo_f (fun e => of_decide_eq_false h0 ((bit_iff hs (by omega)).2 e))]; exact wk zSub zKeep)
    · refine awp_skip ?_
      refine blockQ_n ?_; refine seqQ_n ?_; refine awp_region ?_; refine zMv ?_; refine zAr ?_; refine zAs ?_; refine zN ?_
      first
      | (have h0 : decide (((s / 2 ^ k &&& 1 : Nat) : Int) = 1) = true := (by with_reducible assumption); rw [st_snoc, show (nodesTo s k).map (fun j => prefS j w) ++ [prefS k w] = (nodesTo s (k + 1)).map (fun j => prefS j w) from by rw [nodesTo_t ((bit_iff hs (by omega)).1 (of_decide_eq_true h0)), List.map_append]; rfl]; refine ⟨k + 1, _, by omega, by omega, wk zSub zKeep⟩)
      | (have h0 : decide (((s / 2 ^ k &&& 1 : Nat) : Int) = 1) = false := (by with_reducible assumption); refine ⟨k + 1, v, by omega, by omega, ?_⟩; rw [nodesTo_f (fun e => of_decide_eq_false h0 ((bit_iff hs (by omega)).2 e))]; exact wk zSub zKeep)
  · have hge := of_decide_eq_false hc
    obtain rfl : k = 10 := by omega
    refine awp_exit ?_; refine seqQ_x ?_; refine seqQ_x ?_; refine blockQ_x rfl ?_; refine seqQ_n ?_; refine zS ?_; refine zMv ?_; refine zAs ?_; refine zN ?_; refine awp_ret ?_
    exact post_ret (.tmp rfl .nil) zKeep ⟨_, rfl, rfl⟩
def plainL (c : List Mem) (w : ByteArray) : List Stp := if validC c = 0 then prefL ((2 ^ c.length - 1 : Nat) : Int) w ++ [tickS] else []
theorem plain_con (c : List Mem) (hL : Lt c) (w : ByteArray) : Con none Tryz.prog 20 [cv c, .v (.string w)] [] (Is (.sl 34 ((plainL c w).map stv)) []) := by
  have hcap : capB = 140737488355328 := rfl
  have hp := pow4 hL.len
  refine con_intro Tryz.func20 rfl Tryz.call20 rfl ?_
  refine zS ?_
  refine aops_box rfl zFlat rfl rfl (fun b2 => ?_)
  refine zAs ?_; refine zN ?_; refine awp_seq ?_; refine zS ?_; refine zLd ?_
  refine aops_call_v zRc (validC_con c hL.s9) rfl rfl ?_
  refine zCm ?_; refine zN ?_
  refine zC (fun hc => ?_) fun hc => ?_
  · have hv := of_neq_true hc
    refine zS ?_; refine zAs ?_; refine zN ?_
    refine awp_unnil [4] 34 rfl zSelC zHeapA ?_
    refine awp_ret ?_; refine seqQ_r ?_
    refine post_is (.tmp rfl .nil) zKeep ?_
    unfold plainL; rw [if_neg hv]; rfl
  · have hv : validC c = 0 := of_neq_false hc
    have hpl := nodes_le ((2 ^ c.length - 1 : Nat) : Int)
    have hql : ((prefL ((2 ^ c.length - 1 : Nat) : Int) w).map stv).length ≤ 10 := by simp only [prefL, List.length_map]; omega
    have hql2 : (([] ++ prefL ((2 ^ c.length - 1 : Nat) : Int) w).map stv).length ≤ 10 := by rw [List.nil_append]; exact hql
    refine awp_skip ?_; refine seqQ_n ?_; refine zS ?_; refine zLd ?_
    refine aops_call_v zRc (all_con c hL.len) rfl rfl ?_
    refine zMv ?_
    refine aops_wk rfl (wk_own 59 34 rfl) ?_; (refine aops_call zRc (prefer_con (.slice none 0 0) [] (by simp) ((2 ^ c.length - 1 : Nat) : Int) w) zSplit rfl rfl ?_; rintro _ _ ⟨v11, rfl, rfl⟩)
    refine zP (ap_build zKr rfl zRc zFill) ?_
    refine aops_unnil [11,12] 1 rfl rfl (by repeat (first | exact SelC.nil | apply SelC.cons rfl (cvTick) | apply SelC.cons rfl Cv.same)) zHeapS ?_; refine aops_lit (e := 59) (sz := 34) (by_ := 448) rfl rfl zRc rfl rfl rfl rfl ?_
    first | refine aops_append (e := 59) (sz := 34) (by_ := 448) rfl zUpd rfl rfl rfl rfl rfl (by simp only [List.length_cons, List.length_nil]; omega) (fun v14 hv14 => ?_) | refine aops_append_nil (e := 59) (sz := 34) (by_ := 448) rfl rfl rfl rfl rfl rfl (by simp only [List.length_cons, List.length_nil]; omega) (fun v14 hv14 => ?_)
    refine zAs ?_; refine zN ?_
    refine awp_freeze v14 [4] zRem zSelC zHeapA ?_
    refine awp_ret ?_
    refine post_is (.tmp rfl .nil) zKeep ?_
    unfold plainL; rw [if_pos hv, ← st_snoc]
    first | (simp only [resD, List.nil_append]; done) | rfl
theorem rplain_con (c : List Mem) (hL : Lt c) (w : ByteArray) : Con none Tryz.prog 35 [cv c, .v (.string w)] [] (Is (.sl 34 ((plainL c w).map stv)) []) := by
  have hcap : capB = 140737488355328 := rfl
  have hp := pow4 hL.len
  refine con_intro Tryz.func35 rfl Tryz.call35 rfl ?_
  refine zS ?_
  refine aops_box rfl zFlat rfl rfl (fun b2 => ?_)
  refine zAs ?_; refine zN ?_; refine awp_seq ?_; refine zS ?_; refine zLd ?_
  refine aops_call_v zRc (r6valid_con c hL.s9) rfl rfl ?_
  refine zCm ?_; refine zN ?_
  refine zC (fun hc => ?_) fun hc => ?_
  · have hv := of_neq_true hc
    refine zS ?_; refine zAs ?_; refine zN ?_
    refine awp_unnil [4] 34 rfl zSelC zHeapA ?_
    refine awp_ret ?_; refine seqQ_r ?_
    refine post_is (.tmp rfl .nil) zKeep ?_
    unfold plainL; rw [if_neg hv]; rfl
  · have hv : validC c = 0 := of_neq_false hc
    have hpl := nodes_le ((2 ^ c.length - 1 : Nat) : Int)
    have hql : ((prefL ((2 ^ c.length - 1 : Nat) : Int) w).map stv).length ≤ 10 := by simp only [prefL, List.length_map]; omega
    have hql2 : (([] ++ prefL ((2 ^ c.length - 1 : Nat) : Int) w).map stv).length ≤ 10 := by rw [List.nil_append]; exact hql
    refine awp_skip ?_; refine seqQ_n ?_; refine zS ?_; refine zLd ?_
    refine aops_call_v zRc (rall_con c hL.len) rfl rfl ?_
    refine zMv ?_
    (refine aops_call zRc (rprefer_con (2 ^ c.length - 1) (by omega) w) zSplit rfl rfl ?_; rintro _ _ ⟨v11, rfl, rfl⟩)
    refine zP (ap_build zKr rfl zRc zFill) ?_
    refine aops_unnil [11,12] 1 rfl rfl (by repeat (first | exact SelC.nil | apply SelC.cons rfl (cvTick) | apply SelC.cons rfl Cv.same)) zHeapS ?_; refine aops_lit (e := 59) (sz := 34) (by_ := 448) rfl rfl zRc rfl rfl rfl rfl ?_
    first | refine aops_append (e := 59) (sz := 34) (by_ := 448) rfl zUpd rfl rfl rfl rfl rfl (by simp only [List.length_cons, List.length_nil]; omega) (fun v14 hv14 => ?_) | refine aops_append_nil (e := 59) (sz := 34) (by_ := 448) rfl rfl rfl rfl rfl rfl (by simp only [List.length_cons, List.length_nil]; omega) (fun v14 hv14 => ?_)
    refine zAs ?_; refine zN ?_
    refine awp_freeze v14 [4] zRem zSelC zHeapA ?_
    refine awp_ret ?_
    refine post_is (.tmp rfl .nil) zKeep ?_
    unfold plainL; rw [if_pos hv, ← st_snoc]
    first | (simp only [resD, List.nil_append]; done) | rfl
abbrev sa : ByteArray := ⟨#[97]⟩
abbrev sb : ByteArray := ⟨#[98]⟩
def restC (c : List Mem) (n l r : Nat) : Nat := (2 ^ c.length - 1) &&& (2 ^ 63 - 1 - (l ||| r ||| n))
def partsL (c : List Mem) (n l r : Nat) : List Int := if restC c n l r = 0 then [(l : Int), r] else [(l : Int), r, restC c n l r]
theorem parts_0 {c : List Mem} {n l r : Nat} (h : restC c n l r = 0) : partsL c n l r = [(l : Int), r] := if_pos h
theorem parts_1 {c : List Mem} {n l r : Nat} (h : ¬ restC c n l r = 0) : partsL c n l r = [(l : Int), r, restC c n l r] := if_neg h
def headL (c : List Mem) (n l r : Nat) : List Stp := [partS (partsL c n l r)] ++ prefL l sa ++ prefL r sb
def lieA (l i : Int) : List Stp := (nodesOf l).map fun k => lieS i k 1 sa
def lieB (r i : Int) : List Stp := (nodesOf r).map fun k => lieS i k 1 sb
def liesL (l r : Int) (is : List Int) : List Stp := is.flatMap fun i => lieA l i ++ lieB r i
theorem lies_snoc (l r : Int) (is : List Int) (i : Int) : liesL l r (is ++ [i]) = liesL l r is ++ (lieA l i ++ lieB r i) := by simp [liesL]
theorem lies_len (l r : Int) : ∀ is : List Int, (liesL l r is).length ≤ 20 * is.length
  | [] => by simp [liesL]
  | i :: t => by
    have h1 := lies_len l r t
    have h2 := nodes_le l
    have h3 := nodes_le r
    simp only [liesL, List.flatMap_cons, List.length_append, lieA, lieB, List.length_map, List.length_cons] at h1 ⊢
    omega
theorem head_len (c : List Mem) (n l r : Nat) : (headL c n l r).length ≤ 21 := by
  have h2 := nodes_le l
  have h3 := nodes_le r
  simp only [headL, prefL, List.length_append, List.length_map, List.length_cons, List.length_nil]
  omega
def splitE (c : List Mem) (s : Int) : List Stp × Int :=
  if checkE c s = 0 then (if (pairC c s.toNat).2.2 = true then (headL c s.toNat (pairC c s.toNat).1 (pairC c s.toNat).2.1 ++ liesL (pairC c s.toNat).1 (pairC c s.toNat).2.1 (nodesOf s) ++ [tickS], 0) else ([], 11)) else ([], checkE c s)
theorem split_no {c : List Mem} {s : Int} (h : ¬ checkE c s = 0) : splitE c s = ([], checkE c s) := if_neg h
theorem split_none {c : List Mem} {n : Nat} (h : checkE c n = 0) (h2 : (pairC c n).2.2 = false) : splitE c n = ([], 11) := by unfold splitE; rw [if_pos h, Int.toNat_natCast, if_neg (by rw [h2]; decide)]
theorem split_ok {c : List Mem} {n : Nat} (h : checkE c n = 0) (h2 : (pairC c n).2.2 = true) : splitE c n = (headL c n (pairC c n).1 (pairC c n).2.1 ++ liesL (pairC c n).1 (pairC c n).2.1 (nodesOf n) ++ [tickS], 0) := by unfold splitE; rw [if_pos h, Int.toNat_natCast, if_pos h2]
theorem pair_lt {c : List Mem} (hc : c.length ≤ 4) (n : Nat) : (pairC c n).1 < 1024 ∧ (pairC c n).2.1 < 1024 := judge_lt hc n
set_option maxHeartbeats 2000000 in
theorem gSplit_con (c : List Mem) (hL : Lt c) (s : Int) : Con none Tryz.prog 24 [cv c, .i s] [] (Is (.tup [.sl 34 ((splitE c s).1.map stv), .i (splitE c s).2]) []) := by
  have hcap : capB = 140737488355328 := rfl
  refine con_intro Tryz.func24 rfl Tryz.call24 rfl ?_
  refine zS ?_
  refine aops_box rfl zFlat rfl rfl (fun b2 => ?_)
  refine zAs ?_; refine zAs ?_; refine zN ?_; refine awp_seq ?_; refine zS ?_; refine zLd ?_; refine zMv ?_
  refine aops_call_v zRc (gcheck_con c hL s) rfl rfl ?_
  refine zAs ?_; refine zN (zS ?_); refine zMv ?_; refine zCm ?_; refine zN ?_
  refine zC (fun hc => ?_) fun hc => ?_
  · have h0 := of_neq_true hc
    refine zS ?_; refine zMv ?_; refine zAs ?_; refine zAs ?_; refine zN ?_
    refine awp_unnil [4,5] 34 rfl zSelC zHeapA ?_
    refine awp_ret ?_; refine seqQ_r ?_
    rw [split_no h0]
    exact post_is (.tmp rfl (.tmp rfl .nil)) zKeep rfl
  · have h0 := of_neq_false hc
    obtain ⟨hok, n, rfl, hs⟩ := check_ok hL h0
    have hp := pow4 hL.len
    obtain ⟨hl10, hr10⟩ := pair_lt hL.len n
    have hn1024 : n < 1024 := by omega
    have hlr : (pairC c n).1 ||| (pairC c n).2.1 < 1024 := Nat.or_lt_two_pow (n := 10) hl10 hr10
    have hlrn : (pairC c n).1 ||| (pairC c n).2.1 ||| n < 1024 := Nat.or_lt_two_pow (n := 10) hlr hn1024
    have hhl := head_len c n (pairC c n).1 (pairC c n).2.1
    have hnn := nodes_le (n : Int)
    have hnl := nodes_le ((pairC c n).1 : Int)
    have hnr := nodes_le ((pairC c n).2.1 : Int)
    refine awp_skip ?_; refine seqQ_n ?_; refine zS ?_; refine zLd ?_; refine zMv ?_
    refine aops_call_v zRc (apair_con c hok n hs) rfl rfl ?_
    refine zMv ?_
    refine zP (ap_extract rfl rfl) ?_
    refine zP (ap_extract rfl rfl) ?_
    refine zP (ap_extract rfl rfl) ?_
    refine zAs ?_; refine zAs ?_; refine zAs ?_; refine zN ?_; refine awp_seq ?_; refine zS ?_; refine zMv ?_; refine zNo ?_; refine zN ?_
    refine zC (fun hc => ?_) fun hc => ?_
    · have h2 : (pairC c n).2.2 = false := not_t hc
      refine zS ?_; refine zAs ?_; refine zAs ?_; refine zN ?_
      refine awp_unnil [4,5] 34 rfl zSelC zHeapA ?_
      refine awp_ret ?_; refine seqQ_r ?_
      rw [split_none h0 h2]
      exact post_is (.tmp rfl (.tmp rfl .nil)) zKeep rfl
    · have h2 : (pairC c n).2.2 = true := not_f hc
      refine awp_skip ?_; refine seqQ_n ?_; refine zS ?_; refine zMv ?_; refine zMv ?_
      refine aops_own (e := 3) (sz := 1) (by_ := 8) rfl rfl zRc rfl rfl rfl rfl (fun v36 hv36 => ?_)
      refine zAs ?_; refine zN ?_; refine awp_seq ?_; refine zS ?_; refine zLd ?_
      refine aops_call_v zRc (all_con c hL.len) rfl rfl ?_
      refine zMv ?_; refine zMv ?_
      refine zP (ap_bits rfl rfl rfl (by omega) (by omega)) ?_
      refine zMv ?_
      refine zP (ap_bits rfl rfl rfl (by omega) (by omega)) ?_
      refine zP (ap_bits rfl rfl rfl (by omega) (by omega)) ?_
      refine zAs ?_; refine zN (zS ?_); refine zMv ?_; refine zCm ?_; refine zN ?_
      refine zC (fun hc => ?_) fun hc => ?_
      rotate_left
      case' _ =>
        have hrest : (!decide ((restC c n (pairC c n).1 (pairC c n).2.1 : Int) = 0)) = false := hc
        refine awp_skip ?_
      rotate_right
      case' _ =>
        have hrest : (!decide ((restC c n (pairC c n).1 (pairC c n).2.1 : Int) = 0)) = true := hc
        refine awp_region ?_; refine zMv ?_; refine zMv ?_
        refine aops_lit (e := 3) (sz := 1) (by_ := 8) rfl rfl zRc rfl rfl rfl rfl ?_
        first | refine aops_append (e := 3) (sz := 1) (by_ := 8) rfl zUpd rfl rfl rfl rfl rfl (by simp only [List.length_cons, List.length_nil]; omega) (fun v50 hv50 => ?_) | refine aops_append_nil (e := 3) (sz := 1) (by_ := 8) rfl rfl rfl rfl rfl rfl (by simp only [List.length_cons, List.length_nil]; omega) (fun v50 hv50 => ?_)
        refine zAs ?_; refine aops_nil ?_
      all_goals (
        refine seqQ_n ?_; refine awp_seq ?_
        first | (have h46 : decide (1 = 1) = true := rfl; refine awp_freeze v50 [1,7,8,10] zRem zSelC zHeapA ?_; rw [show [D.i ((pairC c n).1 : Int), D.i ((pairC c n).2.1 : Int)] ++ [D.i (((2 ^ c.length - 1) &&& (2 ^ 63 - 1 - ((pairC c n).1 ||| (pairC c n).2.1 ||| n)) : Nat) : Int)] = (partsL c n (pairC c n).1 (pairC c n).2.1).map D.i from by rw [parts_1 (nez_t (by with_reducible assumption))]; rfl]) | (refine awp_freeze v36 [1,7,8,10] zRem zSelC zHeapA ?_; rw [show [D.i ((pairC c n).1 : Int), D.i ((pairC c n).2.1 : Int)] = (partsL c n (pairC c n).1 (pairC c n).2.1).map D.i from by rw [parts_0 (nez_f (by with_reducible assumption))]; rfl])
        refine awp_region ?_; refine zMv ?_
        refine zP (ap_build zKr rfl zRc zFill) ?_
        (refine aops_unnil [1,7,8,52] 1 rfl rfl (by repeat (first | exact SelC.nil | apply SelC.cons rfl (cvPart (partsL c n (pairC c n).1 (pairC c n).2.1)) | apply SelC.cons rfl Cv.same)) zHeapS ?_; refine aops_own (e := 59) (sz := 34) (by_ := 448) rfl rfl zRc rfl rfl rfl rfl (fun v53 hv53 => ?_))
        refine zAs ?_; refine zN (zS ?_); refine zMv ?_; refine zMv ?_
        (refine aops_call zRc (prefer_con _ ([partS (partsL c n (pairC c n).1 (pairC c n).2.1)]) (by simp only [prefL, List.length_append, List.length_map, List.length_cons, List.length_nil]; omega) ((pairC c n).1 : Int) sa) zSplit rfl rfl ?_; rintro _ _ ⟨v56, rfl, rfl⟩)
        refine zMv ?_
        (refine aops_call zRc (prefer_con _ ([partS (partsL c n (pairC c n).1 (pairC c n).2.1)] ++ prefL ((pairC c n).1 : Int) sa) (by simp only [prefL, List.length_append, List.length_map, List.length_cons, List.length_nil]; omega) ((pairC c n).2.1 : Int) sb) zSplit rfl rfl ?_; rintro _ _ ⟨v58, rfl, rfl⟩)
        refine zAs ?_; refine zN ?_; refine awp_seq ?_; refine zS ?_; refine zMv ?_
        refine aops_call_v zRc (Nodes_con _) rfl rfl ?_
        first | refine aops_len rfl rfl rfl rfl (fun _ => ?_) | refine zP (ap_len_arr rfl zUpd rfl) ?_ | refine zP (ap_len_nil rfl rfl) ?_
        refine zMv ?_; refine zN ?_; refine awp_block ?_
        refine awp_loop2 [7, 8, 60, 61] [] (fun (k : Nat) (v : Value) r => (12, .v v) :: (62, .i (k : Int)) :: r) (fun (k : Nat) (v : Value) r => .arr v 59 34 ((headL c n (pairC c n).1 (pairC c n).2.1 ++ liesL (pairC c n).1 (pairC c n).2.1 ((nodesOf (n : Int)).take k)).map stv) :: r) (fun (k : Nat) (v : Value) => k ≤ (nodesOf (n : Int)).length) (fun (k : Nat) (v : Value) => (nodesOf (n : Int)).length - k) (0) (v58) zRc (by omega) (by rw [List.take_zero, show liesL (pairC c n).1 (pairC c n).2.1 [] = [] from rfl, List.append_nil]; exact wk zSub zKeep) ?_
        intro k v hk
        have hfl := lies_len ((pairC c n).1 : Int) ((pairC c n).2.1 : Int) ((nodesOf (n : Int)).take k)
        have hql : ((headL c n (pairC c n).1 (pairC c n).2.1 ++ liesL (pairC c n).1 (pairC c n).2.1 ((nodesOf (n : Int)).take k)).map stv).length ≤ 221 := by simp only [List.length_map, List.length_append, List.length_take] at hfl ⊢; omega
        refine zS ?_; refine zCm ?_; refine zN ?_; refine awp_seq ?_
        refine zC (fun hc => ?_) fun hc => ?_
        · have hlt := of_decide_eq_true hc
          obtain ⟨x, hx, _⟩ := drop_cons (l := nodesOf (n : Int)) (k := k) (by simp only [List.length_map] at hlt; omega)
          have hx' := getMap D.i hx
          refine awp_skip ?_; refine seqQ_n ?_; refine awp_seq ?_; refine awp_block ?_; refine zS ?_
          first | refine zP (ap_index rfl rfl rfl rfl (by decide) rfl zAss) ?_ | refine zP (ap_index rfl rfl rfl rfl (by decide) (by omega) zAss) ?_ | refine zP (ap_index_own rfl rfl rfl rfl rfl (by first | omega | (simp only [List.length_map, List.length_set, avs_len]; omega))) ?_
          refine zL1 ?_; refine zAs ?_; refine zN ?_; refine awp_seq ?_; refine zS ?_; refine zMv ?_
          refine aops_call_v zRc (Nodes_con _) rfl rfl ?_
          first | refine aops_len rfl rfl rfl rfl (fun _ => ?_) | refine zP (ap_len_arr rfl zUpd rfl) ?_ | refine zP (ap_len_nil rfl rfl) ?_
          refine zMv ?_; refine zN ?_; refine awp_block ?_
          refine awp_loop2 [7, 8, 14, 60, 61, 62, 67, 68] [] (fun (j : Nat) (v2 : Value) r => (12, .v v2) :: (69, .i (j : Int)) :: r) (fun (j : Nat) (v2 : Value) r => .arr v2 59 34 ((headL c n (pairC c n).1 (pairC c n).2.1 ++ liesL (pairC c n).1 (pairC c n).2.1 ((nodesOf (n : Int)).take k) ++ ((nodesOf ((pairC c n).1 : Int)).take j).map (fun m => lieS x m 1 sa)).map stv) :: r) (fun (j : Nat) (v2 : Value) => j ≤ (nodesOf ((pairC c n).1 : Int)).length) (fun (j : Nat) (v2 : Value) => (nodesOf ((pairC c n).1 : Int)).length - j) (0) (v) zRc (by omega) (by rw [List.take_zero, List.map_nil, List.append_nil]; exact wk zSub zKeep) ?_
          intro j v2 hj
          have hql2 : ((headL c n (pairC c n).1 (pairC c n).2.1 ++ liesL (pairC c n).1 (pairC c n).2.1 ((nodesOf (n : Int)).take k) ++ ((nodesOf ((pairC c n).1 : Int)).take j).map (fun m => lieS x m 1 sa)).map stv).length ≤ 231 := by simp only [List.length_map, List.length_append, List.length_take] at hfl ⊢; omega
          refine zS ?_; refine zCm ?_; refine zN ?_; refine awp_seq ?_
          refine zC (fun hc => ?_) fun hc => ?_
          · have hlt2 := of_decide_eq_true hc
            obtain ⟨y, hy, _⟩ := drop_cons (l := nodesOf ((pairC c n).1 : Int)) (k := j) (by simp only [List.length_map] at hlt2; omega)
            have hy' := getMap D.i hy
            refine awp_skip ?_; refine seqQ_n ?_; refine awp_seq ?_; refine awp_block ?_; refine zS ?_
            first | refine zP (ap_index rfl rfl rfl rfl (by decide) rfl zAss) ?_ | refine zP (ap_index rfl rfl rfl rfl (by decide) (by omega) zAss) ?_ | refine zP (ap_index_own rfl rfl rfl rfl rfl (by first | omega | (simp only [List.length_map, List.length_set, avs_len]; omega))) ?_
            refine zL1 ?_; refine zAs ?_; refine zN ?_; refine awp_region ?_; refine zMv ?_; refine zMv ?_; refine zMv ?_
            refine aops_call_v zRc (lie_con x y 1 sa) rfl rfl ?_
            refine aops_lit (e := 59) (sz := 34) (by_ := 448) rfl rfl zRc rfl rfl rfl rfl ?_
            first | refine aops_append (e := 59) (sz := 34) (by_ := 448) rfl zUpd rfl rfl rfl rfl rfl (by simp only [List.length_cons, List.length_nil]; omega) (fun v78 hv78 => ?_) | refine aops_append_nil (e := 59) (sz := 34) (by_ := 448) rfl rfl rfl rfl rfl rfl (by simp only [List.length_cons, List.length_nil]; omega) (fun v78 hv78 => ?_)
            refine zAs ?_; refine aops_nil ?_; refine blockQ_n ?_; refine seqQ_n ?_; refine awp_region ?_; refine zAr ?_; refine zMv ?_; refine zN ?_
            rw [st_snoc, show headL c n (pairC c n).1 (pairC c n).2.1 ++ liesL (pairC c n).1 (pairC c n).2.1 ((nodesOf (n : Int)).take k) ++ ((nodesOf ((pairC c n).1 : Int)).take j).map (fun m => lieS x m 1 sa) ++ [lieS x y 1 sa] = headL c n (pairC c n).1 (pairC c n).2.1 ++ liesL (pairC c n).1 (pairC c n).2.1 ((nodesOf (n : Int)).take k) ++ ((nodesOf ((pairC c n).1 : Int)).take (j + 1)).map (fun m => lieS x m 1 sa) from by rw [take1 hy, List.map_append]; simp only [List.append_assoc, List.map_cons, List.map_nil]]
            refine ⟨j + 1, _, by simp only [List.length_map] at hlt2; omega, by simp only [List.length_map] at hlt2; omega, wk zSub zKeep⟩
          · have hge2 := of_decide_eq_false hc
            simp only [List.length_map] at hge2
            refine awp_exit ?_; refine seqQ_x ?_; refine seqQ_x ?_; refine blockQ_x rfl ?_; refine seqQ_n ?_; refine zS ?_; refine zMv ?_
            refine aops_call_v zRc (Nodes_con _) rfl rfl ?_
            first | refine aops_len rfl rfl rfl rfl (fun _ => ?_) | refine zP (ap_len_arr rfl zUpd rfl) ?_ | refine zP (ap_len_nil rfl rfl) ?_
            refine zMv ?_; refine zN ?_; refine awp_block ?_
            refine awp_loop2 [7, 8, 14, 60, 61, 62, 81, 82] [] (fun (j : Nat) (v3 : Value) r => (12, .v v3) :: (83, .i (j : Int)) :: r) (fun (j : Nat) (v3 : Value) r => .arr v3 59 34 ((headL c n (pairC c n).1 (pairC c n).2.1 ++ liesL (pairC c n).1 (pairC c n).2.1 ((nodesOf (n : Int)).take k) ++ lieA ((pairC c n).1 : Int) x ++ ((nodesOf ((pairC c n).2.1 : Int)).take j).map (fun m => lieS x m 1 sb)).map stv) :: r) (fun (j : Nat) (v3 : Value) => j ≤ (nodesOf ((pairC c n).2.1 : Int)).length) (fun (j : Nat) (v3 : Value) => (nodesOf ((pairC c n).2.1 : Int)).length - j) (0) (v2) zRc (by omega) (by rw [List.take_zero, List.map_nil, List.append_nil, show ((nodesOf ((pairC c n).1 : Int)).take j).map (fun m => lieS x m 1 sa) = lieA ((pairC c n).1 : Int) x from by rw [List.take_of_length_le (by omega)]; rfl]; exact wk zSub zKeep) ?_
            intro j v3 hj
            have hql3 : ((headL c n (pairC c n).1 (pairC c n).2.1 ++ liesL (pairC c n).1 (pairC c n).2.1 ((nodesOf (n : Int)).take k) ++ lieA ((pairC c n).1 : Int) x ++ ((nodesOf ((pairC c n).2.1 : Int)).take j).map (fun m => lieS x m 1 sb)).map stv).length ≤ 241 := by simp only [lieA, List.length_map, List.length_append, List.length_take] at hfl ⊢; omega
            refine zS ?_; refine zCm ?_; refine zN ?_; refine awp_seq ?_
            refine zC (fun hc => ?_) fun hc => ?_
            · have hlt3 := of_decide_eq_true hc
              obtain ⟨y, hy, _⟩ := drop_cons (l := nodesOf ((pairC c n).2.1 : Int)) (k := j) (by simp only [List.length_map] at hlt3; omega)
              have hy' := getMap D.i hy
              refine awp_skip ?_; refine seqQ_n ?_; refine awp_seq ?_; refine awp_block ?_; refine zS ?_
              first | refine zP (ap_index rfl rfl rfl rfl (by decide) rfl zAss) ?_ | refine zP (ap_index rfl rfl rfl rfl (by decide) (by omega) zAss) ?_ | refine zP (ap_index_own rfl rfl rfl rfl rfl (by first | omega | (simp only [List.length_map, List.length_set, avs_len]; omega))) ?_
              refine zL1 ?_; refine zAs ?_; refine zN ?_; refine awp_region ?_; refine zMv ?_; refine zMv ?_; refine zMv ?_
              refine aops_call_v zRc (lie_con x y 1 sb) rfl rfl ?_
              refine aops_lit (e := 59) (sz := 34) (by_ := 448) rfl rfl zRc rfl rfl rfl rfl ?_
              first | refine aops_append (e := 59) (sz := 34) (by_ := 448) rfl zUpd rfl rfl rfl rfl rfl (by simp only [List.length_cons, List.length_nil]; omega) (fun v92 hv92 => ?_) | refine aops_append_nil (e := 59) (sz := 34) (by_ := 448) rfl rfl rfl rfl rfl rfl (by simp only [List.length_cons, List.length_nil]; omega) (fun v92 hv92 => ?_)
              refine zAs ?_; refine aops_nil ?_; refine blockQ_n ?_; refine seqQ_n ?_; refine awp_region ?_; refine zAr ?_; refine zMv ?_; refine zN ?_
              rw [st_snoc, show headL c n (pairC c n).1 (pairC c n).2.1 ++ liesL (pairC c n).1 (pairC c n).2.1 ((nodesOf (n : Int)).take k) ++ lieA ((pairC c n).1 : Int) x ++ ((nodesOf ((pairC c n).2.1 : Int)).take j).map (fun m => lieS x m 1 sb) ++ [lieS x y 1 sb] = headL c n (pairC c n).1 (pairC c n).2.1 ++ liesL (pairC c n).1 (pairC c n).2.1 ((nodesOf (n : Int)).take k) ++ lieA ((pairC c n).1 : Int) x ++ ((nodesOf ((pairC c n).2.1 : Int)).take (j + 1)).map (fun m => lieS x m 1 sb) from by rw [take1 hy, List.map_append]; simp only [List.append_assoc, List.map_cons, List.map_nil]]
              refine ⟨j + 1, _, by simp only [List.length_map] at hlt3; omega, by simp only [List.length_map] at hlt3; omega, wk zSub zKeep⟩
            · have hge3 := of_decide_eq_false hc
              simp only [List.length_map] at hge3
              refine awp_exit ?_; refine seqQ_x ?_; refine seqQ_x ?_; refine blockQ_x rfl ?_; refine blockQ_n ?_; refine seqQ_n ?_; refine awp_region ?_; refine zAr ?_; refine zMv ?_; refine zN ?_
              rw [show headL c n (pairC c n).1 (pairC c n).2.1 ++ liesL (pairC c n).1 (pairC c n).2.1 ((nodesOf (n : Int)).take k) ++ lieA ((pairC c n).1 : Int) x ++ ((nodesOf ((pairC c n).2.1 : Int)).take j).map (fun m => lieS x m 1 sb) = headL c n (pairC c n).1 (pairC c n).2.1 ++ liesL (pairC c n).1 (pairC c n).2.1 ((nodesOf (n : Int)).take (k + 1)) from by rw [take1 hx, lies_snoc, show (nodesOf ((pairC c n).2.1 : Int)).take j = nodesOf ((pairC c n).2.1 : Int) from List.take_of_length_le (by omega)]; simp only [List.append_assoc]; rfl]
              refine ⟨k + 1, _, by simp only [List.length_map] at hlt; omega, by simp only [List.length_map] at hlt; omega, wk zSub zKeep⟩
        · have hge := of_decide_eq_false hc
          simp only [List.length_map] at hge
          rw [List.take_of_length_le (show (nodesOf (n : Int)).length ≤ k by omega)] at hql ⊢
          refine awp_exit ?_; refine seqQ_x ?_; refine seqQ_x ?_; refine blockQ_x rfl ?_; refine seqQ_n ?_; refine awp_seq ?_; refine zS ?_; refine zMv ?_
          first | refine aops_len rfl rfl rfl rfl (fun _ => ?_) | refine zP (ap_len_arr rfl zUpd rfl) ?_ | refine zP (ap_len_nil rfl rfl) ?_
          refine zCm ?_; refine zN ?_
          refine awp_cond_f rfl (by refine decide_eq_false ?_; omega) ?_
          refine awp_skip ?_; refine seqQ_n ?_; refine zS ?_; refine zMv ?_
          refine zP (ap_build zKr rfl zRc zFill) ?_
          refine aops_unnil [98,99] 1 rfl rfl (by repeat (first | exact SelC.nil | apply SelC.cons rfl (cvTick) | apply SelC.cons rfl Cv.same)) zHeapS ?_; refine aops_lit (e := 59) (sz := 34) (by_ := 448) rfl rfl zRc rfl rfl rfl rfl ?_
          first | refine aops_append (e := 59) (sz := 34) (by_ := 448) rfl zUpd rfl rfl rfl rfl rfl (by simp only [List.length_cons, List.length_nil]; omega) (fun v101 hv101 => ?_) | refine aops_append_nil (e := 59) (sz := 34) (by_ := 448) rfl rfl rfl rfl rfl rfl (by simp only [List.length_cons, List.length_nil]; omega) (fun v101 hv101 => ?_)
          refine zAs ?_; refine zAs ?_; refine zN ?_
          refine awp_freeze v101 [4,5] zRem zSelC zHeapA ?_
          refine awp_ret ?_
          refine post_is (.tmp rfl (.tmp rfl .nil)) zKeep ?_
          rw [split_ok h0 h2, ← st_snoc]; rfl
        )
theorem bit0_iff {s k : Nat} (hs : s < 1024) (hk : k < 10) : ((s / 2 ^ k &&& 1 : Nat) : Int) = 0 ↔ ¬ has s (k : Int) = true := by
  rw [← bit_iff hs hk, Nat.and_one_is_mod]
  omega
def G2 (l r i : Int) (k : Nat) : List Stp := if k = 0 then [] else if k = 1 then lieA l i else lieA l i ++ lieB r i
theorem g2_step {l r i : Int} {k x : Nat} {w : ByteArray} {ln rn : Nat} (hl : l = ln) (hr : r = rn) (h : (k = 0 ∧ x = ln ∧ w = sa) ∨ (k = 1 ∧ x = rn ∧ w = sb)) : G2 l r i k ++ (nodesTo x 10).map (fun m => lieS i m 1 w) = G2 l r i (k + 1) := by
  rw [nodesTo_ten]
  rcases h with ⟨rfl, rfl, rfl⟩ | ⟨rfl, rfl, rfl⟩
  · simp [G2, lieA, hl]
  · simp [G2, lieB, hr]
theorem g2_len (l r i : Int) (k : Nat) : (G2 l r i k).length ≤ 20 := by
  have h1 := nodes_le l
  have h2 := nodes_le r
  unfold G2
  split
  · simp
  · split <;> simp only [lieA, lieB, List.length_append, List.length_map] <;> omega
theorem pick2 {l r k : Nat} (hl : l < 1024) (hr : r < 1024) (hk : k < 2) : ∃ (x : Nat) (w : ByteArray), SubL [D.i l, D.i r] (k * 1) 1 [D.i x] ∧ ((k = 0 ∧ x = l ∧ w = sa) ∨ (k = 1 ∧ x = r ∧ w = sb)) ∧ x < 1024 := by
  match k, hk with
  | 0, _ => exact ⟨l, sa, by repeat constructor, .inl ⟨rfl, rfl, rfl⟩, hl⟩
  | 1, _ => exact ⟨r, sb, by repeat constructor, .inr ⟨rfl, rfl, rfl⟩, hr⟩
theorem two_ne {c : List Mem} (hc : c.length ≤ 4) {n : Nat} (h : (pairC c n).2.2 = true) : ¬ (pairC c n).1 = (pairC c n).2.1 := fun e => by
  have t := pair_two hc h
  have h1 := t.dis
  rw [← e, Nat.and_self] at h1
  have := t.a1
  omega
theorem bit1_of {s k : Nat} (hs : s < 1024) (hk : k < 10) (h : ¬ ((s / 2 ^ k &&& 1 : Nat) : Int) = 0) : has s (k : Int) = true := by
  by_cases e : has (s : Int) (k : Int) = true
  · exact e
  · exact absurd ((bit0_iff hs hk).2 e) h
set_option maxHeartbeats 2000000 in
theorem rSplit_con (c : List Mem) (hL : Lt c) (s : Int) : Con none Tryz.prog 40 [cv c, .i s] [] (Is (.tup [.sl 34 ((splitE c s).1.map stv), .i (splitE c s).2]) []) := by
  have hcap : capB = 140737488355328 := rfl
  refine con_intro Tryz.func40 rfl Tryz.call40 rfl ?_
  refine zS ?_
  refine aops_box rfl zFlat rfl rfl (fun b2 => ?_)
  refine zAs ?_; refine zAs ?_; refine zN ?_; refine awp_seq ?_; refine zS ?_; refine zLd ?_; refine zMv ?_
  refine aops_call_v zRc (begin_con c hL s) rfl rfl ?_
  refine zAs ?_; refine zN (zS ?_); refine zMv ?_; refine zCm ?_; refine zN ?_
  refine zC (fun hc => ?_) fun hc => ?_
  · have h0 := of_neq_true hc
    refine zS ?_; refine zMv ?_; refine zAs ?_; refine zAs ?_; refine zN ?_
    refine awp_unnil [4,5] 34 rfl zSelC zHeapA ?_
    refine awp_ret ?_; refine seqQ_r ?_
    rw [split_no h0]
    exact post_is (.tmp rfl (.tmp rfl .nil)) zKeep rfl
  · have h0 := of_neq_false hc
    obtain ⟨hok, n, rfl, hs⟩ := check_ok hL h0
    have hp := pow4 hL.len
    obtain ⟨hl10, hr10⟩ := pair_lt hL.len n
    have hn1024 : n < 1024 := by omega
    have hlr : (pairC c n).1 ||| (pairC c n).2.1 < 1024 := Nat.or_lt_two_pow (n := 10) hl10 hr10
    have hlrn : (pairC c n).1 ||| (pairC c n).2.1 ||| n < 1024 := Nat.or_lt_two_pow (n := 10) hlr hn1024
    have hhl := head_len c n (pairC c n).1 (pairC c n).2.1
    have hnn := nodes_le (n : Int)
    have hnl := nodes_le ((pairC c n).1 : Int)
    have hnr := nodes_le ((pairC c n).2.1 : Int)
    refine awp_skip ?_; refine seqQ_n ?_; refine zS ?_; refine zLd ?_; refine zMv ?_
    refine aops_call_v zRc (rPair_is c hL n h0) rfl rfl ?_
    refine zMv ?_
    refine zP (ap_extract rfl rfl) ?_
    refine zP (ap_extract rfl rfl) ?_
    refine zP (ap_extract rfl rfl) ?_
    refine zAs ?_; refine zAs ?_; refine zAs ?_; refine zN ?_; refine awp_seq ?_; refine zS ?_; refine zMv ?_; refine zNo ?_; refine zN ?_
    refine zC (fun hc => ?_) fun hc => ?_
    · have h2 : (pairC c n).2.2 = false := not_t hc
      refine zS ?_; refine zAs ?_; refine zAs ?_; refine zN ?_
      refine awp_unnil [4,5] 34 rfl zSelC zHeapA ?_
      refine awp_ret ?_; refine seqQ_r ?_
      rw [split_none h0 h2]
      exact post_is (.tmp rfl (.tmp rfl .nil)) zKeep rfl
    · have h2 : (pairC c n).2.2 = true := not_f hc
      have hne := two_ne hL.len h2
      refine awp_skip ?_; refine seqQ_n ?_; refine zS ?_; refine zMv ?_; refine zMv ?_
      refine aops_own (e := 3) (sz := 1) (by_ := 8) rfl rfl zRc rfl rfl rfl rfl (fun v34 hv34 => ?_)
      refine zAs ?_; refine zN ?_; refine awp_seq ?_; refine zS ?_; refine zLd ?_
      refine aops_call_v zRc (rall_con c hL.len) rfl rfl ?_
      refine zMv ?_; refine zMv ?_
      refine zP (ap_bits rfl rfl rfl (by omega) (by omega)) ?_
      refine zMv ?_
      refine zP (ap_bits rfl rfl rfl (by omega) (by omega)) ?_
      refine zP (ap_bits rfl rfl rfl (by omega) (by omega)) ?_
      refine zAs ?_; refine zN (zS ?_); refine zMv ?_; refine zCm ?_; refine zN ?_
      refine zC (fun hc => ?_) fun hc => ?_
      rotate_left
      case' _ =>
        have hrest : (!decide ((restC c n (pairC c n).1 (pairC c n).2.1 : Int) = 0)) = false := hc
        refine awp_skip ?_
      rotate_right
      case' _ =>
        have hrest : (!decide ((restC c n (pairC c n).1 (pairC c n).2.1 : Int) = 0)) = true := hc
        refine awp_region ?_; refine zMv ?_; refine zMv ?_
        refine aops_lit (e := 3) (sz := 1) (by_ := 8) rfl rfl zRc rfl rfl rfl rfl ?_
        first | refine aops_append (e := 3) (sz := 1) (by_ := 8) rfl zUpd rfl rfl rfl rfl rfl (by simp only [List.length_cons, List.length_nil]; omega) (fun v48 hv48 => ?_) | refine aops_append_nil (e := 3) (sz := 1) (by_ := 8) rfl rfl rfl rfl rfl rfl (by simp only [List.length_cons, List.length_nil]; omega) (fun v48 hv48 => ?_)
        refine zAs ?_; refine aops_nil ?_
      all_goals (
        refine seqQ_n ?_; refine awp_seq ?_
        first | (have h46 : decide (1 = 1) = true := rfl; refine awp_freeze v48 [1,7,8,10] zRem zSelC zHeapA ?_; rw [show [D.i ((pairC c n).1 : Int), D.i ((pairC c n).2.1 : Int)] ++ [D.i (((2 ^ c.length - 1) &&& (2 ^ 63 - 1 - ((pairC c n).1 ||| (pairC c n).2.1 ||| n)) : Nat) : Int)] = (partsL c n (pairC c n).1 (pairC c n).2.1).map D.i from by rw [parts_1 (nez_t (by with_reducible assumption))]; rfl]) | (refine awp_freeze v34 [1,7,8,10] zRem zSelC zHeapA ?_; rw [show [D.i ((pairC c n).1 : Int), D.i ((pairC c n).2.1 : Int)] = (partsL c n (pairC c n).1 (pairC c n).2.1).map D.i from by rw [parts_0 (nez_f (by with_reducible assumption))]; rfl])
        refine awp_region ?_; refine zMv ?_
        refine zP (ap_build zKr rfl zRc zFill) ?_
        (refine aops_unnil [1,7,8,50] 1 rfl rfl (by repeat (first | exact SelC.nil | apply SelC.cons rfl (cvPart (partsL c n (pairC c n).1 (pairC c n).2.1)) | apply SelC.cons rfl Cv.same)) zHeapS ?_; refine aops_own (e := 59) (sz := 34) (by_ := 448) rfl rfl zRc rfl rfl rfl rfl (fun v51 hv51 => ?_))
        refine zAs ?_; refine zN (zS ?_); refine zMv ?_; refine zMv ?_
        (refine aops_call zRc (rprefer_con (pairC c n).1 hl10 sa) zSplit rfl rfl ?_; rintro _ _ ⟨v54, rfl, rfl⟩)
        refine aops_freeze v54 [1,7,8,52,54] rfl zRem zSelC zHeapA ?_; refine aops_append (e := 59) (sz := 34) (by_ := 448) rfl zUpd rfl rfl rfl rfl rfl (by simp only [prefL, List.length_map, List.length_cons, List.length_nil]; omega) (fun v55 hv55 => ?_)
        refine zMv ?_
        (refine aops_call zRc (rprefer_con (pairC c n).2.1 hr10 sb) zSplit rfl rfl ?_; rintro _ _ ⟨v57, rfl, rfl⟩)
        refine aops_freeze v57 [1,7,8,55,57] rfl zRem zSelC zHeapA ?_; refine aops_append (e := 59) (sz := 34) (by_ := 448) rfl zUpd rfl rfl rfl rfl rfl (by simp only [prefL, List.length_map, List.length_append, List.length_cons, List.length_nil]; omega) (fun v58 hv58 => ?_)
        refine zAs ?_; refine zN ?_; refine awp_seq ?_; refine awp_seq ?_
        rw [show [stv (partS (partsL c n (pairC c n).1 (pairC c n).2.1))] ++ (prefL ((pairC c n).1 : Int) sa).map stv ++ (prefL ((pairC c n).2.1 : Int) sb).map stv = (headL c n (pairC c n).1 (pairC c n).2.1).map stv from by simp [headL]]
        refine awp_region ?_; refine zAs ?_; refine zN ?_; refine awp_block ?_
        refine awp_loop2 [1, 7, 8] [] (fun (i : Nat) (v : Value) r => (12, .v v) :: (13, .i (i : Int)) :: r) (fun (i : Nat) (v : Value) r => .arr v 59 34 ((headL c n (pairC c n).1 (pairC c n).2.1 ++ liesL (pairC c n).1 (pairC c n).2.1 (nodesTo n i)).map stv) :: r) (fun (i : Nat) (v : Value) => i ≤ 10) (fun (i : Nat) (v : Value) => 10 - i) (0) (v58) zRc (by omega) (by rw [show liesL (pairC c n).1 (pairC c n).2.1 (nodesTo n 0) = [] from rfl, List.append_nil]; exact wk zSub zKeep) ?_
        intro i v hi
        have hfl := lies_len ((pairC c n).1 : Int) ((pairC c n).2.1 : Int) (nodesTo n i)
        have hnl2 := nodesTo_len (n : Int) i
        have hql : ((headL c n (pairC c n).1 (pairC c n).2.1 ++ liesL (pairC c n).1 (pairC c n).2.1 (nodesTo n i)).map stv).length ≤ 221 := by simp only [List.length_map, List.length_append] at hfl ⊢; omega
        refine awp_seq ?_; refine zS ?_; refine zMv ?_; refine zCm ?_; refine zN ?_
        refine zC (fun hc => ?_) fun hc => ?_
        · have hlt := of_decide_eq_true hc
          refine awp_skip ?_; refine seqQ_n ?_; refine awp_seq ?_; refine awp_block ?_; refine awp_seq ?_; refine awp_seq ?_
          have hd16 : n / 2 ^ i < 9223372036854775808 := Nat.lt_of_le_of_lt (Nat.div_le_self _ _) (by omega)
          refine awp_region ?_; refine zMv ?_; refine zMv ?_
          refine zP (ap_convu rfl rfl rfl (by omega)) ?_
          refine zP (ap_shr rfl rfl (by omega)) ?_
          refine zP (ap_bits (q := 1) rfl rfl rfl (by omega) (by omega)) ?_
          refine zCm ?_; refine zN ?_
          refine zC (fun hc => ?_) fun hc => ?_
          · have hbit := (bit0_iff hn1024 (by omega)).1 (of_decide_eq_true hc)
            refine awp_exit ?_; refine seqQ_x ?_; refine blockQ_x rfl ?_; refine seqQ_n ?_; refine awp_region ?_; refine zMv ?_; refine zAr ?_; refine zAs ?_; refine zN ?_
            first
            | (have h0 := hbit; refine ⟨i + 1, v, by omega, by omega, ?_⟩; rw [nodesTo_f hbit]; exact wk zSub zKeep)
            | (rw [show headL c n (pairC c n).1 (pairC c n).2.1 ++ liesL (pairC c n).1 (pairC c n).2.1 (nodesTo n i) ++ G2 (pairC c n).1 (pairC c n).2.1 i 2 = headL c n (pairC c n).1 (pairC c n).2.1 ++ liesL (pairC c n).1 (pairC c n).2.1 (nodesTo n (i + 1)) from by rw [nodesTo_t hbit, lies_snoc]; simp only [List.append_assoc]; rfl]; refine ⟨i + 1, _, by omega, by omega, wk zSub zKeep⟩)
          · have hbit := bit1_of hn1024 (by omega) (of_decide_eq_false hc)
            refine awp_skip ?_; refine seqQ_n ?_; refine zS ?_; refine zMv ?_; refine zMv ?_
            refine zP (ap_buildA rfl rfl rfl zRc zFill) ?_
            refine zMv ?_; refine zN ?_; refine awp_block ?_
            refine awp_loop2 [1, 7, 8, 13, 71] [] (fun (k : Nat) (v2 : Value) r => (12, .v v2) :: (72, .i (k : Int)) :: r) (fun (k : Nat) (v2 : Value) r => .arr v2 59 34 ((headL c n (pairC c n).1 (pairC c n).2.1 ++ liesL (pairC c n).1 (pairC c n).2.1 (nodesTo n i) ++ G2 (pairC c n).1 (pairC c n).2.1 i k).map stv) :: r) (fun (k : Nat) (v2 : Value) => k ≤ 2) (fun (k : Nat) (v2 : Value) => 2 - k) (0) (v) zRc (by omega) (by rw [show G2 (pairC c n).1 (pairC c n).2.1 i 0 = [] from rfl, List.append_nil]; exact wk zSub zKeep) ?_
            intro k v2 hk
            have hgl := g2_len ((pairC c n).1 : Int) ((pairC c n).2.1 : Int) i k
            refine zS ?_; refine zCm ?_; refine zN ?_; refine awp_seq ?_
            refine zC (fun hc => ?_) fun hc => ?_
            · have hltk := of_decide_eq_true hc
              obtain ⟨x, w, hxk, hxw, hx10⟩ := pick2 (k := k) hl10 hr10 (by omega)
              refine awp_skip ?_; refine seqQ_n ?_; refine awp_seq ?_; refine awp_block ?_; refine zS ?_
              refine zP (ap_indexA1 (k := k) rfl rfl rfl rfl rfl rfl (by omega) hxk) ?_
              refine zAs ?_; refine zN (zS ?_); refine zAs ?_; refine zN ?_; refine awp_block ?_
              refine awp_loop2 [1, 7, 8, 13, 15, 71, 72] [] (fun (j : Nat) (v3 : Value) r => (12, .v v3) :: (16, .i (j : Int)) :: r) (fun (j : Nat) (v3 : Value) r => .arr v3 59 34 ((headL c n (pairC c n).1 (pairC c n).2.1 ++ liesL (pairC c n).1 (pairC c n).2.1 (nodesTo n i) ++ G2 (pairC c n).1 (pairC c n).2.1 i k ++ (nodesTo x j).map (fun m => lieS i m 1 w)).map stv) :: r) (fun (j : Nat) (v3 : Value) => j ≤ 10) (fun (j : Nat) (v3 : Value) => 10 - j) (0) (v2) zRc (by omega) (by rw [show nodesTo x 0 = [] from rfl, List.map_nil, List.append_nil]; exact wk zSub zKeep) ?_
              intro j v3 hj
              have hnx := nodesTo_len (x : Int) j
              have hql3 : ((headL c n (pairC c n).1 (pairC c n).2.1 ++ liesL (pairC c n).1 (pairC c n).2.1 (nodesTo n i) ++ G2 (pairC c n).1 (pairC c n).2.1 i k ++ (nodesTo x j).map (fun m => lieS i m 1 w)).map stv).length ≤ 251 := by simp only [List.length_map, List.length_append] at hfl ⊢; omega
              refine awp_seq ?_; refine zS ?_; refine zMv ?_; refine zCm ?_; refine zN ?_
              refine zC (fun hc => ?_) fun hc => ?_
              · have hltj := of_decide_eq_true hc
                refine awp_skip ?_; refine seqQ_n ?_; refine awp_seq ?_; refine awp_block ?_; refine awp_seq ?_; refine awp_seq ?_
                have hd23 : x / 2 ^ j < 9223372036854775808 := Nat.lt_of_le_of_lt (Nat.div_le_self _ _) (by omega)
                refine awp_region ?_; refine zMv ?_; refine zMv ?_
                refine zP (ap_convu rfl rfl rfl (by omega)) ?_
                refine zP (ap_shr rfl rfl (by omega)) ?_
                refine zP (ap_bits (q := 1) rfl rfl rfl (by omega) (by omega)) ?_
                refine zCm ?_; refine zN ?_
                refine zC (fun hc => ?_) fun hc => ?_
                · have hbj := (bit0_iff hx10 (by omega)).1 (of_decide_eq_true hc)
                  refine awp_exit ?_; refine seqQ_x ?_; refine blockQ_x rfl ?_; refine seqQ_n ?_; refine awp_region ?_; refine zMv ?_; refine zAr ?_; refine zAs ?_; refine zN ?_
                  first
                  | (have h0 : ¬ has (x : Int) (j : Int) = true := hbj; refine ⟨j + 1, v3, by omega, by omega, ?_⟩; rw [nodesTo_f h0]; exact wk zSub zKeep)
                  | (have h0 : has (x : Int) (j : Int) = true := hbj; rw [← hw, st_snoc, show headL c n (pairC c n).1 (pairC c n).2.1 ++ liesL (pairC c n).1 (pairC c n).2.1 (nodesTo n i) ++ G2 (pairC c n).1 (pairC c n).2.1 i k ++ (nodesTo x j).map (fun m => lieS i m 1 w) ++ [lieS i j 1 w] = headL c n (pairC c n).1 (pairC c n).2.1 ++ liesL (pairC c n).1 (pairC c n).2.1 (nodesTo n i) ++ G2 (pairC c n).1 (pairC c n).2.1 i k ++ (nodesTo x (j + 1)).map (fun m => lieS i m 1 w) from by rw [nodesTo_t h0, List.map_append]; simp only [List.append_assoc, List.map_cons, List.map_nil]]; refine ⟨j + 1, _, by omega, by omega, wk zSub zKeep⟩)
                · have hbj := bit1_of hx10 (by omega) (of_decide_eq_false hc)
                  refine awp_skip ?_; refine seqQ_n ?_; refine zS ?_; refine zMv ?_; refine zMv ?_; refine zCm ?_; refine zN ?_
                  refine zC (fun hc => ?_) fun hc => ?_
                  · have hw : w = sa := by have := of_decide_eq_true hc; rcases hxw with h | h; exact h.2.2; omega
                    refine awp_region ?_; refine zMv ?_; refine zMv ?_; refine zMv ?_
                    refine aops_call_v zRc (rlie_con i j 1 sa) rfl rfl ?_
                    refine aops_lit (e := 59) (sz := 34) (by_ := 448) rfl rfl zRc rfl rfl rfl rfl ?_
                    first | refine aops_append (e := 59) (sz := 34) (by_ := 448) rfl zUpd rfl rfl rfl rfl rfl (by simp only [List.length_cons, List.length_nil]; omega) (fun v93 hv93 => ?_) | refine aops_append_nil (e := 59) (sz := 34) (by_ := 448) rfl rfl rfl rfl rfl rfl (by simp only [List.length_cons, List.length_nil]; omega) (fun v93 hv93 => ?_)
                    refine zAs ?_; refine aops_nil ?_; refine blockQ_n ?_; refine seqQ_n ?_; refine awp_region ?_; refine zMv ?_; refine zAr ?_; refine zAs ?_; refine zN ?_
                    first
                    | (have h0 : ¬ has (x : Int) (j : Int) = true := hbj; refine ⟨j + 1, v3, by omega, by omega, ?_⟩; rw [nodesTo_f h0]; exact wk zSub zKeep)
                    | (have h0 : has (x : Int) (j : Int) = true := hbj; rw [← hw, st_snoc, show headL c n (pairC c n).1 (pairC c n).2.1 ++ liesL (pairC c n).1 (pairC c n).2.1 (nodesTo n i) ++ G2 (pairC c n).1 (pairC c n).2.1 i k ++ (nodesTo x j).map (fun m => lieS i m 1 w) ++ [lieS i j 1 w] = headL c n (pairC c n).1 (pairC c n).2.1 ++ liesL (pairC c n).1 (pairC c n).2.1 (nodesTo n i) ++ G2 (pairC c n).1 (pairC c n).2.1 i k ++ (nodesTo x (j + 1)).map (fun m => lieS i m 1 w) from by rw [nodesTo_t h0, List.map_append]; simp only [List.append_assoc, List.map_cons, List.map_nil]]; refine ⟨j + 1, _, by omega, by omega, wk zSub zKeep⟩)
                  · have hw : w = sb := by have := of_decide_eq_false hc; rcases hxw with h | h; omega; exact h.2.2
                    refine awp_region ?_; refine zMv ?_; refine zMv ?_; refine zMv ?_
                    refine aops_call_v zRc (rlie_con i j 1 sb) rfl rfl ?_
                    refine aops_lit (e := 59) (sz := 34) (by_ := 448) rfl rfl zRc rfl rfl rfl rfl ?_
                    first | refine aops_append (e := 59) (sz := 34) (by_ := 448) rfl zUpd rfl rfl rfl rfl rfl (by simp only [List.length_cons, List.length_nil]; omega) (fun v99 hv99 => ?_) | refine aops_append_nil (e := 59) (sz := 34) (by_ := 448) rfl rfl rfl rfl rfl rfl (by simp only [List.length_cons, List.length_nil]; omega) (fun v99 hv99 => ?_)
                    refine zAs ?_; refine aops_nil ?_; refine blockQ_n ?_; refine seqQ_n ?_; refine awp_region ?_; refine zMv ?_; refine zAr ?_; refine zAs ?_; refine zN ?_
                    first
                    | (have h0 : ¬ has (x : Int) (j : Int) = true := hbj; refine ⟨j + 1, v3, by omega, by omega, ?_⟩; rw [nodesTo_f h0]; exact wk zSub zKeep)
                    | (have h0 : has (x : Int) (j : Int) = true := hbj; rw [← hw, st_snoc, show headL c n (pairC c n).1 (pairC c n).2.1 ++ liesL (pairC c n).1 (pairC c n).2.1 (nodesTo n i) ++ G2 (pairC c n).1 (pairC c n).2.1 i k ++ (nodesTo x j).map (fun m => lieS i m 1 w) ++ [lieS i j 1 w] = headL c n (pairC c n).1 (pairC c n).2.1 ++ liesL (pairC c n).1 (pairC c n).2.1 (nodesTo n i) ++ G2 (pairC c n).1 (pairC c n).2.1 i k ++ (nodesTo x (j + 1)).map (fun m => lieS i m 1 w) from by rw [nodesTo_t h0, List.map_append]; simp only [List.append_assoc, List.map_cons, List.map_nil]]; refine ⟨j + 1, _, by omega, by omega, wk zSub zKeep⟩)
              · have hgej := of_decide_eq_false hc
                obtain rfl : j = 10 := by omega
                refine awp_exit ?_; refine seqQ_x ?_; refine seqQ_x ?_; refine blockQ_x rfl ?_; refine blockQ_n ?_; refine seqQ_n ?_; refine awp_region ?_; refine zAr ?_; refine zMv ?_; refine zN ?_
                rw [show headL c n (pairC c n).1 (pairC c n).2.1 ++ liesL (pairC c n).1 (pairC c n).2.1 (nodesTo n i) ++ G2 (pairC c n).1 (pairC c n).2.1 i k ++ (nodesTo x 10).map (fun m => lieS i m 1 w) = headL c n (pairC c n).1 (pairC c n).2.1 ++ liesL (pairC c n).1 (pairC c n).2.1 (nodesTo n i) ++ G2 (pairC c n).1 (pairC c n).2.1 i (k + 1) from by rw [← g2_step rfl rfl hxw]; simp only [List.append_assoc]]
                refine ⟨k + 1, _, by omega, by omega, wk zSub zKeep⟩
            · have hgek := of_decide_eq_false hc
              obtain rfl : k = 2 := by omega
              refine awp_exit ?_; refine seqQ_x ?_; refine seqQ_x ?_; refine blockQ_x rfl ?_; refine blockQ_n ?_; refine seqQ_n ?_; refine awp_region ?_; refine zMv ?_; refine zAr ?_; refine zAs ?_; refine zN ?_
              first
              | (have h0 := hbit; refine ⟨i + 1, v, by omega, by omega, ?_⟩; rw [nodesTo_f hbit]; exact wk zSub zKeep)
              | (rw [show headL c n (pairC c n).1 (pairC c n).2.1 ++ liesL (pairC c n).1 (pairC c n).2.1 (nodesTo n i) ++ G2 (pairC c n).1 (pairC c n).2.1 i 2 = headL c n (pairC c n).1 (pairC c n).2.1 ++ liesL (pairC c n).1 (pairC c n).2.1 (nodesTo n (i + 1)) from by rw [nodesTo_t hbit, lies_snoc]; simp only [List.append_assoc]; rfl]; refine ⟨i + 1, _, by omega, by omega, wk zSub zKeep⟩)
        · have hge := of_decide_eq_false hc
          obtain rfl : i = 10 := by omega
          rw [nodesTo_ten] at hql ⊢
          refine awp_exit ?_; refine seqQ_x ?_; refine seqQ_x ?_; refine blockQ_x rfl ?_; refine seqQ_n ?_; refine zS ?_; refine zMv ?_
          refine zP (ap_build zKr rfl zRc zFill) ?_
          refine aops_unnil [101,102] 1 rfl rfl (by repeat (first | exact SelC.nil | apply SelC.cons rfl (cvTick) | apply SelC.cons rfl Cv.same)) zHeapS ?_; refine aops_lit (e := 59) (sz := 34) (by_ := 448) rfl rfl zRc rfl rfl rfl rfl ?_
          first | refine aops_append (e := 59) (sz := 34) (by_ := 448) rfl zUpd rfl rfl rfl rfl rfl (by simp only [List.length_cons, List.length_nil]; omega) (fun v104 hv104 => ?_) | refine aops_append_nil (e := 59) (sz := 34) (by_ := 448) rfl rfl rfl rfl rfl rfl (by simp only [List.length_cons, List.length_nil]; omega) (fun v104 hv104 => ?_)
          refine zAs ?_; refine zN ?_; refine awp_seq ?_; refine zS ?_; refine zMv ?_
          first | refine aops_len rfl rfl rfl rfl (fun _ => ?_) | refine zP (ap_len_arr rfl zUpd rfl) ?_ | refine zP (ap_len_nil rfl rfl) ?_
          refine zCm ?_; refine zN ?_
          refine awp_cond_f rfl (by refine decide_eq_false ?_; rw [List.length_append]; simp only [List.length_cons, List.length_nil]; omega) ?_
          refine awp_skip ?_; refine seqQ_n ?_; refine zS ?_; refine zMv ?_; refine zAs ?_; refine zAs ?_; refine zN ?_
          refine awp_freeze v104 [4,5] zRem zSelC zHeapA ?_
          refine awp_ret ?_
          refine post_is (.tmp rfl (.tmp rfl .nil)) zKeep ?_
          rw [split_ok h0 h2, ← st_snoc]; rfl
        )
def thinB (t : Trust) : Bool := decide ((t.nodes.length : Int) ≤ 12) && decide ((t.inner.length : Int) = 0)
theorem thin_size {t : Trust} (h : thinB t = true) : sizeT t ≤ 1000 := by
  unfold thinB at h
  rw [Bool.and_eq_true, decide_eq_true_iff, decide_eq_true_iff] at h
  have hi : t.inner = [] := List.eq_nil_of_length_eq_zero (by omega)
  have hs0 : sizeT t = t.nodes.length + t.inner.length + sizeL t.inner := rfl
  rw [hs0, hi]
  simp only [sizeL, List.length_nil]
  omega
theorem ap_ne_same {n : Nat} {env : Env} {H : Heap} {dst : Option Tmp} {ty : TypeId} {pos : String} {after : Array Edge} {gd : Option (Nat × Bool)} {x y : Operand} {P : Program} {k p t u} (hx : opd env x = some (.v (.int k p))) (hy : opd env y = some (.v (.int k p))) : AP P n ⟨dst, .binOp .neq t x y u, ty, pos, after, gd⟩ env H (.b false) := by
  have h := ap_cmp (P := P) (n := n) (H := H) (dst := dst) (ty := ty) (pos := pos) (after := after) (gd := gd) (op := .neq) (t := t) (u := u) hx hy rfl
  simpa using h
theorem some_step {o m k : Nat} (ho : o < 2 ^ k) (hm : m < 2) (hk : k ≤ 4) : m * 2 ^ k < 9223372036854775808 ∧ o ||| m * 2 ^ k < 2 ^ (k + 1) := by
  have h1 := Nat.pow_le_pow_right (show 0 < 2 by omega) hk
  have h2 : 2 ^ (k + 1) = 2 * 2 ^ k := by rw [Nat.pow_succ, Nat.mul_comm]
  have h3 : m * 2 ^ k ≤ 1 * 2 ^ k := Nat.mul_le_mul_right _ (by omega)
  exact ⟨by omega, Nat.or_lt_two_pow (by omega) (by omega)⟩
theorem thin_con (t : Trust) : Con none Tryz.prog 81 [av t] [] (Is (.b (thinB t)) []) := by
  have hcap : capB = 140737488355328 := rfl
  have hl1 : (t.nodes.map D.i).length = t.nodes.length := by simp
  have hl2 := avs_len t.inner
  refine con_intro Tryz.func81 rfl Tryz.call81 rfl ?_
  refine zS ?_
  refine aops_box rfl zFlat rfl rfl (fun b1 => ?_)
  refine zAs ?_; refine zN (zS ?_); refine zF 1 1 false ?_; refine zL1 ?_
  first | refine aops_len rfl rfl rfl rfl (fun _ => ?_) | refine zP (ap_len_arr rfl zUpd rfl) ?_ | refine zP (ap_len_nil rfl rfl) ?_
  (rw [hl1]; refine zCm ?_)
  refine zMv ?_
  all_goals first | (refine zY ?_; refine zF 2 1 false ?_) | refine zU ?_ | refine zNt ?_ | (refine zGt (fun hg => ?_) fun hg => ?_; case' _ => refine zF 2 1 false ?_)
  all_goals first | (refine zY ?_; refine zL1 ?_) | refine zU ?_ | refine zNt ?_ | (refine zGt (fun hg => ?_) fun hg => ?_; case' _ => refine zL1 ?_)
  all_goals first | (refine zY ?_; (first | refine aops_len rfl rfl rfl rfl (fun _ => ?_) | refine zP (ap_len_arr rfl zUpd rfl) ?_ | refine zP (ap_len_nil rfl rfl) ?_)) | refine zU ?_ | refine zNt ?_ | (refine zGt (fun hg => ?_) fun hg => ?_; case' _ => (first | refine aops_len rfl rfl rfl rfl (fun _ => ?_) | refine zP (ap_len_arr rfl zUpd rfl) ?_ | refine zP (ap_len_nil rfl rfl) ?_))
  all_goals first | (refine zY ?_; (rw [hl2]; refine zCm ?_)) | refine zU ?_ | refine zNt ?_ | (refine zGt (fun hg => ?_) fun hg => ?_; case' _ => (rw [hl2]; refine zCm ?_))
  all_goals refine zPk ?_
  all_goals refine zAs ?_
  all_goals (
    refine zN ?_; refine awp_ret ?_
    refine post_is (.tmp rfl .nil) zKeep ?_
    unfold thinB
    first
    | (simp_all [resD]; done)
    | (simp_all [resD]; intros; omega)
    )
theorem light_con (c : List Mem) : Con none Tryz.prog 27 [cv c] [] (fun d H => ∃ b : Bool, d = .b b ∧ (b = true → Lt c) ∧ H = []) := by
  have hcap : capB = 140737488355328 := rfl
  have hml : (c.map mv).length = c.length := by simp
  refine con_intro Tryz.func27 rfl Tryz.call27 rfl ?_
  refine zS ?_
  refine aops_box rfl zFlat rfl rfl (fun b1 => ?_)
  refine zAs ?_; refine zN ?_; refine awp_seq ?_; refine zS ?_; refine zF 0 1 false ?_; refine zL1 ?_
  first | refine aops_len rfl rfl rfl rfl (fun _ => ?_) | refine zP (ap_len_arr rfl zUpd rfl) ?_ | refine zP (ap_len_nil rfl rfl) ?_
  refine zMv ?_; refine zN ?_; refine awp_block ?_
  refine awp_loop1 [1, 6, 7] [.box b1 _ _] (fun (k : Nat) r => (8, .i (k : Int)) :: r) (fun (k : Nat) r => r) (fun (k : Nat) => k ≤ c.length ∧ ∀ m ∈ c.take k, sizeT m.t ≤ 1000) (fun (k : Nat) => c.length - k) (0) zRc ⟨by omega, by simp⟩ (wk zSub zKeep) ?_
  intro k ⟨hk, hI⟩
  refine zS ?_; refine zCm ?_; refine zN ?_; refine awp_seq ?_
  refine zC (fun hc => ?_) fun hc => ?_
  · have hlt := of_decide_eq_true hc
    obtain ⟨x, hx, hd⟩ := drop_cons (l := c) (k := k) (by omega)
    have hx' := getMap mv hx
    refine awp_skip ?_; refine seqQ_n ?_; refine awp_seq ?_; refine awp_block ?_; refine zS ?_
    first | refine zP (ap_index rfl rfl rfl rfl (by decide) rfl zAss) ?_ | refine zP (ap_index rfl rfl rfl rfl (by decide) (by omega) zAss) ?_ | refine zP (ap_index_own rfl rfl rfl rfl rfl (by first | omega | (simp only [List.length_map, List.length_set, avs_len]; omega))) ?_
    refine zLd ?_
    refine aops_alloc rfl zRc rfl rfl (fun b4 => ?_)
    refine zSt ?_; refine zN (zS ?_); refine zF 1 3 true ?_; refine zLd ?_
    refine aops_call_b zRc (thin_con x.t) rfl rfl (fun c14 hc14 => ?_)
    refine zNo ?_; refine zN ?_
    refine zC (fun hc => ?_) fun hc => ?_
    · refine awp_seq ?_
      refine awp_region ?_; refine zAs ?_; refine zN ?_; refine awp_ret ?_; refine blockQ_r ?_; refine seqQ_r ?_; refine seqQ_r ?_; refine blockQ_r ?_; refine seqQ_r ?_
      exact post_ret (.tmp rfl .nil) zKeep ⟨_, rfl, fun h => (by cases h), rfl⟩
    · refine awp_skip ?_
      refine blockQ_n ?_; refine seqQ_n ?_; refine awp_region ?_; refine zAr ?_; refine zMv ?_; refine zN ?_
      refine ⟨k + 1, ⟨by omega, fun m hm => ?_⟩, by omega, wk zSub zKeep⟩
      rw [take1 hx, List.mem_append, List.mem_singleton] at hm
      rcases hm with hm | rfl
      · exact hI m hm
      · exact thin_size (hc14.trans (not_f hc))
  · have hge := of_decide_eq_false hc
    rw [List.take_of_length_le (show c.length ≤ k by omega)] at hI
    refine awp_exit ?_; refine seqQ_x ?_; refine seqQ_x ?_; refine blockQ_x rfl ?_; refine seqQ_n ?_; refine zS ?_; refine zF 0 1 false ?_; refine zL1 ?_
    first | refine aops_len rfl rfl rfl rfl (fun _ => ?_) | refine zP (ap_len_arr rfl zUpd rfl) ?_ | refine zP (ap_len_nil rfl rfl) ?_
    (rw [hml]; refine zCm ?_)
    refine zAs ?_; refine zN ?_; refine awp_ret ?_
    exact post_ret (.tmp rfl .nil) zKeep ⟨_, rfl, fun h => ⟨by have := of_decide_eq_true h; omega, hI⟩, rfl⟩
theorem SSome_con (b n : Nat) (l : List Int) (hn : n ≤ 4) (a : Nat) : Con none Tryz.prog 36 [.p b 0, .i n] [.box b 97 [.sl 1 (l.map .i), .i ((a : Nat) : Int)]] (fun d H => ∃ (r : Nat) (a' : Nat), d = .i r ∧ r < 16 ∧ H = [.box b 97 [.sl 1 (l.map .i), .i ((a' : Nat) : Int)]]) := by
  have hcap : capB = 140737488355328 := rfl
  refine con_intro Tryz.func36 rfl Tryz.call36 rfl ?_
  refine zS ?_; refine zAs ?_; refine zN (zS ?_); refine zAs ?_; refine zN ?_; refine awp_seq ?_; refine zS ?_; refine zAs ?_; refine zN ?_; refine awp_block ?_
  refine awp_loop3 [0, 1] [] (fun (k : Nat) (o : Nat) (a : Nat) r => (5, .i (o : Int)) :: (6, .i (k : Int)) :: r) (fun (k : Nat) (o : Nat) (a : Nat) r => .box b 97 [.sl 1 (l.map .i), .i ((a : Nat) : Int)] :: r) (fun (k : Nat) (o : Nat) (a : Nat) => k ≤ n ∧ o < 2 ^ k) (fun (k : Nat) (o : Nat) (a : Nat) => n - k) (0) (0) (a) zRc ⟨by omega, by simp⟩ (wk zSub zKeep) ?_
  intro k o a ⟨hk, ho⟩
  have hk16 := Nat.pow_le_pow_right (show 0 < 2 by omega) (show k ≤ 4 by omega)
  refine awp_seq ?_; refine zS ?_; refine zMv ?_; refine zMv ?_; refine zCm ?_; refine zN ?_
  refine zC (fun hc => ?_) fun hc => ?_
  · have hlt := of_decide_eq_true hc
    refine awp_skip ?_; refine seqQ_n ?_; refine awp_seq ?_; refine awp_block ?_; refine awp_region ?_; refine zMv ?_; refine zMv ?_
    (refine aops_call zRc (SN_con _ _ _ 2 (by omega)) zSplit rfl rfl ?_; rintro _ _ ⟨r14, a14, rfl, hr14, rfl⟩; obtain ⟨m, rfl⟩ := Int.eq_ofNat_of_zero_le hr14.1; have hm2 : m < 2 := (by omega); obtain ⟨hb1, hb2⟩ := some_step (o := o) (m := m) (k := k) ho hm2 (by omega))
    refine zMv ?_
    refine zP (ap_convu rfl rfl rfl (by omega)) ?_
    refine zP (ap_shl rfl rfl rfl (by omega) (by omega)) ?_
    refine zP (ap_bits rfl rfl rfl (by omega) (by omega)) ?_
    refine zAs ?_; refine aops_nil ?_; refine blockQ_n ?_; refine seqQ_n ?_; refine awp_region ?_; refine zMv ?_; refine zAr ?_; refine zAs ?_; refine zN ?_
    refine ⟨k + 1, o ||| m * 2 ^ k, _, ⟨by omega, hb2⟩, by omega, wk zSub zKeep⟩
  · have hge := of_decide_eq_false hc
    refine awp_exit ?_; refine seqQ_x ?_; refine seqQ_x ?_; refine blockQ_x rfl ?_; refine seqQ_n ?_; refine zS ?_; refine zMv ?_; refine zAs ?_; refine zN ?_; refine awp_ret ?_
    exact post_ret (.tmp rfl .nil) zKeep ⟨_, _, rfl, by omega, rfl⟩
theorem exTwo {c r : List Mem} {k : Nat} (hc : Lt c) (hr : Lt r) (hk : k < 2) : ∃ x : List Mem, SubL [.sl 4 (c.map mv), .sl 4 (r.map mv)] (k * 1) 1 [.sl 4 (x.map mv)] ∧ Lt x := by
  match k, hk with
  | 0, _ => exact ⟨c, by repeat constructor, hc⟩
  | 1, _ => exact ⟨r, by repeat constructor, hr⟩
theorem exThree {a b c : Int} {k : Nat} (hk : k < 3) : ∃ x : Int, SubL [D.i a, D.i b, D.i c] (k * 1) 1 [D.i x] := by
  match k, hk with
  | 0, _ => exact ⟨a, by repeat constructor⟩
  | 1, _ => exact ⟨b, by repeat constructor⟩
  | 2, _ => exact ⟨c, by repeat constructor⟩
theorem exVd {a1 a4 a5 b1 b4 b5 c1 c4 c5 : Int} {a2 a3 b2 b3 c2 c3 : Bool} {k : Nat} (hk : k < 3) : ∃ (n : Int) (sp h : Bool) (l r : Int), SubL [D.i a1, D.b a2, D.b a3, D.i a4, D.i a5, D.i b1, D.b b2, D.b b3, D.i b4, D.i b5, D.i c1, D.b c2, D.b c3, D.i c4, D.i c5] (k * 5) 5 [D.i n, D.b sp, D.b h, D.i l, D.i r] := by
  match k, hk with
  | 0, _ => exact ⟨a1, a2, a3, a4, a5, by repeat constructor⟩
  | 1, _ => exact ⟨b1, b2, b3, b4, b5, by repeat constructor⟩
  | 2, _ => exact ⟨c1, c2, c3, c4, c5, by repeat constructor⟩
theorem ap_neb_same {n : Nat} {env : Env} {H : Heap} {dst : Option Tmp} {ty : TypeId} {pos : String} {after : Array Edge} {gd : Option (Nat × Bool)} {x y : Operand} {P : Program} {b t u} (hx : opd env x = some (.b b)) (hy : opd env y = some (.b b)) (ht : P.underlying t = some .bool) : AP P n ⟨dst, .binOp .neq t x y u, ty, pos, after, gd⟩ env H (.b false) := by
  have h := ap_neb (P := P) (n := n) (H := H) (dst := dst) (ty := ty) (pos := pos) (after := after) (gd := gd) (u := u) hx hy ht
  simpa using h
set_option maxHeartbeats 4000000 in
theorem exact_con {Ps : Value → World → Prop} (l : List Int) (raw : List Mem) (set n0 : Int) (sp0 h0 : Bool) (l0 r0 : Int) (w : ByteArray) : Con (some Ps) Tryz.prog 7 [.sl 1 (l.map .i), cv raw, .i set, vi n0 sp0 h0 l0 r0, .v (.string w)] [] (Is (.b true) []) := by
  have hcap : capB = 140737488355328 := rfl
  refine con_intro Tryz.func7 rfl Tryz.call7 rfl ?_
  refine zS ?_
  refine aops_box rfl zFlat rfl rfl (fun b6 => ?_)
  refine aops_box rfl zFlat rfl rfl (fun b8 => ?_)
  refine zAs ?_; refine zN ?_; refine awp_seq ?_; refine zS ?_; refine zLd ?_
  (refine aops_call zRc ((light_con raw).main) zSplit rfl rfl ?_; rintro _ _ ⟨b43, rfl, hb43, rfl⟩)
  refine zNo ?_; refine zMv ?_
  all_goals first | (refine zY ?_; refine zMv ?_) | refine zU ?_ | refine zNf ?_ | (refine zGf (fun hg => ?_) fun hg => ?_; case' _ => refine zMv ?_)
  all_goals first | (refine zY ?_; refine zP (ap_len_str rfl rfl) ?_) | refine zU ?_ | refine zNf ?_ | (refine zGf (fun hg => ?_) fun hg => ?_; case' _ => refine zP (ap_len_str rfl rfl) ?_)
  all_goals first | (refine zY ?_; refine zCm ?_) | refine zU ?_ | refine zNf ?_ | (refine zGf (fun hg => ?_) fun hg => ?_; case' _ => refine zCm ?_)
  all_goals refine zPk ?_
  all_goals (
    refine zN ?_
    refine zC (fun hc => ?_) fun hc => ?_
    · first
      | (exact absurd hc (by decide))
      | (refine awp_seq ?_
         refine awp_region ?_
         refine aops_call_v zRc (sane43_con) rfl rfl ?_
         refine zAs ?_; refine zN ?_; refine awp_ret ?_; refine seqQ_r ?_
         exact post_is (.tmp rfl .nil) zKeep rfl
        )
    · first
      | (exact absurd hc (by decide))
      | (have hL := hb43 (not_f (by with_reducible assumption))
         refine awp_skip ?_; refine seqQ_n ?_; refine zS ?_; refine zMv ?_
         (refine aops_call zRc ((SNew_con _).main) zSplit rfl rfl ?_; rintro _ _ ⟨b52, rfl, rfl⟩)
         refine zAs ?_; refine zN (zS ?_); refine zMv ?_
         (refine aops_call zRc ((SRange_con _ _ _ 1 4 (by omega)).main) zSplit rfl rfl ?_; rintro _ _ ⟨r54, a54, rfl, hr54, rfl⟩; obtain ⟨n, rfl⟩ := Int.eq_ofNat_of_zero_le (show 0 ≤ r54 by omega); have hn : 1 ≤ n ∧ n ≤ 4 := (by omega))
         refine zAs ?_; refine zN (zS ?_); refine zMv ?_; refine zMv ?_
         (refine aops_call zRc ((SConfig_con _ n _ hn _).main) zSplit rfl rfl ?_; rintro _ _ ⟨c, a57, rfl, ⟨hok, hcl⟩, rfl⟩; subst hcl; have hp := pow4 hok.len)
         refine aops_alloc rfl zRc rfl rfl (fun b13 => ?_)
         refine zSt ?_; refine zN ?_; refine awp_seq ?_; refine zS ?_; refine zLd ?_; refine zLd ?_
         refine zP (ap_buildA rfl rfl rfl zRc zFill) ?_
         refine zMv ?_; refine zN ?_; refine awp_block ?_
         refine awp_loop2 [2, 4, 8, 11, 12, 60] [.box b8 _ _] (fun (k : Nat) (a : Nat) r => (61, .i (k : Int)) :: r) (fun (k : Nat) (a : Nat) r => .box b52 97 [.sl 1 ((l.take 800).map .i), .i ((a : Nat) : Int)] :: r) (fun (k : Nat) (a : Nat) => k ≤ 2) (fun (k : Nat) (a : Nat) => 2 - k) (0) (a57) zRc (by omega) (wk zSub zKeep) ?_
         intro k a hk
         refine zS ?_; refine zCm ?_; refine zN ?_; refine awp_seq ?_
         refine zC (fun hc => ?_) fun hc => ?_
         · have hlt := of_decide_eq_true hc
           obtain ⟨x, hxk, hLx⟩ := exTwo hok.lt hL (k := k) (by omega)
           refine awp_skip ?_; refine seqQ_n ?_; refine awp_seq ?_; refine awp_block ?_; refine zS ?_
           refine zP (ap_indexA (k := k) (sz := 1) rfl rfl rfl rfl rfl rfl (by omega) hxk) ?_
           refine aops_alloc rfl zRc rfl rfl (fun b15 => ?_)
           refine zSt ?_; refine zN (zS ?_); refine zLd ?_
           refine aops_call_v zRc (gAll_con x hLx) rfl rfl ?_
           refine zMv ?_
           refine zP (ap_extract rfl rfl) ?_
           refine zP (ap_extract rfl rfl) ?_
           refine zAs ?_; refine zAs ?_; refine zN (zS ?_); refine zLd ?_
           refine aops_call_v zRc ((rAll_con x hLx).main) rfl rfl ?_
           refine zMv ?_
           refine zP (ap_extract rfl rfl) ?_
           refine zP (ap_extract rfl rfl) ?_
           refine zAs ?_; refine zAs ?_; refine zN (zS ?_); refine zLd ?_
           refine aops_call_v zRc (gLeast_con x hLx) rfl rfl ?_
           refine zMv ?_
           refine zP (ap_extract rfl rfl) ?_
           refine zP (ap_extract rfl rfl) ?_
           refine zP (ap_extract rfl rfl) ?_
           refine zAs ?_; refine zAs ?_; refine zAs ?_; refine zN (zS ?_); refine zLd ?_
           refine aops_call_v zRc ((rLeast_con x hLx).main) rfl rfl ?_
           refine zMv ?_
           refine zP (ap_extract rfl rfl) ?_
           refine zP (ap_extract rfl rfl) ?_
           refine zP (ap_extract rfl rfl) ?_
           refine zAs ?_; refine zAs ?_; refine zAs ?_; refine zN ?_; refine awp_seq ?_; refine awp_seq ?_
           refine awp_draw (Hm := []) zKr zSplit ?_
           refine zT 0 rfl (AP.ar (ap_move rfl)) ?_
           refine zT 1 rfl (AP.ar (ap_move rfl)) ?_
           refine aany_one 2 zKr rfl (.none rfl) ?_
           refine aops_call_v zRc ((verdicts_con (allE x).1).main) rfl rfl ?_
           refine aops_nil ?_
           refine zT 3 rfl (AP.ar (ap_not rfl)) ?_
           refine zT 4 rfl (AP.ar (ap_move rfl)) ?_
           refine zT 5 rfl (AP.ar (ap_move rfl)) ?_
           refine zT 6 rfl (AP.ar (ap_move rfl)) ?_
           refine zT 7 rfl (AP.ar (ap_ne_same rfl rfl)) ?_
           refine zTp 8 ?_
           refine zT 9 rfl (AP.ar (ap_move rfl)) ?_
           refine zT 10 rfl (AP.ar (ap_move rfl)) ?_
           refine zT 11 rfl (AP.ar (ap_move rfl)) ?_
           refine aany_one 12 zKr rfl (.yes rfl rfl zDec) ?_
           refine aops_call_v zRc ((ints_same (leastE Vd.splits x)).main) rfl rfl ?_
           refine aops_nil ?_
           refine zT 13 rfl (AP.ar (ap_not rfl)) ?_
           refine zTp 14 ?_
           refine zT 15 rfl (AP.ar (ap_move rfl)) ?_
           refine zT 16 rfl (AP.ar (ap_move rfl)) ?_
           refine zT 17 rfl (AP.ar (ap_move rfl)) ?_
           refine aany_one 18 zKr rfl (.yes rfl rfl zDec) ?_
           refine aops_call_v zRc ((ints_same (leastE Vd.halts x)).main) rfl rfl ?_
           refine aops_nil ?_
           refine zT 19 rfl (AP.ar (ap_not rfl)) ?_
           refine zTp 20 ?_
           refine zT 21 rfl (AP.ar (ap_move rfl)) ?_
           refine zT 22 rfl (AP.ar (ap_move rfl)) ?_
           refine zT 23 rfl (AP.ar (ap_move rfl)) ?_
           refine zT 24 rfl (AP.ar (ap_ne_same rfl rfl)) ?_
           refine zTp 25 ?_
           refine zT 26 rfl (AP.ar (ap_move rfl)) ?_
           refine zTM 27 ?_
           refine zT 28 rfl (AP.ar (ap_move rfl)) ?_
           refine zTM 30 ?_
           refine zT 31 rfl (AP.ar (ap_move rfl)) ?_
           refine aany_one 29 zKr rfl (.yes rfl rfl zDec) ?_
           refine aops_call_v zRc ((plain_con x hLx w).main) rfl rfl ?_
           refine aops_nil ?_
           refine aany_one 32 zKr rfl (.yes rfl rfl zDec) ?_
           refine aops_call_v zRc ((rplain_con x hLx w).main) rfl rfl ?_
           refine aops_nil ?_
           refine aany_one 33 zKr rfl (.yes rfl rfl zDec) ?_
           refine aops_call_v zRc ((steps_con (plainL x w)).main) rfl rfl ?_
           refine aops_nil ?_
           refine zT 34 rfl (AP.ar (ap_not rfl)) ?_
           refine zTp 35 ?_; refine aany_nil zKr ?_
           all_goals (
             refine seqQ_n ?_
             refine awp_cond_f rfl zDec ?_
             refine awp_skip ?_; refine seqQ_n ?_; refine zS ?_; refine zMv ?_; refine zMv ?_; refine zMv ?_
             (refine aops_call zRc ((SSome_con b52 c.length (l.take 800) (by omega) _).main) zSplit rfl rfl ?_; rintro _ _ ⟨r125, a125, rfl, hr125, rfl⟩)
             refine zP (ap_buildA rfl rfl rfl zRc zFill) ?_
             refine zMv ?_; refine zN ?_; refine awp_block ?_
             refine awp_loop2 [2, 4, 8, 11, 12, 15, 60, 61, 126] [.box b15 _ _, .box b8 _ _] (fun (j : Nat) (a2 : Nat) r => (127, .i (j : Int)) :: r) (fun (j : Nat) (a2 : Nat) r => .box b52 97 [.sl 1 ((l.take 800).map .i), .i ((a2 : Nat) : Int)] :: r) (fun (j : Nat) (a2 : Nat) => j ≤ 3) (fun (j : Nat) (a2 : Nat) => 3 - j) (0) (a125) zRc (by omega) (wk zSub zKeep) ?_
             intro j a2 hj
             refine zS ?_; refine zCm ?_; refine zN ?_; refine awp_seq ?_
             refine zC (fun hc => ?_) fun hc => ?_
             · have hltj := of_decide_eq_true hc
               obtain ⟨y, hyk⟩ := exThree (a := set) (b := (r125 : Int)) (c := 0) (k := j) (by omega)
               refine awp_skip ?_; refine seqQ_n ?_; refine awp_seq ?_; refine awp_block ?_; refine zS ?_
               refine zP (ap_indexA1 (k := j) rfl rfl rfl rfl rfl rfl (by omega) hyk) ?_
               refine zAs ?_; refine zN (zS ?_); refine zLd ?_; refine zMv ?_
               refine aops_call_v zRc ((gPair_con x hLx y).main) rfl rfl ?_
               refine zMv ?_
               refine zP (ap_extract rfl rfl) ?_
               refine zP (ap_extract rfl rfl) ?_
               refine zP (ap_extract rfl rfl) ?_
               refine zAs ?_; refine zAs ?_; refine zAs ?_; refine zN (zS ?_); refine zLd ?_; refine zMv ?_
               refine aops_call_v zRc ((rPair_con x hLx y).main) rfl rfl ?_
               refine zMv ?_
               refine zP (ap_extract rfl rfl) ?_
               refine zP (ap_extract rfl rfl) ?_
               refine zP (ap_extract rfl rfl) ?_
               refine zAs ?_; refine zAs ?_; refine zAs ?_; refine zN (zS ?_); refine zLd ?_; refine zMv ?_
               refine aops_call_v zRc ((gJudge_con x hLx y).main) rfl rfl ?_
               refine zMv ?_
               refine zP (ap_extract rfl rfl) ?_
               refine zP (ap_extract rfl rfl) ?_
               refine aops_alloc rfl zRc rfl rfl (fun b34 => ?_)
               refine zSt ?_; refine zAs ?_; refine zN (zS ?_); refine zLd ?_; refine zMv ?_
               refine aops_call_v zRc ((rJudge_con x hLx y).main) rfl rfl ?_
               refine zMv ?_
               refine zP (ap_extract rfl rfl) ?_
               refine zP (ap_extract rfl rfl) ?_
               refine aops_alloc rfl zRc rfl rfl (fun b36 => ?_)
               refine zSt ?_; refine zAs ?_; refine zN ?_; refine awp_seq ?_; refine awp_seq ?_
               refine awp_draw (Hm := []) zKr zSplit ?_
               refine zT 0 rfl (AP.ar (ap_move rfl)) ?_
               refine zT 1 rfl (AP.ar (ap_move rfl)) ?_
               refine zT 2 rfl (AP.ar (ap_ne_same rfl rfl)) ?_
               refine zT 3 rfl (AP.ar (ap_move rfl)) ?_
               refine zT 4 rfl (AP.ar (ap_move rfl)) ?_
               refine zT 5 rfl (AP.ar (ap_move rfl)) ?_
               refine zT 6 rfl (AP.ar (ap_ne_same rfl rfl)) ?_
               refine zTp 7 ?_
               refine zT 8 rfl (AP.ar (ap_move rfl)) ?_
               refine zT 9 rfl (AP.ar (ap_move rfl)) ?_
               refine zT 10 rfl (AP.ar (ap_move rfl)) ?_
               refine zT 11 rfl (AP.ar (ap_neb_same rfl rfl rfl)) ?_
               refine zTp 12 ?_
               refine zT 13 rfl (AP.ar (ap_move rfl)) ?_
               refine zTM 14 ?_; refine zTM 15 ?_
               refine zT 16 rfl (AP.ar (ap_neV rfl zRc rfl zRc (eqV _ _ _ _ _))) ?_
               refine zTp 17 ?_
               refine zT 18 rfl (AP.ar (ap_move rfl)) ?_
               refine zT 19 rfl (AP.ar (ap_move rfl)) ?_
               refine zT 20 rfl (AP.ar (ap_move rfl)) ?_
               refine zT 21 rfl (AP.ar (ap_ne_same rfl rfl)) ?_
               refine zTp 22 ?_
               refine zT 23 rfl (AP.ar (ap_move rfl)) ?_
               refine zTM 24 ?_
               refine zT 25 rfl (AP.ar (ap_move rfl)) ?_
               refine zTM 27 ?_
               refine zT 28 rfl (AP.ar (ap_move rfl)) ?_
               refine aany_one 26 zKr rfl (.yes rfl rfl zDec) ?_
               refine aops_call_v zRc ((gSilent_con x hLx y).main) rfl rfl ?_
               refine aops_nil ?_
               refine aany_one 29 zKr rfl (.yes rfl rfl zDec) ?_
               refine aops_call_v zRc ((rSilent_con x hLx y).main) rfl rfl ?_
               refine aops_nil ?_
               refine zT 30 rfl (AP.ar (ap_neb_same rfl rfl rfl)) ?_
               refine zTp 31 ?_; refine aany_nil zKr ?_
               all_goals (
                 refine seqQ_n ?_
                 refine awp_cond_f rfl zDec ?_
                 refine awp_skip ?_; refine seqQ_n ?_; refine zS ?_; refine zLd ?_; refine zMv ?_
                 refine aops_call_v zRc ((gSplit_con x hLx y).main) rfl rfl ?_
                 refine zMv ?_
                 refine zP (ap_extract rfl rfl) ?_
                 refine zP (ap_extract rfl rfl) ?_
                 refine zAs ?_; refine zAs ?_; refine zN (zS ?_); refine zLd ?_; refine zMv ?_
                 refine aops_call_v zRc ((rSplit_con x hLx y).main) rfl rfl ?_
                 refine zMv ?_
                 refine zP (ap_extract rfl rfl) ?_
                 refine zP (ap_extract rfl rfl) ?_
                 refine zAs ?_; refine zAs ?_; refine zN ?_; refine awp_seq ?_; refine zS ?_; refine zMv ?_; refine zMv ?_
                 refine aops_call_v zRc ((steps_con (splitE x y).1).main) rfl rfl ?_
                 refine zNo ?_; refine zMv ?_
                 all_goals first | (refine zY ?_; refine zMv ?_) | refine zU ?_ | refine zNf ?_ | (refine zGf (fun hg => ?_) fun hg => ?_; case' _ => refine zMv ?_)
                 all_goals first | (refine zY ?_; refine zMv ?_) | refine zU ?_ | refine zNf ?_ | (refine zGf (fun hg => ?_) fun hg => ?_; case' _ => refine zMv ?_)
                 all_goals first | (refine zY ?_; refine zP (ap_ne_same rfl rfl) ?_) | refine zU ?_ | refine zNf ?_ | (refine zGf (fun hg => ?_) fun hg => ?_; case' _ => refine zP (ap_ne_same rfl rfl) ?_)
                 all_goals refine zPk ?_
                 all_goals (
                   refine zN ?_
                   refine awp_cond_f rfl zDec ?_
                   refine awp_skip ?_; refine seqQ_n ?_; refine awp_seq ?_
                   refine awp_draw (Hm := [.box b52 _ _]) zKr zSplit ?_
                   refine zTM 0 ?_; refine zTM 1 ?_
                   refine zT 2 rfl (AP.ar (ap_move rfl)) ?_
                   refine zT 3 rfl (AP.ar (ap_move rfl)) ?_
                   refine zT 4 rfl (AP.ar (ap_move rfl)) ?_
                   refine zT 6 rfl (AP.ar (ap_move rfl)) ?_
                   refine zT 7 rfl (AP.ar (ap_move rfl)) ?_
                   refine zT 11 rfl (AP.ar (ap_move rfl)) ?_
                   refine aany_one 5 zKr rfl (.none rfl) ?_
                   (refine aops_call zRc ((SSome_con b52 c.length (l.take 800) (by omega) _).main) zSplit rfl rfl ?_; rintro _ _ ⟨r214, a214, rfl, hr214, rfl⟩)
                   refine aops_nil ?_
                   refine aany_one 8 zKr rfl (.none rfl) ?_
                   (refine aops_call zRc ((SSome_con b52 c.length (l.take 800) (by omega) _).main) zSplit rfl rfl ?_; rintro _ _ ⟨r217, a217, rfl, hr217, rfl⟩)
                   refine aops_nil ?_
                   refine zT 9 rfl (AP.ar (ap_build zKr rfl zRc zFill)) ?_
                   refine zT 10 rfl (AP.ar (ap_buildA rfl rfl rfl zRc zFill)) ?_
                   refine aany_nil zKr ?_
                   all_goals (
                     refine seqQ_n ?_; refine awp_block ?_
                     refine awp_loop1 [2, 4, 8, 11, 12, 15, 60, 61, 126, 127, 219] [.box b52 97 [.sl 1 ((l.take 800).map .i), .i ((_ : Nat) : Int)], .box b15 _ _, .box b8 _ _] (fun (i : Nat) r => (220, .i (i : Int)) :: r) (fun (i : Nat) r => r) (fun (i : Nat) => i ≤ 3) (fun (i : Nat) => 3 - i) (0) zRc (by omega) (wk zSub zKeep) ?_
                     intro i hi
                     refine zS ?_; refine zCm ?_; refine zN ?_; refine awp_seq ?_
                     refine zC (fun hc => ?_) fun hc => ?_
                     · have hlti := of_decide_eq_true hc
                       obtain ⟨vn, vs, vh, vl, vr, hvk⟩ := exVd (a1 := ((judgeE x y).1.nodes : Int)) (a2 := (judgeE x y).1.splits) (a3 := (judgeE x y).1.halts) (a4 := ((judgeE x y).1.l : Int)) (a5 := ((judgeE x y).1.r : Int)) (b1 := n0) (b2 := sp0) (b3 := h0) (b4 := l0) (b5 := r0) (c1 := y) (c2 := true) (c3 := false) (c4 := (r214 : Int)) (c5 := (r217 : Int)) (k := i) (show i < 3 by omega)
                       refine awp_skip ?_; refine seqQ_n ?_; refine awp_seq ?_; refine awp_block ?_; refine zS ?_
                       refine zP (ap_indexA (k := i) (sz := 5) rfl rfl rfl rfl rfl rfl (by omega) hvk) ?_
                       refine aops_alloc rfl zRc rfl rfl (fun b41 => ?_)
                       refine zSt ?_; refine zN ?_; refine awp_seq ?_
                       refine awp_draw (Hm := []) zKr zSplit ?_
                       refine zTM 0 ?_; refine zTM 1 ?_; refine zTM 3 ?_; refine zTM 4 ?_
                       refine aany_one 2 zKr rfl (.none rfl) ?_
                       refine aops_call_v zRc ((gProves_con x hLx vn vs vh vl vr).main) rfl rfl ?_
                       refine aops_nil ?_
                       refine aany_one 5 zKr rfl (.none rfl) ?_
                       refine aops_call_v zRc ((rProves_con x hLx vn vs vh vl vr).main) rfl rfl ?_
                       refine aops_nil ?_
                       refine zT 6 rfl (AP.ar (ap_neb_same rfl rfl rfl)) ?_
                       refine aany_nil zKr ?_
                       all_goals (
                         refine seqQ_n ?_
                         refine awp_cond_f rfl zDec ?_
                         refine awp_skip ?_; refine blockQ_n ?_; refine seqQ_n ?_; refine awp_region ?_; refine zAr ?_; refine zMv ?_; refine zN ?_
                         exact ⟨i + 1, by omega, by omega, wk zSub zKeep⟩
                         )
                     · refine awp_exit ?_
                       refine seqQ_x ?_; refine seqQ_x ?_; refine blockQ_x rfl ?_; refine blockQ_n ?_; refine seqQ_n ?_; refine awp_region ?_; refine zAr ?_; refine zMv ?_; refine zN ?_
                       exact ⟨j + 1, _, by omega, by omega, wk zSub zKeep⟩
                     )
                   )
                 )
             · refine awp_exit ?_
               refine seqQ_x ?_; refine seqQ_x ?_; refine blockQ_x rfl ?_; refine blockQ_n ?_; refine seqQ_n ?_; refine awp_region ?_; refine zAr ?_; refine zMv ?_; refine zN ?_
               exact ⟨k + 1, _, by omega, by omega, wk zSub zKeep⟩
             )
         · refine awp_exit ?_
           refine seqQ_x ?_; refine seqQ_x ?_; refine blockQ_x rfl ?_; refine seqQ_n ?_; refine zS ?_
           refine aops_call_v zRc (sane43_con) rfl rfl ?_
           refine zAs ?_; refine zN ?_; refine awp_ret ?_
           exact post_is (.tmp rfl .nil) zKeep rfl
        )
    )
/-- A verdict that came in. -/
structure VdI where
  n : Int
  sp : Bool
  h : Bool
  l : Int
  r : Int
def viv (x : VdI) : D := vi x.n x.sp x.h x.l x.r
theorem op_verdict {w : World} (n : Nat) : OpN Tryz.prog w 78 n VdI (fun x => [.i x.n, .b x.sp, .b x.h, .i x.l, .i x.r]) := by
  refine op_struct Tryz.underlying78 zKr (fun m hm => ?_)
  exact (opf_cons zKr (op_int Tryz.underlying3) (opf_cons zKr (op_bool Tryz.underlying4) (opf_cons zKr (op_bool Tryz.underlying4) (opf_cons zKr (op_int Tryz.underlying3) (opf_cons zKr (op_int Tryz.underlying3) opf_nil))))).map (fun p => ⟨p.1, p.2.1, p.2.2.1, p.2.2.2.1, p.2.2.2.2.1⟩) (fun p => rfl)
theorem exact43_con {Ps : Value → World → Prop} (l : List Int) (raw : List Mem) (set : Int) (x : VdI) (w : ByteArray) : Con (some Ps) Tryz.prog 7 [.sl 1 (l.map .i), cv raw, .i set, viv x, .v (.string w)] [] (Is (.b true) []) := exact_con l raw set x.n x.sp x.h x.l x.r w
end Go.Proofs.YtgmpjpaekpefdaaGreat
