/- The walks of: rtimeout_con, rreceive_con, SNew_con, SN_con, SRange_con, SText_con, SValue_con, SLow_con, STrust_con, SEnv_con, STrust5_con, SEnv5_con, made_con. Each says what one function of the program answers, for the arguments that its statement names. No condition beyond what each theorem says. -/
import Derived.Test.YtegejdhkckndaaaGreatTimersExactW8
import Derived.Test.YtegejdhkckndaaaGreatProg
import Derived.KernelRfl
import Derived.Tactics
import Derived.Tactics2
import Derived.StillTactics
set_option linter.unusedVariables false
set_option linter.unusedSimpArgs false
set_option linter.unnecessarySimpa false
set_option maxRecDepth 4000
namespace Go.Proofs.YtegejdhkckndaaaGreat
open Go Go.Av Go.Tq
set_option maxHeartbeats 2000000 in
theorem rtimeout_con (m : Mach) (hI : InvM m) : Con Tryz.prog 26 [mcv m] [] (fun d H => OutR m.heard.length d ∧ H = []) := by
  have hcap : capB = 140737488355328 := rfl
  have hsz1 := hI.sz
  have hhl := hI.hl
  have hhs9 : ∀ e ∈ m.heard, sizeT e.t ≤ 1000000000 := fun e he => by have := (hI.hs e he).1; omega
  have hbn := hI.baln
  have hbn0 := hI.bal.n0
  have hmlen : (m.heard.map ev).length = m.heard.length := by simp
  refine con_intro Tryz.func26 rfl Tryz.call26 rfl ?_
  refine zS ?_
  refine aops_box rfl zFlat rfl rfl (fun b1 => ?_)
  refine aops_alloc rfl zRc rfl rfl (fun b2 => ?_)
  refine zAs ?_; refine zN ?_; refine awp_seq ?_; refine zS ?_; refine zLd ?_
  (refine aops_call zRc (rcheck_ex m (by omega) hhs9) zSplit rfl rfl ?_; rintro _ _ ⟨y7, rfl, rfl⟩)
  refine zNo ?_; refine zN ?_
  refine zC (fun hc => ?_) fun hc => ?_
  · refine awp_seq ?_
    refine awp_region ?_
    refine zP (ap_build zKr rfl zRc zFill) ?_
    refine zSt ?_; refine zAs ?_; refine zN ?_
    refine awp_unnil [2,3] 1 rfl zSelS (by apply HeapA.box (CvL.cons Cv.same (CvL.cons Cv.same (CvL.cons Cv.same (CvL.cons Cv.same (CvL.cons Cv.fz (CvL.cons Cv.same (CvL.cons Cv.same (CvL.cons Cv.same (CvL.cons Cv.same (CvL.cons Cv.same (CvL.cons Cv.same (CvL.cons Cv.same (CvL.cons Cv.same (CvL.cons Cv.same (CvL.cons Cv.same (CvL.cons Cv.same (CvL.cons Cv.same (CvL.cons Cv.same (CvL.cons Cv.same CvL.nil))))))))))))))))))); repeat (first | exact HeapA.nil | apply HeapA.box (by repeat (first | exact CvL.nil | apply CvL.cons Cv.same)) | apply HeapA.arr)) ?_
    refine awp_unnil [2,3] 3 rfl zSelS (by apply HeapA.box (CvL.cons Cv.same (CvL.cons Cv.same (CvL.cons Cv.same (CvL.cons Cv.same (CvL.cons Cv.same (CvL.cons Cv.fz (CvL.cons Cv.same (CvL.cons Cv.same (CvL.cons Cv.same (CvL.cons Cv.same (CvL.cons Cv.same (CvL.cons Cv.same (CvL.cons Cv.same (CvL.cons Cv.same (CvL.cons Cv.same (CvL.cons Cv.same (CvL.cons Cv.same (CvL.cons Cv.same (CvL.cons Cv.same CvL.nil))))))))))))))))))); repeat (first | exact HeapA.nil | apply HeapA.box (by repeat (first | exact CvL.nil | apply CvL.cons Cv.same)) | apply HeapA.arr)) ?_
    refine awp_unnil [2,3] 15 rfl zSelS (by apply HeapA.box (CvL.cons Cv.same (CvL.cons Cv.same (CvL.cons Cv.same (CvL.cons Cv.same (CvL.cons Cv.same (CvL.cons Cv.same (CvL.cons Cv.same (CvL.cons Cv.same (CvL.cons Cv.same (CvL.cons Cv.same (CvL.cons Cv.same (CvL.cons Cv.same (CvL.cons Cv.same (CvL.cons Cv.same (CvL.cons Cv.same (CvL.cons Cv.same (CvL.cons Cv.same (CvL.cons Cv.same (CvL.cons Cv.fz CvL.nil))))))))))))))))))); repeat (first | exact HeapA.nil | apply HeapA.box (by repeat (first | exact CvL.nil | apply CvL.cons Cv.same)) | apply HeapA.arr)) ?_
    refine awp_ret ?_; refine seqQ_r ?_
    exact post_ret (.cell rfl zUpd rfl rfl (.tmp rfl .nil)) zKeep ⟨⟨zeroM, 13, rfl, fun h => by cases h⟩, rfl⟩
  · refine awp_skip ?_
    refine seqQ_n ?_; refine zS ?_; refine zLd ?_
    refine aops_call_v zRc (rvalue_con m (by omega)) rfl rfl ?_
    refine zAs ?_; refine zN ?_; refine awp_seq ?_; refine zS ?_; refine zF 6 1 false ?_; refine zL1 ?_; refine zCm ?_; refine zMv ?_
    all_goals first | (refine zY ?_; refine zMv ?_) | refine zU ?_ | refine zNf ?_ | (refine zGf (fun hg => ?_) fun hg => ?_; case' _ => refine zMv ?_)
    all_goals first | (refine zY ?_; refine zP (ap_scmp rfl rfl rfl) ?_) | refine zU ?_ | refine zNf ?_ | (refine zGf (fun hg => ?_) fun hg => ?_; case' _ => refine zP (ap_scmp rfl rfl rfl) ?_)
    all_goals refine zPk ?_
    all_goals (
      refine zN ?_
      refine zC (fun hc => ?_) fun hc => ?_
      · first
        | (exact absurd hc (by decide))
        | (refine awp_seq ?_
           refine awp_region ?_
           refine zP (ap_build zKr rfl zRc zFill) ?_
           refine zSt ?_; refine zAs ?_; refine zN ?_
           refine awp_unnil [2,3] 1 rfl zSelS (by apply HeapA.box (CvL.cons Cv.same (CvL.cons Cv.same (CvL.cons Cv.same (CvL.cons Cv.same (CvL.cons Cv.fz (CvL.cons Cv.same (CvL.cons Cv.same (CvL.cons Cv.same (CvL.cons Cv.same (CvL.cons Cv.same (CvL.cons Cv.same (CvL.cons Cv.same (CvL.cons Cv.same (CvL.cons Cv.same (CvL.cons Cv.same (CvL.cons Cv.same (CvL.cons Cv.same (CvL.cons Cv.same (CvL.cons Cv.same CvL.nil))))))))))))))))))); repeat (first | exact HeapA.nil | apply HeapA.box (by repeat (first | exact CvL.nil | apply CvL.cons Cv.same)) | apply HeapA.arr)) ?_
           refine awp_unnil [2,3] 3 rfl zSelS (by apply HeapA.box (CvL.cons Cv.same (CvL.cons Cv.same (CvL.cons Cv.same (CvL.cons Cv.same (CvL.cons Cv.same (CvL.cons Cv.fz (CvL.cons Cv.same (CvL.cons Cv.same (CvL.cons Cv.same (CvL.cons Cv.same (CvL.cons Cv.same (CvL.cons Cv.same (CvL.cons Cv.same (CvL.cons Cv.same (CvL.cons Cv.same (CvL.cons Cv.same (CvL.cons Cv.same (CvL.cons Cv.same (CvL.cons Cv.same CvL.nil))))))))))))))))))); repeat (first | exact HeapA.nil | apply HeapA.box (by repeat (first | exact CvL.nil | apply CvL.cons Cv.same)) | apply HeapA.arr)) ?_
           refine awp_unnil [2,3] 15 rfl zSelS (by apply HeapA.box (CvL.cons Cv.same (CvL.cons Cv.same (CvL.cons Cv.same (CvL.cons Cv.same (CvL.cons Cv.same (CvL.cons Cv.same (CvL.cons Cv.same (CvL.cons Cv.same (CvL.cons Cv.same (CvL.cons Cv.same (CvL.cons Cv.same (CvL.cons Cv.same (CvL.cons Cv.same (CvL.cons Cv.same (CvL.cons Cv.same (CvL.cons Cv.same (CvL.cons Cv.same (CvL.cons Cv.same (CvL.cons Cv.fz CvL.nil))))))))))))))))))); repeat (first | exact HeapA.nil | apply HeapA.box (by repeat (first | exact CvL.nil | apply CvL.cons Cv.same)) | apply HeapA.arr)) ?_
           refine awp_ret ?_; refine seqQ_r ?_
           exact post_ret (.cell rfl zUpd rfl rfl (.tmp rfl .nil)) zKeep ⟨⟨zeroM, 62, rfl, fun h => by cases h⟩, rfl⟩
          )
      · first
        | (exact absurd hc (by decide))
        | (refine awp_skip ?_
           refine seqQ_n ?_; refine awp_seq ?_; refine zS ?_; refine zF 7 2 true ?_; refine zF 0 1 false ?_; refine zL1 ?_; refine zCm ?_; refine zN ?_
           refine zC (fun hc => ?_) fun hc => ?_
           · refine awp_seq ?_
             refine awp_region ?_
             refine zP (ap_build zKr rfl zRc zFill) ?_
             refine zSt ?_; refine zAs ?_; refine zN ?_
             refine awp_unnil [2,3] 1 rfl zSelS (by apply HeapA.box (CvL.cons Cv.same (CvL.cons Cv.same (CvL.cons Cv.same (CvL.cons Cv.same (CvL.cons Cv.fz (CvL.cons Cv.same (CvL.cons Cv.same (CvL.cons Cv.same (CvL.cons Cv.same (CvL.cons Cv.same (CvL.cons Cv.same (CvL.cons Cv.same (CvL.cons Cv.same (CvL.cons Cv.same (CvL.cons Cv.same (CvL.cons Cv.same (CvL.cons Cv.same (CvL.cons Cv.same (CvL.cons Cv.same CvL.nil))))))))))))))))))); repeat (first | exact HeapA.nil | apply HeapA.box (by repeat (first | exact CvL.nil | apply CvL.cons Cv.same)) | apply HeapA.arr)) ?_
             refine awp_unnil [2,3] 3 rfl zSelS (by apply HeapA.box (CvL.cons Cv.same (CvL.cons Cv.same (CvL.cons Cv.same (CvL.cons Cv.same (CvL.cons Cv.same (CvL.cons Cv.fz (CvL.cons Cv.same (CvL.cons Cv.same (CvL.cons Cv.same (CvL.cons Cv.same (CvL.cons Cv.same (CvL.cons Cv.same (CvL.cons Cv.same (CvL.cons Cv.same (CvL.cons Cv.same (CvL.cons Cv.same (CvL.cons Cv.same (CvL.cons Cv.same (CvL.cons Cv.same CvL.nil))))))))))))))))))); repeat (first | exact HeapA.nil | apply HeapA.box (by repeat (first | exact CvL.nil | apply CvL.cons Cv.same)) | apply HeapA.arr)) ?_
             refine awp_unnil [2,3] 15 rfl zSelS (by apply HeapA.box (CvL.cons Cv.same (CvL.cons Cv.same (CvL.cons Cv.same (CvL.cons Cv.same (CvL.cons Cv.same (CvL.cons Cv.same (CvL.cons Cv.same (CvL.cons Cv.same (CvL.cons Cv.same (CvL.cons Cv.same (CvL.cons Cv.same (CvL.cons Cv.same (CvL.cons Cv.same (CvL.cons Cv.same (CvL.cons Cv.same (CvL.cons Cv.same (CvL.cons Cv.same (CvL.cons Cv.same (CvL.cons Cv.fz CvL.nil))))))))))))))))))); repeat (first | exact HeapA.nil | apply HeapA.box (by repeat (first | exact CvL.nil | apply CvL.cons Cv.same)) | apply HeapA.arr)) ?_
             refine awp_ret ?_; refine seqQ_r ?_
             exact post_ret (.cell rfl zUpd rfl rfl (.tmp rfl .nil)) zKeep ⟨⟨zeroM, 3, rfl, fun h => by cases h⟩, rfl⟩
           · have hn9 := of_decide_eq_false hc
             refine awp_skip ?_; refine seqQ_n ?_; refine zS ?_; refine zLd ?_
             refine aops_alloc rfl zRc rfl rfl (fun b5 => ?_)
             refine zSt ?_; refine zN ?_; refine awp_seq ?_; refine zS ?_; refine zMv ?_; refine zF 7 2 true ?_; refine zF 1 1 false ?_; refine zL1 ?_
             refine zP (ap_scmp rfl rfl rfl) ?_
             refine zN ?_
             refine zC (fun hc => ?_) fun hc => ?_
             · have mk30t : True := trivial
               refine awp_region ?_; refine zF 15 1 false ?_; refine zSt ?_; refine zN (zS ?_); refine zF 7 2 true ?_; refine zF 0 1 false ?_; refine zL1 ?_; refine zAr ?_; refine zMv ?_
               refine zP (ap_build zKr rfl zRc zFill) ?_
               refine zF 2 1 false ?_; refine zL1 ?_
               refine zP (ap_max rfl rfl) ?_
               refine zF 7 2 true ?_; refine zSt ?_; refine zF 2 1 false ?_; refine zSt ?_; refine zN (zS ?_); refine zLd ?_; refine zLd ?_
               first | (have := mk30t; (refine aops_call zRc (rnumb_con m { m with bal := ⟨m.bal.n + 1, valM m⟩, low := 0, seq := max m.seq 1 } (inv_bal hI (by omega) (valM_size hI) (.inr rfl))) zSplit rfl rfl ?_; rintro _ _ ⟨c, rfl, ⟨hcI, hch⟩, rfl⟩)) | (refine aops_call zRc (rnumb_con m { m with bal := ⟨m.bal.n + 1, valM m⟩, low := m.low, seq := max m.seq 1 } (inv_bal hI (by omega) (valM_size hI) (.inl rfl))) zSplit rfl rfl ?_; rintro _ _ ⟨c, rfl, ⟨hcI, hch⟩, rfl⟩)
               refine zSt ?_; refine zAs ?_; refine zN ?_; refine awp_ret ?_
               have hk9 : m.heard.length ≤ m.heard.length := Nat.le_refl _
               exact post_ret (.cell rfl zUpd rfl rfl (.tmp rfl .nil)) zKeep ⟨⟨c, 0, rfl, fun _ => ⟨hcI, by rw [hch]; first | exact hk9 | (simp only; omega)⟩⟩, rfl⟩
             · have mk30f : True := trivial
               refine awp_skip ?_; refine seqQ_n ?_; refine zS ?_; refine zF 7 2 true ?_; refine zF 0 1 false ?_; refine zL1 ?_; refine zAr ?_; refine zMv ?_
               refine zP (ap_build zKr rfl zRc zFill) ?_
               refine zF 2 1 false ?_; refine zL1 ?_
               refine zP (ap_max rfl rfl) ?_
               refine zF 7 2 true ?_; refine zSt ?_; refine zF 2 1 false ?_; refine zSt ?_; refine zN (zS ?_); refine zLd ?_; refine zLd ?_
               first | (have := mk30t; (refine aops_call zRc (rnumb_con m { m with bal := ⟨m.bal.n + 1, valM m⟩, low := 0, seq := max m.seq 1 } (inv_bal hI (by omega) (valM_size hI) (.inr rfl))) zSplit rfl rfl ?_; rintro _ _ ⟨c, rfl, ⟨hcI, hch⟩, rfl⟩)) | (refine aops_call zRc (rnumb_con m { m with bal := ⟨m.bal.n + 1, valM m⟩, low := m.low, seq := max m.seq 1 } (inv_bal hI (by omega) (valM_size hI) (.inl rfl))) zSplit rfl rfl ?_; rintro _ _ ⟨c, rfl, ⟨hcI, hch⟩, rfl⟩)
               refine zSt ?_; refine zAs ?_; refine zN ?_; refine awp_ret ?_
               have hk9 : m.heard.length ≤ m.heard.length := Nat.le_refl _
               exact post_ret (.cell rfl zUpd rfl rfl (.tmp rfl .nil)) zKeep ⟨⟨c, 0, rfl, fun _ => ⟨hcI, by rw [hch]; first | exact hk9 | (simp only; omega)⟩⟩, rfl⟩
          )
      )
set_option maxHeartbeats 2000000 in
theorem rreceive_con (m : Mach) (hI : InvM m) (hl9 : m.heard.length ≤ 19) (e : Evp) (hes : sizeT e.t ≤ 100000) : Con Tryz.prog 27 [mcv m, ev e] [] (fun d H => OutR (m.heard.length + 1) d ∧ H = []) := by
  have hcap : capB = 140737488355328 := rfl
  have hsz1 := hI.sz
  have hhl := hI.hl
  have hhs9 : ∀ e ∈ m.heard, sizeT e.t ≤ 1000000000 := fun e he => by have := (hI.hs e he).1; omega
  have hbn := hI.baln
  have hbn0 := hI.bal.n0
  have hmlen : (m.heard.map ev).length = m.heard.length := by simp
  refine con_intro Tryz.func27 rfl Tryz.call27 rfl ?_
  refine zS ?_
  refine aops_box rfl zFlat rfl rfl (fun b2 => ?_)
  refine aops_box rfl zFlat rfl rfl (fun b3 => ?_)
  refine aops_alloc rfl zRc rfl rfl (fun b4 => ?_)
  refine zAs ?_; refine zN ?_; refine awp_seq ?_; refine zS ?_; refine zLd ?_
  (refine aops_call zRc (rcheck_ex m (by omega) hhs9) zSplit rfl rfl ?_; rintro _ _ ⟨y10, rfl, rfl⟩)
  refine zNo ?_; refine zN ?_
  refine zC (fun hc => ?_) fun hc => ?_
  · refine awp_seq ?_
    refine awp_region ?_
    refine zP (ap_build zKr rfl zRc zFill) ?_
    refine zSt ?_; refine zAs ?_; refine zN ?_
    refine awp_unnil [4,5] 1 rfl zSelS (by apply HeapA.box (CvL.cons Cv.same (CvL.cons Cv.same (CvL.cons Cv.same (CvL.cons Cv.same (CvL.cons Cv.fz (CvL.cons Cv.same (CvL.cons Cv.same (CvL.cons Cv.same (CvL.cons Cv.same (CvL.cons Cv.same (CvL.cons Cv.same (CvL.cons Cv.same (CvL.cons Cv.same (CvL.cons Cv.same (CvL.cons Cv.same (CvL.cons Cv.same (CvL.cons Cv.same (CvL.cons Cv.same (CvL.cons Cv.same CvL.nil))))))))))))))))))); repeat (first | exact HeapA.nil | apply HeapA.box (by repeat (first | exact CvL.nil | apply CvL.cons Cv.same)) | apply HeapA.arr)) ?_
    refine awp_unnil [4,5] 3 rfl zSelS (by apply HeapA.box (CvL.cons Cv.same (CvL.cons Cv.same (CvL.cons Cv.same (CvL.cons Cv.same (CvL.cons Cv.same (CvL.cons Cv.fz (CvL.cons Cv.same (CvL.cons Cv.same (CvL.cons Cv.same (CvL.cons Cv.same (CvL.cons Cv.same (CvL.cons Cv.same (CvL.cons Cv.same (CvL.cons Cv.same (CvL.cons Cv.same (CvL.cons Cv.same (CvL.cons Cv.same (CvL.cons Cv.same (CvL.cons Cv.same CvL.nil))))))))))))))))))); repeat (first | exact HeapA.nil | apply HeapA.box (by repeat (first | exact CvL.nil | apply CvL.cons Cv.same)) | apply HeapA.arr)) ?_
    refine awp_unnil [4,5] 15 rfl zSelS (by apply HeapA.box (CvL.cons Cv.same (CvL.cons Cv.same (CvL.cons Cv.same (CvL.cons Cv.same (CvL.cons Cv.same (CvL.cons Cv.same (CvL.cons Cv.same (CvL.cons Cv.same (CvL.cons Cv.same (CvL.cons Cv.same (CvL.cons Cv.same (CvL.cons Cv.same (CvL.cons Cv.same (CvL.cons Cv.same (CvL.cons Cv.same (CvL.cons Cv.same (CvL.cons Cv.same (CvL.cons Cv.same (CvL.cons Cv.fz CvL.nil))))))))))))))))))); repeat (first | exact HeapA.nil | apply HeapA.box (by repeat (first | exact CvL.nil | apply CvL.cons Cv.same)) | apply HeapA.arr)) ?_
    refine awp_ret ?_; refine seqQ_r ?_
    exact post_ret (.cell rfl zUpd rfl rfl (.tmp rfl .nil)) zKeep ⟨⟨zeroM, 13, rfl, fun h => by cases h⟩, rfl⟩
  · refine awp_skip ?_
    refine seqQ_n ?_; refine awp_seq ?_; refine zS ?_; refine zLd ?_
    refine aops_call_v zRc (rvalid24_con e (by omega)) rfl rfl ?_
    refine zNo ?_; refine zMv ?_
    all_goals first | (refine zY ?_; refine zF 0 1 false ?_) | refine zU ?_ | refine zNf ?_ | (refine zGf (fun hg => ?_) fun hg => ?_; case' _ => refine zF 0 1 false ?_)
    all_goals first | (refine zY ?_; refine zL1 ?_) | refine zU ?_ | refine zNf ?_ | (refine zGf (fun hg => ?_) fun hg => ?_; case' _ => refine zL1 ?_)
    all_goals first | (refine zY ?_; refine zF 0 1 false ?_) | refine zU ?_ | refine zNf ?_ | (refine zGf (fun hg => ?_) fun hg => ?_; case' _ => refine zF 0 1 false ?_)
    all_goals first | (refine zY ?_; refine zL1 ?_) | refine zU ?_ | refine zNf ?_ | (refine zGf (fun hg => ?_) fun hg => ?_; case' _ => refine zL1 ?_)
    all_goals first | (refine zY ?_; refine zCm ?_) | refine zU ?_ | refine zNf ?_ | (refine zGf (fun hg => ?_) fun hg => ?_; case' _ => refine zCm ?_)
    all_goals refine zPk ?_
    all_goals refine zMv ?_
    all_goals first | (refine zY ?_; refine zF 1 1 false ?_) | refine zU ?_ | refine zNf ?_ | (refine zGf (fun hg => ?_) fun hg => ?_; case' _ => refine zF 1 1 false ?_)
    all_goals first | (refine zY ?_; refine zL1 ?_) | refine zU ?_ | refine zNf ?_ | (refine zGf (fun hg => ?_) fun hg => ?_; case' _ => refine zL1 ?_)
    all_goals first | (refine zY ?_; refine zF 1 1 false ?_) | refine zU ?_ | refine zNf ?_ | (refine zGf (fun hg => ?_) fun hg => ?_; case' _ => refine zF 1 1 false ?_)
    all_goals first | (refine zY ?_; refine zL1 ?_) | refine zU ?_ | refine zNf ?_ | (refine zGf (fun hg => ?_) fun hg => ?_; case' _ => refine zL1 ?_)
    all_goals first | (refine zY ?_; refine zCm ?_) | refine zU ?_ | refine zNf ?_ | (refine zGf (fun hg => ?_) fun hg => ?_; case' _ => refine zCm ?_)
    all_goals refine zPk ?_
    all_goals (
      refine zN ?_
      refine zC (fun hc => ?_) fun hc => ?_
      · first
        | (exact absurd hc (by decide))
        | (refine awp_seq ?_
           refine awp_region ?_
           refine zP (ap_build zKr rfl zRc zFill) ?_
           refine zSt ?_; refine zAs ?_; refine zN ?_
           refine awp_unnil [4,5] 1 rfl zSelS (by apply HeapA.box (CvL.cons Cv.same (CvL.cons Cv.same (CvL.cons Cv.same (CvL.cons Cv.same (CvL.cons Cv.fz (CvL.cons Cv.same (CvL.cons Cv.same (CvL.cons Cv.same (CvL.cons Cv.same (CvL.cons Cv.same (CvL.cons Cv.same (CvL.cons Cv.same (CvL.cons Cv.same (CvL.cons Cv.same (CvL.cons Cv.same (CvL.cons Cv.same (CvL.cons Cv.same (CvL.cons Cv.same (CvL.cons Cv.same CvL.nil))))))))))))))))))); repeat (first | exact HeapA.nil | apply HeapA.box (by repeat (first | exact CvL.nil | apply CvL.cons Cv.same)) | apply HeapA.arr)) ?_
           refine awp_unnil [4,5] 3 rfl zSelS (by apply HeapA.box (CvL.cons Cv.same (CvL.cons Cv.same (CvL.cons Cv.same (CvL.cons Cv.same (CvL.cons Cv.same (CvL.cons Cv.fz (CvL.cons Cv.same (CvL.cons Cv.same (CvL.cons Cv.same (CvL.cons Cv.same (CvL.cons Cv.same (CvL.cons Cv.same (CvL.cons Cv.same (CvL.cons Cv.same (CvL.cons Cv.same (CvL.cons Cv.same (CvL.cons Cv.same (CvL.cons Cv.same (CvL.cons Cv.same CvL.nil))))))))))))))))))); repeat (first | exact HeapA.nil | apply HeapA.box (by repeat (first | exact CvL.nil | apply CvL.cons Cv.same)) | apply HeapA.arr)) ?_
           refine awp_unnil [4,5] 15 rfl zSelS (by apply HeapA.box (CvL.cons Cv.same (CvL.cons Cv.same (CvL.cons Cv.same (CvL.cons Cv.same (CvL.cons Cv.same (CvL.cons Cv.same (CvL.cons Cv.same (CvL.cons Cv.same (CvL.cons Cv.same (CvL.cons Cv.same (CvL.cons Cv.same (CvL.cons Cv.same (CvL.cons Cv.same (CvL.cons Cv.same (CvL.cons Cv.same (CvL.cons Cv.same (CvL.cons Cv.same (CvL.cons Cv.same (CvL.cons Cv.fz CvL.nil))))))))))))))))))); repeat (first | exact HeapA.nil | apply HeapA.box (by repeat (first | exact CvL.nil | apply CvL.cons Cv.same)) | apply HeapA.arr)) ?_
           refine awp_ret ?_; refine seqQ_r ?_
           exact post_ret (.cell rfl zUpd rfl rfl (.tmp rfl .nil)) zKeep ⟨⟨zeroM, 61, rfl, fun h => by cases h⟩, rfl⟩
          )
      · first
        | (exact absurd hc (by decide))
        | (refine awp_skip ?_
           refine seqQ_n ?_; refine zS ?_; refine zF 18 1 false ?_; refine zL1 ?_; refine zLd ?_
           (refine aops_call zRc (rput_con (fun x => sizeT x.t ≤ 100000 ∧ BB x.bal) m.heard (by omega) e (by omega) hI.hs (fun h => ⟨hes, (vE_BB h).1⟩)) zSplit rfl rfl ?_; rintro _ _ ⟨q, yq, rfl, ⟨hq1, hq2⟩, rfl⟩)
           refine zMv ?_
           refine zP (ap_extract rfl rfl) ?_
           refine zP (ap_extract rfl rfl) ?_
           refine zAs ?_; refine zAs ?_; refine zN ?_; refine awp_seq ?_; refine zS ?_; refine zMv ?_; refine zNo ?_; refine zN ?_
           refine zC (fun hc => ?_) fun hc => ?_
           · refine awp_seq ?_
             refine awp_region ?_
             refine zP (ap_build zKr rfl zRc zFill) ?_
             refine zSt ?_; refine zAs ?_; refine zN ?_
             refine awp_unnil [4,5] 1 rfl zSelS (by apply HeapA.box (CvL.cons Cv.same (CvL.cons Cv.same (CvL.cons Cv.same (CvL.cons Cv.same (CvL.cons Cv.fz (CvL.cons Cv.same (CvL.cons Cv.same (CvL.cons Cv.same (CvL.cons Cv.same (CvL.cons Cv.same (CvL.cons Cv.same (CvL.cons Cv.same (CvL.cons Cv.same (CvL.cons Cv.same (CvL.cons Cv.same (CvL.cons Cv.same (CvL.cons Cv.same (CvL.cons Cv.same (CvL.cons Cv.same CvL.nil))))))))))))))))))); repeat (first | exact HeapA.nil | apply HeapA.box (by repeat (first | exact CvL.nil | apply CvL.cons Cv.same)) | apply HeapA.arr)) ?_
             refine awp_unnil [4,5] 3 rfl zSelS (by apply HeapA.box (CvL.cons Cv.same (CvL.cons Cv.same (CvL.cons Cv.same (CvL.cons Cv.same (CvL.cons Cv.same (CvL.cons Cv.fz (CvL.cons Cv.same (CvL.cons Cv.same (CvL.cons Cv.same (CvL.cons Cv.same (CvL.cons Cv.same (CvL.cons Cv.same (CvL.cons Cv.same (CvL.cons Cv.same (CvL.cons Cv.same (CvL.cons Cv.same (CvL.cons Cv.same (CvL.cons Cv.same (CvL.cons Cv.same CvL.nil))))))))))))))))))); repeat (first | exact HeapA.nil | apply HeapA.box (by repeat (first | exact CvL.nil | apply CvL.cons Cv.same)) | apply HeapA.arr)) ?_
             refine awp_unnil [4,5] 15 rfl zSelS (by apply HeapA.box (CvL.cons Cv.same (CvL.cons Cv.same (CvL.cons Cv.same (CvL.cons Cv.same (CvL.cons Cv.same (CvL.cons Cv.same (CvL.cons Cv.same (CvL.cons Cv.same (CvL.cons Cv.same (CvL.cons Cv.same (CvL.cons Cv.same (CvL.cons Cv.same (CvL.cons Cv.same (CvL.cons Cv.same (CvL.cons Cv.same (CvL.cons Cv.same (CvL.cons Cv.same (CvL.cons Cv.same (CvL.cons Cv.fz CvL.nil))))))))))))))))))); repeat (first | exact HeapA.nil | apply HeapA.box (by repeat (first | exact CvL.nil | apply CvL.cons Cv.same)) | apply HeapA.arr)) ?_
             refine awp_ret ?_; refine seqQ_r ?_
             exact post_ret (.cell rfl zUpd rfl rfl (.tmp rfl .nil)) zKeep ⟨⟨zeroM, 9, rfl, fun h => by cases h⟩, rfl⟩
           · refine awp_skip ?_
             refine seqQ_n ?_; refine zS ?_; refine zLd ?_
             refine aops_alloc rfl zRc rfl rfl (fun b8 => ?_)
             refine zSt ?_; refine zN (zS ?_); refine zMv ?_; refine zF 18 1 false ?_; refine zSt ?_; refine zN (zS ?_); refine zLd ?_; refine zLd ?_
             first | (refine aops_call zRc (rnumb_con m { m with heard := q } (inv_heard hI (by omega) hq2)) zSplit rfl rfl ?_; rintro _ _ ⟨c, rfl, ⟨hcI, hch⟩, rfl⟩)
             refine zSt ?_; refine zAs ?_; refine zN ?_; refine awp_ret ?_
             have hk9 := hq1
             exact post_ret (.cell rfl zUpd rfl rfl (.tmp rfl .nil)) zKeep ⟨⟨c, 0, rfl, fun _ => ⟨hcI, by rw [hch]; first | exact hk9 | (simp only; omega)⟩⟩, rfl⟩
          )
      )
theorem tmod_bd2 (x : Int) {n : Int} (hn : 0 < n) : 0 ≤ (x.tmod n + n).tmod n ∧ (x.tmod n + n).tmod n < n := by
  have h := tmod_bd x hn
  exact ⟨Int.tmod_nonneg n (by omega), Int.tmod_lt_of_pos _ hn⟩
theorem trust5 {n : Nat} {th : Int} {q : List Int} {i2 : List Trust} (hn : n ≤ 9) (h1 : 1 ≤ th) (h2 : th ≤ q.length + i2.length) (hq : ∀ k ∈ q, 0 ≤ k ∧ k < (n : Int)) (hd : q.Nodup) (hl : q.length ≤ n) (hi : i2 = [] ∨ ∃ r : Int, (0 ≤ r ∧ r < n) ∧ i2 = [.mk 1 [r] []]) : validT (.mk th q i2) = 0 ∧ sizeT (.mk th q i2) ≤ 100 := by
  have hs : sizeT (.mk th q i2) ≤ 100 := by
    rcases hi with rfl | ⟨r, hr, rfl⟩ <;> simp [sizeT, Trust.nodes, Trust.inner, sizeL, size0] <;> omega
  refine ⟨validT_of ?_ (by omega) (check_node h1 (by exact h2) (fun k hk => by have := hq k hk; omega) hd ?_), hs⟩
  · rcases hi with rfl | ⟨r, hr, rfl⟩ <;> simp [depthT, Trust.inner, depthL, depth0]
  · rcases hi with rfl | ⟨r, hr, rfl⟩
    · exact fun x h => absurd h List.not_mem_nil
    · intro x hx
      obtain rfl : x = .mk 1 [r] [] := by simpa using hx
      exact check_leaf (by omega)
theorem SNew_con (l : List Int) : Con Tryz.prog 8 [.sl 1 (l.map .i)] [] (fun d H => ∃ b, d = .p b 0 ∧ H = [.box b 54 [.sl 1 ((l.take 800).map .i), .i ((0 : Nat) : Int)]]) := by
  have hcap : capB = 140737488355328 := rfl
  have hl1 : (l.map D.i).length = l.length := by simp
  refine con_intro Tryz.func8 rfl Tryz.call8 rfl ?_
  refine zS ?_; refine zAs ?_; refine zN (zS ?_); refine zMv ?_; refine zMv ?_
  first | refine aops_len rfl rfl rfl rfl (fun _ => ?_) | refine zP (ap_len_arr rfl zUpd rfl) ?_ | refine zP (ap_len_nil rfl rfl) ?_
  refine zP (ap_min rfl rfl) ?_
  refine zP (ap_slice_to (k := min l.length 800) rfl rfl rfl rfl (by simp only [List.length_map]; omega) (by simp only [List.length_map]; omega)) ?_; rw [← List.map_take]
  refine zP (ap_build zKr rfl zRc zFill) ?_
  refine aops_box rfl zFlat rfl rfl (fun b9 => ?_)
  refine zAs ?_; refine zN ?_; refine awp_ret ?_
  have e : l.take 800 = l.take (min l.length 800) := by rw [Nat.min_comm]; exact List.take_eq_take_min
  rw [e]
  refine post_ret (.tmp rfl .nil) zKeep ⟨_, rfl, rfl⟩
theorem SN_con (b : Nat) (l : List Int) (a : Nat) (n : Int) (hn : 1 ≤ n ∧ n ≤ 4611686018427387904) : Con Tryz.prog 23 [.p b 0, .i n] [.box b 54 [.sl 1 (l.map .i), .i ((a : Nat) : Int)]] (fun d H => ∃ (r : Int) (a' : Nat), d = .i r ∧ (0 ≤ r ∧ r < n) ∧ H = [.box b 54 [.sl 1 (l.map .i), .i ((a' : Nat) : Int)]]) := by
  have hcap : capB = 140737488355328 := rfl
  have hl1 : (l.map D.i).length = l.length := by simp
  refine con_intro Tryz.func23 rfl Tryz.call23 rfl ?_
  refine zS ?_; refine zAs ?_; refine zN ?_; refine awp_seq ?_; refine awp_seq ?_
  refine awp_draw (Hm := []) zKr zSplit ?_
  refine zT 0 rfl (AP.ar (ap_move rfl)) ?_
  first | refine zT 1 rfl (AP.ar (ap_nilCheck rfl)) ?_ | refine zT 1 rfl (AP.ar (ap_nilCheck_el rfl)) ?_
  refine zTF 2 1 1 false ?_; refine zTL 3 ?_
  refine zT 4 rfl (AP.ar (ap_move rfl)) ?_
  first | refine zT 5 rfl (AP.ar (ap_nilCheck rfl)) ?_ | refine zT 5 rfl (AP.ar (ap_nilCheck_el rfl)) ?_
  refine zTF 6 0 1 false ?_; refine zTL 7 ?_
  first | refine zT 8 rfl (AP.ar (ap_len rfl rfl)) ?_ | refine zT 8 rfl (ar_len_arr rfl zUpd rfl) ?_ | refine zT 8 rfl (AP.ar (ap_len_nil rfl rfl)) ?_
  refine zT 9 rfl (AP.ar (ap_cmp rfl rfl rfl)) ?_
  refine zT 10 rfl (AP.ar (ap_move rfl)) ?_
  refine aany_guard 10 rfl (fun hg => ?_) (fun hg => ?_)
  rotate_left
  case' _ =>
    refine zT 11 rfl (AP.ar (ap_move rfl)) ?_
    refine zT 12 rfl (AP.ar (ap_cmp rfl rfl rfl)) ?_
    refine zTp 13 ?_; refine aany_nil zKr ?_
  rotate_right
  case' _ =>
    refine zK 11 ?_; refine zK 12 ?_; refine zTp 13 ?_; refine aany_nil zKr ?_
  all_goals (
    refine seqQ_n ?_
    refine zC (fun hc => ?_) fun hc => ?_
    · first
      | (exact absurd hc (by decide))
      | (first | (have h18 := of_decide_eq_true hc) | (have h18 := hc)
         refine zS ?_; refine zAs ?_; refine zN ?_; refine awp_ret ?_; refine seqQ_r ?_
         refine post_ret (.tmp rfl .nil) zKeep ⟨_, _, rfl, ?_, rfl⟩
         omega
        )
    · first
      | (exact absurd hc (by decide))
      | (have h17 := of_decide_eq_false hc
         have h15 := of_decide_eq_false hg
         have hlt : a < l.length := by omega
         obtain ⟨x, hx, _⟩ := drop_cons hlt
         have hx' := getMap D.i hx
         have hn0 : n ≠ 0 := by omega
         have hm := tmod_bd x (show 0 < n by omega)
         refine awp_skip ?_; refine seqQ_n ?_; refine zS ?_
         refine aops_fact (t := 12) rfl rfl (fun hlen => ?_); refine zMv ?_
         first | refine zP (ap_nilCheck rfl) ?_ | refine zP (ap_nilCheck_el rfl) ?_
         refine zF 1 1 false ?_; refine zL1 ?_; refine zAr ?_
         first | refine zP (ap_nilCheck rfl) ?_ | refine zP (ap_nilCheck_el rfl) ?_
         refine zF 1 1 false ?_; refine zSt ?_; refine zN ?_; refine awp_seq ?_
         refine awp_draw (Hm := []) zKr zSplit ?_
         refine zT 0 rfl (AP.ar (ap_move rfl)) ?_
         first | refine zT 1 rfl (AP.ar (ap_nilCheck rfl)) ?_ | refine zT 1 rfl (AP.ar (ap_nilCheck_el rfl)) ?_
         refine zTF 2 0 1 false ?_; refine zTL 3 ?_
         refine zT 4 rfl (AP.ar (ap_move rfl)) ?_
         first | refine zT 5 rfl (AP.ar (ap_nilCheck rfl)) ?_ | refine zT 5 rfl (AP.ar (ap_nilCheck_el rfl)) ?_
         refine zTF 6 1 1 false ?_; refine zTL 7 ?_
         refine zT 8 rfl (AP.ar (ap_arith rfl rfl rfl (by omega))) ?_
         refine zT 9 rfl (AP.ar (ap_index (k := a) rfl rfl rfl rfl (by decide) (by omega) hx')) ?_
         refine zTL 10 ?_
         refine zT 11 rfl (AP.ar (ap_move rfl)) ?_
         refine zT 12 rfl (AP.ar (ap_rem rfl rfl (by omega))) ?_
         refine zT 13 rfl (AP.ar (ap_move rfl)) ?_
         refine zT 14 rfl (AP.ar (ap_arith rfl rfl rfl (by omega))) ?_
         refine zT 15 rfl (AP.ar (ap_move rfl)) ?_
         refine zT 16 rfl (AP.ar (ap_rem rfl rfl (by omega))) ?_
         refine zT 17 rfl (AP.ar (ap_assign rfl)) ?_
         refine aany_nil zKr ?_
         all_goals (
           refine seqQ_n ?_; refine awp_ret ?_
           refine post_ret (.tmp rfl .nil) zKeep ⟨_, a + 1, rfl, ?_, rfl⟩
           exact tmod_bd2 _ (by omega)
           )
        )
    )
theorem SRange_con (b : Nat) (l : List Int) (a : Nat) (x y : Int) (h : x ≤ y ∧ -1000000 ≤ x ∧ y ≤ 1000000000) : Con Tryz.prog 11 [.p b 0, .i x, .i y] [.box b 54 [.sl 1 (l.map .i), .i ((a : Nat) : Int)]] (fun d H => ∃ (r : Int) (a' : Nat), d = .i r ∧ (x ≤ r ∧ r ≤ y) ∧ H = [.box b 54 [.sl 1 (l.map .i), .i ((a' : Nat) : Int)]]) := by
  have hcap : capB = 140737488355328 := rfl
  refine con_intro Tryz.func11 rfl Tryz.call11 rfl ?_
  refine zS ?_; refine zAs ?_; refine zN (zS ?_); refine zMv ?_; refine zMv ?_; refine zMv ?_; refine zMv ?_; refine zAr ?_; refine zAr ?_
  (refine aops_call zRc (SN_con _ _ _ _ (by omega)) zSplit rfl rfl ?_; rintro _ _ ⟨r13, a13, rfl, hr13, rfl⟩)
  refine zAr ?_; refine zAs ?_; refine zN ?_; refine awp_ret ?_
  refine post_ret (.tmp rfl .nil) zKeep ⟨_, _, rfl, ?_, rfl⟩
  omega
theorem pick4 {s0 s1 s2 s3 : Str} (h : s0.size ≤ 200 ∧ s1.size ≤ 200 ∧ s2.size ≤ 200 ∧ s3.size ≤ 200) {j : Nat} (hj : j < 4) : ∃ v : Str, ([.v (.string s0), .v (.string s1), .v (.string s2), .v (.string s3)] : List D)[j]? = some (.v (.string v)) ∧ v.size ≤ 200 := by
  match j, hj with
  | 0, _ => exact ⟨s0, rfl, h.1⟩
  | 1, _ => exact ⟨s1, rfl, h.2.1⟩
  | 2, _ => exact ⟨s2, rfl, h.2.2.1⟩
  | 3, _ => exact ⟨s3, rfl, h.2.2.2⟩
theorem SText_con (b : Nat) (l : List Int) (a : Nat) (s0 s1 s2 s3 : Str) (h : s0.size ≤ 200 ∧ s1.size ≤ 200 ∧ s2.size ≤ 200 ∧ s3.size ≤ 200) : Con Tryz.prog 49 [.p b 0, .sl 1 [.v (.string s0), .v (.string s1), .v (.string s2), .v (.string s3)]] [.box b 54 [.sl 1 (l.map .i), .i ((a : Nat) : Int)]] (fun d H => ∃ (v : Str) (a' : Nat), d = .v (.string v) ∧ v.size ≤ 200 ∧ H = [.box b 54 [.sl 1 (l.map .i), .i ((a' : Nat) : Int)]]) := by
  have hcap : capB = 140737488355328 := rfl
  refine con_intro Tryz.func49 rfl Tryz.call49 rfl ?_
  refine zS ?_; refine zAs ?_; refine zN (zS ?_); refine zMv ?_; refine zMv ?_; refine zMv ?_
  first | refine aops_len rfl rfl rfl rfl (fun _ => ?_) | refine zP (ap_len_arr rfl zUpd rfl) ?_ | refine zP (ap_len_nil rfl rfl) ?_
  (refine aops_call zRc (SN_con _ _ _ 4 (by omega)) zSplit rfl rfl ?_; rintro _ _ ⟨r9, a9, rfl, hr9, rfl⟩)
  obtain ⟨j, rfl⟩ := Int.eq_ofNat_of_zero_le hr9.1; obtain ⟨v, hx', hv⟩ := pick4 h (j := j) (by omega); refine zP (ap_index (k := j) rfl rfl rfl rfl (by decide) rfl hx') ?_
  refine zL1 ?_; refine zAs ?_; refine zN ?_; refine awp_ret ?_
  refine post_ret (.tmp rfl .nil) zKeep ⟨_, _, rfl, hv, rfl⟩
theorem SValue_con (b : Nat) (l : List Int) (a : Nat) : Con Tryz.prog 25 [.p b 0] [.box b 54 [.sl 1 (l.map .i), .i ((a : Nat) : Int)]] (fun d H => ∃ (v : Str) (a' : Nat), d = .v (.string v) ∧ v.size ≤ 200 ∧ H = [.box b 54 [.sl 1 (l.map .i), .i ((a' : Nat) : Int)]]) := by
  have hcap : capB = 140737488355328 := rfl
  refine con_intro Tryz.func25 rfl Tryz.call25 rfl ?_
  refine zS ?_; refine zAs ?_; refine zN (zS ?_); refine zMv ?_
  refine aops_lit (e := 9) (sz := 1) (by_ := 16) rfl rfl zRc rfl rfl rfl rfl ?_
  (refine aops_call zRc (SText_con _ _ _ _ _ _ _ (by decide)) zSplit rfl rfl ?_; rintro _ _ ⟨v, a5, rfl, hv, rfl⟩)
  refine zAs ?_; refine zN ?_; refine awp_ret ?_
  refine post_ret (.tmp rfl .nil) zKeep ⟨_, _, rfl, hv, rfl⟩
theorem SLow_con (b : Nat) (l : List Int) (a : Nat) : Con Tryz.prog 52 [.p b 0] [.box b 54 [.sl 1 (l.map .i), .i ((a : Nat) : Int)]] (fun d H => ∃ (x : Bal) (a' : Nat), d = bv x ∧ H = [.box b 54 [.sl 1 (l.map .i), .i ((a' : Nat) : Int)]]) := by
  have hcap : capB = 140737488355328 := rfl
  refine con_intro Tryz.func52 rfl Tryz.call52 rfl ?_
  refine zS ?_
  refine aops_alloc rfl zRc rfl rfl (fun b2 => ?_)
  refine zN (zS ?_); refine zMv ?_
  (refine aops_call zRc (SRange_con _ _ _ _ _ (by omega)) zSplit rfl rfl ?_; rintro _ _ ⟨r4, a4, rfl, hr4, rfl⟩)
  refine zMv ?_
  (refine aops_call zRc (SValue_con _ _ _) zSplit rfl rfl ?_; rintro _ _ ⟨v6, a6, rfl, hv6, rfl⟩)
  refine zP (ap_build zKr rfl zRc zFill) ?_
  refine zSt ?_; refine zN ?_; refine awp_ret ?_
  exact post_ret (.cell rfl zUpd rfl rfl .nil) zKeep ⟨⟨r4, v6⟩, _, rfl, rfl⟩
set_option maxHeartbeats 2000000 in
theorem STrust_con (b n : Nat) (l : List Int) (hn : 1 ≤ n ∧ n ≤ 9) (a : Nat) : Con Tryz.prog 22 [.p b 0, .i n] [.box b 54 [.sl 1 (l.map .i), .i ((a : Nat) : Int)]] (fun d H => ∃ (t : Trust) (a' : Nat), d = av t ∧ (validT t = 0 ∧ sizeT t ≤ 100) ∧ H = [.box b 54 [.sl 1 (l.map .i), .i ((a' : Nat) : Int)]]) := by
  have hcap : capB = 140737488355328 := rfl
  refine con_intro Tryz.func22 rfl Tryz.call22 rfl ?_
  refine zS ?_
  refine aops_alloc rfl zRc rfl rfl (fun b4 => ?_)
  refine zN (zS ?_)
  refine aops_alloc rfl zRc rfl rfl (fun b5 => ?_)
  refine zN ?_; refine awp_seq ?_; refine zS ?_; refine zAs ?_; refine zN ?_; refine awp_block ?_
  refine awp_loop4 [0, 1, 4, 5] [.box b4 _ _] (fun (k : Nat) (v : Value) (q : List Int) (a : Nat) r => (6, .i (k : Int)) :: r) (fun (k : Nat) (v : Value) (q : List Int) (a : Nat) r => .box b5 27 [.i 0, .v v, .nil] :: .arr v 3 1 (q.map .i) :: .box b 54 [.sl 1 (l.map .i), .i ((a : Nat) : Int)] :: r) (fun (k : Nat) (v : Value) (q : List Int) (a : Nat) => k ≤ n ∧ q.length ≤ k ∧ (∀ x ∈ q, 0 ≤ x ∧ x < (k : Int)) ∧ q.Nodup) (fun (k : Nat) (v : Value) (q : List Int) (a : Nat) => n - k) (0) (.slice none 0 0) ([]) (a) zRc ⟨by omega, by simp, by simp, by simp⟩ ((wk_own 3 1 rfl).trans (wk zSub zKeep)) ?_
  intro k v q a ⟨hk, hql, hqm, hqd⟩
  have hml : (q.map D.i).length = q.length := by simp
  refine awp_seq ?_; refine zS ?_; refine zMv ?_; refine zMv ?_; refine zCm ?_; refine zN ?_
  refine zC (fun hc => ?_) fun hc => ?_
  · have hlt := of_decide_eq_true hc
    refine awp_skip ?_; refine seqQ_n ?_; refine awp_seq ?_; refine awp_block ?_; refine zS ?_; refine zMv ?_
    (refine aops_call zRc (SN_con _ _ _ _ (by omega)) zSplit rfl rfl ?_; rintro _ _ ⟨r14, a14, rfl, hr14, rfl⟩)
    refine zCm ?_; refine zN ?_
    refine zC (fun hc => ?_) fun hc => ?_
    · refine awp_region ?_
      refine zF 1 1 false ?_; refine zL1 ?_; refine zMv ?_
      refine aops_lit (e := 3) (sz := 1) (by_ := 8) rfl rfl zRc rfl rfl rfl rfl ?_
      first | refine aops_append (e := 3) (sz := 1) (by_ := 8) rfl zUpd rfl rfl rfl rfl rfl zLen (fun v20 hv20 => ?_) | refine aops_append_nil (e := 3) (sz := 1) (by_ := 8) rfl rfl rfl rfl rfl rfl zLen (fun v20 hv20 => ?_)
      refine zF 1 1 false ?_; refine zSt ?_; refine aops_nil ?_; refine blockQ_n ?_; refine seqQ_n ?_; refine awp_region ?_; refine zMv ?_; refine zAr ?_; refine zAs ?_; refine zN ?_
      first | (rw [mapi_snoc]; refine ⟨k + 1, _, q ++ [(k : Int)], _, ⟨by omega, by simp only [List.length_append, List.length_cons, List.length_nil]; omega, snoc_mem (fun y hy => by have := hqm y hy; omega) (by omega), nodup_snoc hqd (fun y hy => (hqm y hy).2) (by omega)⟩, by omega, wk zSub zKeep⟩) | refine ⟨k + 1, _, q, _, ⟨by omega, by omega, fun y hy => by have := hqm y hy; omega, hqd⟩, by omega, wk zSub zKeep⟩
    · refine awp_skip ?_
      refine blockQ_n ?_; refine seqQ_n ?_; refine awp_region ?_; refine zMv ?_; refine zAr ?_; refine zAs ?_; refine zN ?_
      first | (rw [mapi_snoc]; refine ⟨k + 1, _, q ++ [(k : Int)], _, ⟨by omega, by simp only [List.length_append, List.length_cons, List.length_nil]; omega, snoc_mem (fun y hy => by have := hqm y hy; omega) (by omega), nodup_snoc hqd (fun y hy => (hqm y hy).2) (by omega)⟩, by omega, wk zSub zKeep⟩) | refine ⟨k + 1, _, q, _, ⟨by omega, by omega, fun y hy => by have := hqm y hy; omega, hqd⟩, by omega, wk zSub zKeep⟩
  · refine awp_exit ?_
    refine seqQ_x ?_; refine seqQ_x ?_; refine blockQ_x rfl ?_; refine seqQ_n ?_; refine awp_seq ?_; refine zS ?_; refine zF 1 1 false ?_; refine zL1 ?_
    first | refine aops_len rfl rfl rfl rfl (fun _ => ?_) | refine zP (ap_len_arr rfl zUpd rfl) ?_ | refine zP (ap_len_nil rfl rfl) ?_
    refine zCm ?_; refine zN ?_
    refine zC (fun hc => ?_) fun hc => ?_
    rotate_left
    case' _ =>
      obtain ⟨p, hp⟩ : ∃ p : List Int, p = q := ⟨_, rfl⟩
      have hpl : 1 ≤ p.length ∧ p.length ≤ n := by have := of_decide_eq_false hc; rw [hp]; omega
      have hpd : p.Nodup := by rw [hp]; exact hqd
      have hpm : ∀ x ∈ p, 0 ≤ x ∧ x < (n : Int) := fun y hy => by have := hqm y (hp ▸ hy); omega
      refine awp_skip ?_
    rotate_right
    case' _ =>
      refine awp_region ?_; refine zMv ?_; refine zMv ?_
      (refine aops_call zRc (SN_con _ _ _ _ (by omega)) zSplit rfl rfl ?_; rintro _ _ ⟨r28, a28, rfl, hr28, rfl⟩; obtain ⟨p, hp⟩ : ∃ p : List Int, p = [r28] := ⟨_, rfl⟩; have hpl : 1 ≤ p.length ∧ p.length ≤ n := (by rw [hp]; simp; omega); have hpd : p.Nodup := (by rw [hp]; simp); have hpm : ∀ x ∈ p, 0 ≤ x ∧ x < (n : Int) := (by rw [hp]; simp; omega))
      refine aops_lit (e := 3) (sz := 1) (by_ := 8) rfl rfl zRc rfl rfl rfl rfl ?_
      refine zF 1 1 false ?_; refine zSt ?_; refine aops_nil ?_
    all_goals (
      refine seqQ_n ?_; refine awp_seq ?_; refine awp_seq ?_
      refine awp_freeze v [0,1,4,5] zRem zSelC zHeapA ?_
      first | (rw [show [D.i r28] = p.map D.i from by rw [hp]; rfl]) | rw [← hp]
      have hml2 : (p.map D.i).length = p.length := by simp
      refine awp_region ?_; refine zMv ?_
      (refine aops_call zRc (SN_con _ _ _ _ (by omega)) zSplit rfl rfl ?_; rintro _ _ ⟨r32, a32, rfl, hr32, rfl⟩)
      refine zCm ?_; refine zN ?_
      refine zC (fun hc => ?_) fun hc => ?_
      rotate_left
      case' _ =>
        have mk33f : True := trivial
        refine awp_skip ?_
      rotate_right
      case' _ =>
        have mk33t : True := trivial
        refine awp_draw (Hm := [.box b _ _, .box b5 _ _]) zKr zSplit ?_
        refine zTF 0 2 1 false ?_
        refine zT 2 rfl (AP.ar (ap_move rfl)) ?_
        refine zT 3 rfl (AP.ar (ap_move rfl)) ?_
        refine aany_each2 1 4 zKr rfl (.none rfl) ?_ rfl (.none rfl) ?_
        rotate_left
        case' _ =>
          (refine aops_call zRc (SN_con _ _ _ _ (by omega)) zSplit rfl rfl ?_; rintro _ _ ⟨r38, a38, rfl, hr38, rfl⟩)
          refine aops_nil ?_
          refine aany_each2 1 5 zKr rfl (.none rfl) ?_ rfl (.none rfl) ?_
          rotate_left
          case' _ =>
            refine aops_lit (e := 3) (sz := 1) (by_ := 8) rfl rfl zRc rfl rfl rfl rfl ?_
            refine aops_nil ?_
            refine zT 6 rfl (AP.ar (ap_build zKr rfl zRc zFill)) ?_
            refine aany_each2 1 7 zKr rfl (.none rfl) ?_ rfl (.none rfl) ?_
            rotate_left
            case' _ =>
              first | (refine aops_unnil [0,1,4,5,34,35,40] 3 rfl rfl (by repeat (first | exact SelC.nil | apply SelC.cons rfl (Cv.agg (CvL.cons Cv.same (CvL.cons Cv.same (CvL.cons Cv.fz CvL.nil)))) | apply SelC.cons rfl Cv.same)) zHeapS ?_; refine aops_lit (e := 27) (sz := 3) (by_ := 56) rfl rfl zRc rfl rfl rfl rfl ?_) | (refine aops_unnil [0,1,4,5,34,40] 3 rfl rfl (by repeat (first | exact SelC.nil | apply SelC.cons rfl (Cv.agg (CvL.cons Cv.same (CvL.cons Cv.same (CvL.cons Cv.fz CvL.nil)))) | apply SelC.cons rfl Cv.same)) zHeapS ?_; refine aops_lit (e := 27) (sz := 3) (by_ := 56) rfl rfl zRc rfl rfl rfl rfl ?_)
              refine aops_nil ?_
              refine aany_one 1 zKr rfl (.none rfl) ?_
              refine zL1 ?_; refine aops_nil ?_
              refine aany_one 8 zKr rfl (.none rfl) ?_
              first | refine aops_append (e := 27) (sz := 3) (by_ := 56) rfl zUpd rfl rfl rfl rfl rfl zLen (fun v42 hv42 => ?_) | refine aops_append_nil (e := 27) (sz := 3) (by_ := 56) rfl rfl rfl rfl rfl rfl zLen (fun v42 hv42 => ?_)
              refine aops_nil ?_; refine zTF 9 2 1 false ?_
              refine aany_one 10 zKr rfl (.none rfl) ?_
              refine zSt ?_; refine aops_nil ?_; refine aany_nil zKr ?_
            rotate_right
            case' _ =>
              refine zL1 ?_; refine aops_nil ?_
              refine aany_one 7 zKr rfl (.none rfl) ?_
              first | (refine aops_unnil [0,1,4,5,34,35,40] 3 rfl rfl (by repeat (first | exact SelC.nil | apply SelC.cons rfl (Cv.agg (CvL.cons Cv.same (CvL.cons Cv.same (CvL.cons Cv.fz CvL.nil)))) | apply SelC.cons rfl Cv.same)) zHeapS ?_; refine aops_lit (e := 27) (sz := 3) (by_ := 56) rfl rfl zRc rfl rfl rfl rfl ?_) | (refine aops_unnil [0,1,4,5,34,40] 3 rfl rfl (by repeat (first | exact SelC.nil | apply SelC.cons rfl (Cv.agg (CvL.cons Cv.same (CvL.cons Cv.same (CvL.cons Cv.fz CvL.nil)))) | apply SelC.cons rfl Cv.same)) zHeapS ?_; refine aops_lit (e := 27) (sz := 3) (by_ := 56) rfl rfl zRc rfl rfl rfl rfl ?_)
              refine aops_nil ?_
              refine aany_one 8 zKr rfl (.none rfl) ?_
              first | refine aops_append (e := 27) (sz := 3) (by_ := 56) rfl zUpd rfl rfl rfl rfl rfl zLen (fun v42 hv42 => ?_) | refine aops_append_nil (e := 27) (sz := 3) (by_ := 56) rfl rfl rfl rfl rfl rfl zLen (fun v42 hv42 => ?_)
              refine aops_nil ?_; refine zTF 9 2 1 false ?_
              refine aany_one 10 zKr rfl (.none rfl) ?_
              refine zSt ?_; refine aops_nil ?_; refine aany_nil zKr ?_
          rotate_right
          case' _ =>
            refine zL1 ?_; refine aops_nil ?_
            refine aany_one 5 zKr rfl (.none rfl) ?_
            refine aops_lit (e := 3) (sz := 1) (by_ := 8) rfl rfl zRc rfl rfl rfl rfl ?_
            refine aops_nil ?_
            refine zT 6 rfl (AP.ar (ap_build zKr rfl zRc zFill)) ?_
            refine aany_one 7 zKr rfl (.none rfl) ?_
            first | (refine aops_unnil [0,1,4,5,34,35,40] 3 rfl rfl (by repeat (first | exact SelC.nil | apply SelC.cons rfl (Cv.agg (CvL.cons Cv.same (CvL.cons Cv.same (CvL.cons Cv.fz CvL.nil)))) | apply SelC.cons rfl Cv.same)) zHeapS ?_; refine aops_lit (e := 27) (sz := 3) (by_ := 56) rfl rfl zRc rfl rfl rfl rfl ?_) | (refine aops_unnil [0,1,4,5,34,40] 3 rfl rfl (by repeat (first | exact SelC.nil | apply SelC.cons rfl (Cv.agg (CvL.cons Cv.same (CvL.cons Cv.same (CvL.cons Cv.fz CvL.nil)))) | apply SelC.cons rfl Cv.same)) zHeapS ?_; refine aops_lit (e := 27) (sz := 3) (by_ := 56) rfl rfl zRc rfl rfl rfl rfl ?_)
            refine aops_nil ?_
            refine aany_one 8 zKr rfl (.none rfl) ?_
            first | refine aops_append (e := 27) (sz := 3) (by_ := 56) rfl zUpd rfl rfl rfl rfl rfl zLen (fun v42 hv42 => ?_) | refine aops_append_nil (e := 27) (sz := 3) (by_ := 56) rfl rfl rfl rfl rfl rfl zLen (fun v42 hv42 => ?_)
            refine aops_nil ?_; refine zTF 9 2 1 false ?_
            refine aany_one 10 zKr rfl (.none rfl) ?_
            refine zSt ?_; refine aops_nil ?_; refine aany_nil zKr ?_
        rotate_right
        case' _ =>
          refine zL1 ?_; refine aops_nil ?_
          refine aany_one 4 zKr rfl (.none rfl) ?_
          (refine aops_call zRc (SN_con _ _ _ _ (by omega)) zSplit rfl rfl ?_; rintro _ _ ⟨r38, a38, rfl, hr38, rfl⟩)
          refine aops_nil ?_
          refine aany_one 5 zKr rfl (.none rfl) ?_
          refine aops_lit (e := 3) (sz := 1) (by_ := 8) rfl rfl zRc rfl rfl rfl rfl ?_
          refine aops_nil ?_
          refine zT 6 rfl (AP.ar (ap_build zKr rfl zRc zFill)) ?_
          refine aany_one 7 zKr rfl (.none rfl) ?_
          first | (refine aops_unnil [0,1,4,5,34,35,40] 3 rfl rfl (by repeat (first | exact SelC.nil | apply SelC.cons rfl (Cv.agg (CvL.cons Cv.same (CvL.cons Cv.same (CvL.cons Cv.fz CvL.nil)))) | apply SelC.cons rfl Cv.same)) zHeapS ?_; refine aops_lit (e := 27) (sz := 3) (by_ := 56) rfl rfl zRc rfl rfl rfl rfl ?_) | (refine aops_unnil [0,1,4,5,34,40] 3 rfl rfl (by repeat (first | exact SelC.nil | apply SelC.cons rfl (Cv.agg (CvL.cons Cv.same (CvL.cons Cv.same (CvL.cons Cv.fz CvL.nil)))) | apply SelC.cons rfl Cv.same)) zHeapS ?_; refine aops_lit (e := 27) (sz := 3) (by_ := 56) rfl rfl zRc rfl rfl rfl rfl ?_)
          refine aops_nil ?_
          refine aany_one 8 zKr rfl (.none rfl) ?_
          first | refine aops_append (e := 27) (sz := 3) (by_ := 56) rfl zUpd rfl rfl rfl rfl rfl zLen (fun v42 hv42 => ?_) | refine aops_append_nil (e := 27) (sz := 3) (by_ := 56) rfl rfl rfl rfl rfl rfl zLen (fun v42 hv42 => ?_)
          refine aops_nil ?_; refine zTF 9 2 1 false ?_
          refine aany_one 10 zKr rfl (.none rfl) ?_
          refine zSt ?_; refine aops_nil ?_; refine aany_nil zKr ?_
      all_goals (
        refine seqQ_n ?_; refine awp_seq ?_
        first | (have := mk33t; refine awp_freeze v42 [0,4,5] zRem zSelC zHeapA ?_; obtain ⟨i2, hi2, hii⟩ : ∃ i2 : List Trust, (i2 = [] ∨ ∃ r : Int, (0 ≤ r ∧ r < n) ∧ i2 = [.mk 1 [r] []]) ∧ i2 = [.mk 1 [r38] []] := ⟨_, .inr ⟨r38, hr38, rfl⟩, rfl⟩; rw [show [D.agg [.i 1, .sl 1 [.i r38], .sl 3 []]] = avs i2 from by rw [hii]; rfl]) | (have := mk33f; refine awp_unnil [0,4,5] 3 rfl zSelC zHeapA ?_; obtain ⟨i2, hi2, hii⟩ : ∃ i2 : List Trust, (i2 = [] ∨ ∃ r : Int, (0 ≤ r ∧ r < n) ∧ i2 = [.mk 1 [r] []]) ∧ i2 = [] := ⟨_, .inl rfl, rfl⟩; rw [show D.sl 3 [] = D.sl 3 (avs i2) from by rw [hii]; rfl])
        have hil : i2.length ≤ 1 := by rcases hi2 with h | ⟨r, _, h⟩ <;> rw [h] <;> simp
        have hal := avs_len i2
        refine awp_region ?_; refine zF 1 1 false ?_; refine zL1 ?_
        first | refine aops_len rfl rfl rfl rfl (fun _ => ?_) | refine zP (ap_len_arr rfl zUpd rfl) ?_ | refine zP (ap_len_nil rfl rfl) ?_
        refine zF 2 1 false ?_; refine zL1 ?_
        first | refine aops_len rfl rfl rfl rfl (fun _ => ?_) | refine zP (ap_len_arr rfl zUpd rfl) ?_ | refine zP (ap_len_nil rfl rfl) ?_
        refine zAr ?_; refine zAs ?_; refine zN (zS ?_); refine zMv ?_; refine zMv ?_; refine zAr ?_
        refine zP (ap_quon rfl rfl (by omega)) ?_
        refine zMv ?_
        (refine aops_call zRc (SRange_con _ _ _ _ _ (by omega)) zSplit rfl rfl ?_; rintro _ _ ⟨r56, a56, rfl, hr56, rfl⟩)
        refine zF 0 1 false ?_; refine zSt ?_; refine zN ?_; refine awp_seq ?_; refine zS ?_; refine zMv ?_
        (refine aops_call zRc (SN_con _ _ _ _ (by omega)) zSplit rfl rfl ?_; rintro _ _ ⟨r59, a59, rfl, hr59, rfl⟩)
        refine zCm ?_; refine zN ?_
        refine zC (fun hc => ?_) fun hc => ?_
        rotate_left
        case' _ =>
          refine awp_skip ?_
        rotate_right
        case' _ =>
          refine awp_region ?_; refine zF 0 1 false ?_; refine zSt ?_; refine aops_nil ?_
        all_goals (
          refine seqQ_n ?_; refine zS ?_; refine zLd ?_; refine zSt ?_; refine zN ?_; refine awp_ret ?_
          first | exact post_ret (.cell rfl zUpd rfl rfl .nil) zKeep ⟨.mk 1 p i2, _, rfl, trust5 hn.2 (by omega) (by omega) hpm hpd hpl.2 hi2, rfl⟩ | exact post_ret (.cell rfl zUpd rfl rfl .nil) zKeep ⟨.mk r56 p i2, _, rfl, trust5 hn.2 (by omega) (by omega) hpm hpd hpl.2 hi2, rfl⟩
          )
        )
      )
theorem rvalidx {node slot seq kind n1 n2 n3 lo hi : Int} {t : Trust} {w1 w2 w3 : Str} (hs : sizeT t ≤ 100) : Con Tryz.prog 50 [.agg [.i node, .i slot, .i seq, .i t.th, .sl 1 (t.nodes.map .i), .sl 3 (avs t.inner), .i kind, .i n1, .v (.string w1), .i n2, .v (.string w2), .i n3, .v (.string w3), .i lo, .i hi]] [] (fun d H => ∃ c : Bool, d = .b c ∧ H = []) := by
  have h := rvalid24_con ⟨node, slot, seq, t, kind, ⟨n1, w1⟩, ⟨n2, w2⟩, ⟨n3, w3⟩, lo, hi⟩ (by show sizeT t ≤ _; omega)
  exact h.mono fun d H ⟨h1, h2⟩ => ⟨_, h1, h2⟩
theorem ev_ret {node slot seq kind n1 n2 n3 lo hi : Int} {t : Trust} {w1 w2 w3 : Str} {l : List Int} {b a : Nat} (hs : sizeT t ≤ 100) : ∃ (x : Evp) (a' : Nat), D.agg [.i node, .i slot, .i seq, .i t.th, .sl 1 (t.nodes.map .i), .sl 3 (avs t.inner), .i kind, .i n1, .v (.string w1), .i n2, .v (.string w2), .i n3, .v (.string w3), .i lo, .i hi] = ev x ∧ sizeT x.t ≤ 100 ∧ ([.box b 54 [.sl 1 (l.map .i), .i ((a : Nat) : Int)]] : Heap) = [.box b 54 [.sl 1 (l.map .i), .i ((a' : Nat) : Int)]] :=
  ⟨⟨node, slot, seq, t, kind, ⟨n1, w1⟩, ⟨n2, w2⟩, ⟨n3, w3⟩, lo, hi⟩, a, rfl, hs, rfl⟩
set_option maxHeartbeats 2000000 in
theorem SEnv_con (b : Nat) (l : List Int) (a : Nat) (node slot : Int) (n : Nat) (hn : 1 ≤ n ∧ n ≤ 9) : Con Tryz.prog 28 [.p b 0, .i node, .i slot, .i n] [.box b 54 [.sl 1 (l.map .i), .i ((a : Nat) : Int)]] (fun d H => ∃ (x : Evp) (a' : Nat), d = ev x ∧ sizeT x.t ≤ 100 ∧ H = [.box b 54 [.sl 1 (l.map .i), .i ((a' : Nat) : Int)]]) := by
  have hcap : capB = 140737488355328 := rfl
  refine con_intro Tryz.func28 rfl Tryz.call28 rfl ?_
  refine zS ?_
  refine aops_alloc rfl zRc rfl rfl (fun b8 => ?_)
  refine zN (zS ?_); refine zMv ?_; refine zMv ?_; refine zMv ?_
  (refine aops_call zRc (SRange_con _ _ _ _ _ (by omega)) zSplit rfl rfl ?_; rintro _ _ ⟨r14, a14, rfl, hr14, rfl⟩)
  refine zMv ?_; refine zMv ?_
  (refine aops_call zRc (STrust_con _ _ _ (by omega) _) zSplit rfl rfl ?_; rintro _ _ ⟨t17, a17, rfl, ht17, rfl⟩)
  refine zP (ap_build zKr rfl zRc zFill) ?_
  refine aops_alloc rfl zRc rfl rfl (fun b9 => ?_)
  refine zSt ?_; refine zN (zS ?_); refine zMv ?_
  (refine aops_call zRc (SValue_con _ _ _) zSplit rfl rfl ?_; rintro _ _ ⟨v20, a20, rfl, hv20, rfl⟩)
  refine zAs ?_; refine zN ?_; refine awp_seq ?_; refine zS ?_; refine zMv ?_
  (refine aops_call zRc (SN_con _ _ _ _ (by omega)) zSplit rfl rfl ?_; rintro _ _ ⟨r22, a22, rfl, hr22, rfl⟩)
  refine zN ?_; refine awp_block ?_; refine awp_seq ?_; refine awp_block ?_; refine awp_seq ?_; refine awp_block ?_; refine awp_seq ?_; refine awp_block ?_; refine awp_seq ?_; refine awp_seq ?_; refine zS ?_; refine zCm ?_; refine zAs ?_; refine zN ?_
  refine zC (fun hc => ?_) fun hc => ?_
  · refine awp_exit ?_
    refine seqQ_x ?_; refine seqQ_x ?_; refine blockQ_x rfl ?_; refine seqQ_n ?_; refine awp_seq ?_; refine zS ?_; refine zMv ?_
    (refine aops_call zRc (SRange_con _ _ _ _ _ (by omega)) zSplit rfl rfl ?_; rintro _ _ ⟨r28, a28, rfl, hr28, rfl⟩)
    refine zMv ?_
    refine zP (ap_build zKr rfl zRc zFill) ?_
    refine zF 6 1 false ?_; refine zSt ?_; refine zF 7 2 true ?_; refine zSt ?_; refine zN (zS ?_); refine zMv ?_
    (refine aops_call zRc (SRange_con _ _ _ _ _ (by omega)) zSplit rfl rfl ?_; rintro _ _ ⟨r34, a34, rfl, hr34, rfl⟩)
    refine zF 13 1 false ?_; refine zSt ?_; refine zN ?_; refine awp_seq ?_
    refine awp_draw (Hm := [.box b _ _, .box b9 _ _]) zKr zSplit ?_
    refine zTF 0 13 1 false ?_
    refine zT 2 rfl (AP.ar (ap_move rfl)) ?_
    refine aany_each2 1 3 zKr rfl (.none rfl) ?_ rfl (.none rfl) ?_
    rotate_left
    case' _ =>
      (refine aops_call zRc (SN_con _ _ _ _ (by omega)) zSplit rfl rfl ?_; rintro _ _ ⟨r39, a39, rfl, hr39, rfl⟩)
      refine aops_nil ?_
      refine aany_one 1 zKr rfl (.none rfl) ?_
      refine zL1 ?_; refine aops_nil ?_
      refine zT 4 rfl (AP.ar (ap_arith rfl rfl rfl (by omega))) ?_
      refine zTF 5 14 1 false ?_
      refine aany_one 6 zKr rfl (.none rfl) ?_
      refine zSt ?_; refine aops_nil ?_; refine aany_nil zKr ?_
    rotate_right
    case' _ =>
      refine zL1 ?_; refine aops_nil ?_
      refine aany_one 3 zKr rfl (.none rfl) ?_
      (refine aops_call zRc (SN_con _ _ _ _ (by omega)) zSplit rfl rfl ?_; rintro _ _ ⟨r39, a39, rfl, hr39, rfl⟩)
      refine aops_nil ?_
      refine zT 4 rfl (AP.ar (ap_arith rfl rfl rfl (by omega))) ?_
      refine zTF 5 14 1 false ?_
      refine aany_one 6 zKr rfl (.none rfl) ?_
      refine zSt ?_; refine aops_nil ?_; refine aany_nil zKr ?_
    all_goals (
      refine seqQ_n ?_
      refine awp_draw (Hm := [.box b _ _, .box b9 _ _]) zKr zSplit ?_
      refine zTF 0 14 1 false ?_
      refine zT 2 rfl (AP.ar (ap_move rfl)) ?_
      refine zT 5 rfl (AP.ar (ap_move rfl)) ?_
      refine aany_each2 1 3 zKr rfl (.none rfl) ?_ rfl (.none rfl) ?_
      rotate_left
      case' _ =>
        (refine aops_call zRc (SN_con _ _ _ _ (by omega)) zSplit rfl rfl ?_; rintro _ _ ⟨r45, a45, rfl, hr45, rfl⟩)
        refine aops_nil ?_
        refine aany_one 1 zKr rfl (.none rfl) ?_
        refine zL1 ?_; refine aops_nil ?_
        refine zT 4 rfl (AP.ar (ap_arith rfl rfl rfl (by omega))) ?_
        refine zT 6 rfl (AP.ar (ap_build zKr rfl zRc zFill)) ?_
        refine zTF 7 9 2 true ?_
        refine aany_one 8 zKr rfl (.none rfl) ?_
        refine zSt ?_; refine aops_nil ?_; refine aany_nil zKr ?_
      rotate_right
      case' _ =>
        refine zL1 ?_; refine aops_nil ?_
        refine aany_one 3 zKr rfl (.none rfl) ?_
        (refine aops_call zRc (SN_con _ _ _ _ (by omega)) zSplit rfl rfl ?_; rintro _ _ ⟨r45, a45, rfl, hr45, rfl⟩)
        refine aops_nil ?_
        refine zT 4 rfl (AP.ar (ap_arith rfl rfl rfl (by omega))) ?_
        refine zT 6 rfl (AP.ar (ap_build zKr rfl zRc zFill)) ?_
        refine zTF 7 9 2 true ?_
        refine aany_one 8 zKr rfl (.none rfl) ?_
        refine zSt ?_; refine aops_nil ?_; refine aany_nil zKr ?_
      all_goals (
        refine seqQ_n ?_; refine awp_exit ?_; refine blockQ_y rfl ?_; refine seqQ_x ?_; refine blockQ_y rfl ?_; refine seqQ_x ?_; refine blockQ_x rfl ?_; refine seqQ_n ?_; refine zS ?_; refine zLd ?_; refine zSt ?_; refine zN ?_; refine awp_ret ?_
        exact post_ret (.cell rfl zUpd rfl rfl .nil) zKeep (ev_ret ht17.2)
        )
      )
  · refine awp_skip ?_
    refine seqQ_n ?_; refine zS ?_; refine zCm ?_; refine zAs ?_; refine zN ?_
    refine zC (fun hc => ?_) fun hc => ?_
    · refine awp_exit ?_
      refine seqQ_x ?_; refine blockQ_y rfl ?_; refine seqQ_x ?_; refine blockQ_x rfl ?_; refine seqQ_n ?_; refine zS ?_; refine zMv ?_
      (refine aops_call zRc (SN_con _ _ _ _ (by omega)) zSplit rfl rfl ?_; rintro _ _ ⟨r51, a51, rfl, hr51, rfl⟩)
      refine zCm ?_; refine zN ?_
      refine zC (fun hc => ?_) fun hc => ?_
      · refine awp_seq ?_
        refine awp_region ?_; refine zMv ?_
        (refine aops_call zRc (SRange_con _ _ _ _ _ (by omega)) zSplit rfl rfl ?_; rintro _ _ ⟨r54, a54, rfl, hr54, rfl⟩)
        refine zMv ?_
        refine zP (ap_build zKr rfl zRc zFill) ?_
        refine zF 6 1 false ?_; refine zSt ?_; refine zF 7 2 true ?_; refine zSt ?_; refine zN (zS ?_); refine zMv ?_
        (refine aops_call zRc (SRange_con _ _ _ _ _ (by omega)) zSplit rfl rfl ?_; rintro _ _ ⟨r60, a60, rfl, hr60, rfl⟩)
        refine zF 13 1 false ?_; refine zSt ?_; refine zN ?_; refine awp_seq ?_
        refine awp_draw (Hm := [.box b _ _, .box b9 _ _]) zKr zSplit ?_
        refine zTF 0 13 1 false ?_
        refine zT 2 rfl (AP.ar (ap_move rfl)) ?_
        refine aany_each2 1 3 zKr rfl (.none rfl) ?_ rfl (.none rfl) ?_
        rotate_left
        case' _ =>
          (refine aops_call zRc (SN_con _ _ _ _ (by omega)) zSplit rfl rfl ?_; rintro _ _ ⟨r65, a65, rfl, hr65, rfl⟩)
          refine aops_nil ?_
          refine aany_one 1 zKr rfl (.none rfl) ?_
          refine zL1 ?_; refine aops_nil ?_
          refine zT 4 rfl (AP.ar (ap_arith rfl rfl rfl (by omega))) ?_
          refine zTF 5 14 1 false ?_
          refine aany_one 6 zKr rfl (.none rfl) ?_
          refine zSt ?_; refine aops_nil ?_; refine aany_nil zKr ?_
        rotate_right
        case' _ =>
          refine zL1 ?_; refine aops_nil ?_
          refine aany_one 3 zKr rfl (.none rfl) ?_
          (refine aops_call zRc (SN_con _ _ _ _ (by omega)) zSplit rfl rfl ?_; rintro _ _ ⟨r65, a65, rfl, hr65, rfl⟩)
          refine aops_nil ?_
          refine zT 4 rfl (AP.ar (ap_arith rfl rfl rfl (by omega))) ?_
          refine zTF 5 14 1 false ?_
          refine aany_one 6 zKr rfl (.none rfl) ?_
          refine zSt ?_; refine aops_nil ?_; refine aany_nil zKr ?_
        all_goals (
          refine seqQ_n ?_; refine awp_exit ?_; refine blockQ_y rfl ?_; refine seqQ_x ?_; refine blockQ_x rfl ?_; refine seqQ_n ?_; refine zS ?_; refine zLd ?_; refine zSt ?_; refine zN ?_; refine awp_ret ?_
          exact post_ret (.cell rfl zUpd rfl rfl .nil) zKeep (ev_ret ht17.2)
          )
      · refine awp_skip ?_
        refine blockQ_n ?_; refine seqQ_n ?_; refine awp_seq ?_; refine zS ?_; refine zMv ?_
        (refine aops_call zRc (SRange_con _ _ _ _ _ (by omega)) zSplit rfl rfl ?_; rintro _ _ ⟨r69, a69, rfl, hr69, rfl⟩)
        refine zMv ?_
        refine zP (ap_build zKr rfl zRc zFill) ?_
        refine zF 6 1 false ?_; refine zSt ?_; refine zF 7 2 true ?_; refine zSt ?_; refine zN ?_; refine awp_seq ?_; refine zS ?_; refine zMv ?_
        (refine aops_call zRc (SN_con _ _ _ _ (by omega)) zSplit rfl rfl ?_; rintro _ _ ⟨r75, a75, rfl, hr75, rfl⟩)
        refine zCm ?_; refine zN ?_
        refine zC (fun hc => ?_) fun hc => ?_
        · refine awp_seq ?_
          refine awp_region ?_; refine zMv ?_
          (refine aops_call zRc (SLow_con _ _ _) zSplit rfl rfl ?_; rintro _ _ ⟨x78, a78, rfl, rfl⟩)
          refine zF 9 2 true ?_; refine zSt ?_; refine zN (zS ?_); refine zMv ?_
          (refine aops_call zRc (SN_con _ _ _ _ (by omega)) zSplit rfl rfl ?_; rintro _ _ ⟨r81, a81, rfl, hr81, rfl⟩)
          refine zCm ?_; refine zN ?_
          refine zC (fun hc => ?_) fun hc => ?_
          rotate_left
          case' _ =>
            refine awp_skip ?_
          rotate_right
          case' _ =>
            refine awp_region ?_; refine zMv ?_
            (refine aops_call zRc (SLow_con _ _ _) zSplit rfl rfl ?_; rintro _ _ ⟨x84, a84, rfl, rfl⟩)
            refine zF 11 2 true ?_; refine zSt ?_; refine aops_nil ?_
          all_goals (
            refine seqQ_n ?_; refine zS ?_; refine zMv ?_; refine zF 7 2 true ?_; refine zF 0 1 false ?_; refine zL1 ?_; refine zAr ?_
            (refine aops_call zRc (SN_con _ _ _ _ (by omega)) zSplit rfl rfl ?_; rintro _ _ ⟨r91, a91, rfl, hr91, rfl⟩)
            refine zF 14 1 false ?_; refine zSt ?_; refine zN (zS ?_); refine zMv ?_; refine zF 14 1 false ?_; refine zL1 ?_; refine zAr ?_
            (refine aops_call zRc (SN_con _ _ _ _ (by omega)) zSplit rfl rfl ?_; rintro _ _ ⟨r97, a97, rfl, hr97, rfl⟩)
            refine zF 13 1 false ?_; refine zSt ?_; refine zN ?_; refine awp_seq ?_; refine zS ?_; refine zLd ?_
            (refine aops_call zRc (rvalidx ht17.2) zSplit rfl rfl ?_; rintro _ _ ⟨c100, rfl, rfl⟩)
            refine zNo ?_; refine zN ?_
            refine zC (fun hc => ?_) fun hc => ?_
            rotate_left
            case' _ =>
              refine awp_skip ?_
            rotate_right
            case' _ =>
              refine awp_region ?_; refine zF 13 1 false ?_; refine zSt ?_; refine aops_nil ?_
            all_goals (
              refine seqQ_n ?_; refine awp_seq ?_; refine zS ?_; refine zLd ?_
              (refine aops_call zRc (rvalidx ht17.2) zSplit rfl rfl ?_; rintro _ _ ⟨c104, rfl, rfl⟩)
              refine zNo ?_; refine zN ?_
              refine zC (fun hc => ?_) fun hc => ?_
              rotate_left
              case' _ =>
                refine awp_skip ?_
              rotate_right
              case' _ =>
                refine awp_region ?_; refine zF 14 1 false ?_; refine zSt ?_; refine aops_nil ?_
              all_goals (
                refine seqQ_n ?_; refine zS ?_; refine zLd ?_
                (refine aops_call zRc (rvalidx ht17.2) zSplit rfl rfl ?_; rintro _ _ ⟨c108, rfl, rfl⟩)
                refine zNo ?_; refine zN ?_
                refine zC (fun hc => ?_) fun hc => ?_
                rotate_left
                case' _ =>
                  refine awp_skip ?_
                rotate_right
                case' _ =>
                  refine awp_region ?_
                  refine zP (ap_build zKr rfl zRc zFill) ?_
                  refine zF 11 2 true ?_; refine zSt ?_; refine aops_nil ?_
                all_goals (
                  refine seqQ_n ?_; refine awp_exit ?_; refine blockQ_x rfl ?_; refine seqQ_n ?_; refine zS ?_; refine zLd ?_; refine zSt ?_; refine zN ?_; refine awp_ret ?_
                  exact post_ret (.cell rfl zUpd rfl rfl .nil) zKeep (ev_ret ht17.2)
                  )
                )
              )
            )
        · refine awp_skip ?_
          refine seqQ_n ?_; refine zS ?_; refine zMv ?_; refine zF 7 2 true ?_; refine zF 0 1 false ?_; refine zL1 ?_; refine zAr ?_
          (refine aops_call zRc (SN_con _ _ _ _ (by omega)) zSplit rfl rfl ?_; rintro _ _ ⟨r91, a91, rfl, hr91, rfl⟩)
          refine zF 14 1 false ?_; refine zSt ?_; refine zN (zS ?_); refine zMv ?_; refine zF 14 1 false ?_; refine zL1 ?_; refine zAr ?_
          (refine aops_call zRc (SN_con _ _ _ _ (by omega)) zSplit rfl rfl ?_; rintro _ _ ⟨r97, a97, rfl, hr97, rfl⟩)
          refine zF 13 1 false ?_; refine zSt ?_; refine zN ?_; refine awp_seq ?_; refine zS ?_; refine zLd ?_
          (refine aops_call zRc (rvalidx ht17.2) zSplit rfl rfl ?_; rintro _ _ ⟨c100, rfl, rfl⟩)
          refine zNo ?_; refine zN ?_
          refine zC (fun hc => ?_) fun hc => ?_
          rotate_left
          case' _ =>
            refine awp_skip ?_
          rotate_right
          case' _ =>
            refine awp_region ?_; refine zF 13 1 false ?_; refine zSt ?_; refine aops_nil ?_
          all_goals (
            refine seqQ_n ?_; refine awp_seq ?_; refine zS ?_; refine zLd ?_
            (refine aops_call zRc (rvalidx ht17.2) zSplit rfl rfl ?_; rintro _ _ ⟨c104, rfl, rfl⟩)
            refine zNo ?_; refine zN ?_
            refine zC (fun hc => ?_) fun hc => ?_
            rotate_left
            case' _ =>
              refine awp_skip ?_
            rotate_right
            case' _ =>
              refine awp_region ?_; refine zF 14 1 false ?_; refine zSt ?_; refine aops_nil ?_
            all_goals (
              refine seqQ_n ?_; refine zS ?_; refine zLd ?_
              (refine aops_call zRc (rvalidx ht17.2) zSplit rfl rfl ?_; rintro _ _ ⟨c108, rfl, rfl⟩)
              refine zNo ?_; refine zN ?_
              refine zC (fun hc => ?_) fun hc => ?_
              rotate_left
              case' _ =>
                refine awp_skip ?_
              rotate_right
              case' _ =>
                refine awp_region ?_
                refine zP (ap_build zKr rfl zRc zFill) ?_
                refine zF 11 2 true ?_; refine zSt ?_; refine aops_nil ?_
              all_goals (
                refine seqQ_n ?_; refine awp_exit ?_; refine blockQ_x rfl ?_; refine seqQ_n ?_; refine zS ?_; refine zLd ?_; refine zSt ?_; refine zN ?_; refine awp_ret ?_
                exact post_ret (.cell rfl zUpd rfl rfl .nil) zKeep (ev_ret ht17.2)
                )
              )
            )
    · refine awp_skip ?_
      refine seqQ_n ?_; refine awp_exit ?_; refine blockQ_y rfl ?_; refine seqQ_x ?_; refine blockQ_y rfl ?_; refine seqQ_x ?_; refine blockQ_x rfl ?_; refine seqQ_n ?_; refine awp_seq ?_; refine zS ?_; refine zMv ?_
      (refine aops_call zRc (SRange_con _ _ _ _ _ (by omega)) zSplit rfl rfl ?_; rintro _ _ ⟨r69, a69, rfl, hr69, rfl⟩)
      refine zMv ?_
      refine zP (ap_build zKr rfl zRc zFill) ?_
      refine zF 6 1 false ?_; refine zSt ?_; refine zF 7 2 true ?_; refine zSt ?_; refine zN ?_; refine awp_seq ?_; refine zS ?_; refine zMv ?_
      (refine aops_call zRc (SN_con _ _ _ _ (by omega)) zSplit rfl rfl ?_; rintro _ _ ⟨r75, a75, rfl, hr75, rfl⟩)
      refine zCm ?_; refine zN ?_
      refine zC (fun hc => ?_) fun hc => ?_
      · refine awp_seq ?_
        refine awp_region ?_; refine zMv ?_
        (refine aops_call zRc (SLow_con _ _ _) zSplit rfl rfl ?_; rintro _ _ ⟨x78, a78, rfl, rfl⟩)
        refine zF 9 2 true ?_; refine zSt ?_; refine zN (zS ?_); refine zMv ?_
        (refine aops_call zRc (SN_con _ _ _ _ (by omega)) zSplit rfl rfl ?_; rintro _ _ ⟨r81, a81, rfl, hr81, rfl⟩)
        refine zCm ?_; refine zN ?_
        refine zC (fun hc => ?_) fun hc => ?_
        rotate_left
        case' _ =>
          refine awp_skip ?_
        rotate_right
        case' _ =>
          refine awp_region ?_; refine zMv ?_
          (refine aops_call zRc (SLow_con _ _ _) zSplit rfl rfl ?_; rintro _ _ ⟨x84, a84, rfl, rfl⟩)
          refine zF 11 2 true ?_; refine zSt ?_; refine aops_nil ?_
        all_goals (
          refine seqQ_n ?_; refine zS ?_; refine zMv ?_; refine zF 7 2 true ?_; refine zF 0 1 false ?_; refine zL1 ?_; refine zAr ?_
          (refine aops_call zRc (SN_con _ _ _ _ (by omega)) zSplit rfl rfl ?_; rintro _ _ ⟨r91, a91, rfl, hr91, rfl⟩)
          refine zF 14 1 false ?_; refine zSt ?_; refine zN (zS ?_); refine zMv ?_; refine zF 14 1 false ?_; refine zL1 ?_; refine zAr ?_
          (refine aops_call zRc (SN_con _ _ _ _ (by omega)) zSplit rfl rfl ?_; rintro _ _ ⟨r97, a97, rfl, hr97, rfl⟩)
          refine zF 13 1 false ?_; refine zSt ?_; refine zN ?_; refine awp_seq ?_; refine zS ?_; refine zLd ?_
          (refine aops_call zRc (rvalidx ht17.2) zSplit rfl rfl ?_; rintro _ _ ⟨c100, rfl, rfl⟩)
          refine zNo ?_; refine zN ?_
          refine zC (fun hc => ?_) fun hc => ?_
          rotate_left
          case' _ =>
            refine awp_skip ?_
          rotate_right
          case' _ =>
            refine awp_region ?_; refine zF 13 1 false ?_; refine zSt ?_; refine aops_nil ?_
          all_goals (
            refine seqQ_n ?_; refine awp_seq ?_; refine zS ?_; refine zLd ?_
            (refine aops_call zRc (rvalidx ht17.2) zSplit rfl rfl ?_; rintro _ _ ⟨c104, rfl, rfl⟩)
            refine zNo ?_; refine zN ?_
            refine zC (fun hc => ?_) fun hc => ?_
            rotate_left
            case' _ =>
              refine awp_skip ?_
            rotate_right
            case' _ =>
              refine awp_region ?_; refine zF 14 1 false ?_; refine zSt ?_; refine aops_nil ?_
            all_goals (
              refine seqQ_n ?_; refine zS ?_; refine zLd ?_
              (refine aops_call zRc (rvalidx ht17.2) zSplit rfl rfl ?_; rintro _ _ ⟨c108, rfl, rfl⟩)
              refine zNo ?_; refine zN ?_
              refine zC (fun hc => ?_) fun hc => ?_
              rotate_left
              case' _ =>
                refine awp_skip ?_
              rotate_right
              case' _ =>
                refine awp_region ?_
                refine zP (ap_build zKr rfl zRc zFill) ?_
                refine zF 11 2 true ?_; refine zSt ?_; refine aops_nil ?_
              all_goals (
                refine seqQ_n ?_; refine awp_exit ?_; refine blockQ_x rfl ?_; refine seqQ_n ?_; refine zS ?_; refine zLd ?_; refine zSt ?_; refine zN ?_; refine awp_ret ?_
                exact post_ret (.cell rfl zUpd rfl rfl .nil) zKeep (ev_ret ht17.2)
                )
              )
            )
          )
      · refine awp_skip ?_
        refine seqQ_n ?_; refine zS ?_; refine zMv ?_; refine zF 7 2 true ?_; refine zF 0 1 false ?_; refine zL1 ?_; refine zAr ?_
        (refine aops_call zRc (SN_con _ _ _ _ (by omega)) zSplit rfl rfl ?_; rintro _ _ ⟨r91, a91, rfl, hr91, rfl⟩)
        refine zF 14 1 false ?_; refine zSt ?_; refine zN (zS ?_); refine zMv ?_; refine zF 14 1 false ?_; refine zL1 ?_; refine zAr ?_
        (refine aops_call zRc (SN_con _ _ _ _ (by omega)) zSplit rfl rfl ?_; rintro _ _ ⟨r97, a97, rfl, hr97, rfl⟩)
        refine zF 13 1 false ?_; refine zSt ?_; refine zN ?_; refine awp_seq ?_; refine zS ?_; refine zLd ?_
        (refine aops_call zRc (rvalidx ht17.2) zSplit rfl rfl ?_; rintro _ _ ⟨c100, rfl, rfl⟩)
        refine zNo ?_; refine zN ?_
        refine zC (fun hc => ?_) fun hc => ?_
        rotate_left
        case' _ =>
          refine awp_skip ?_
        rotate_right
        case' _ =>
          refine awp_region ?_; refine zF 13 1 false ?_; refine zSt ?_; refine aops_nil ?_
        all_goals (
          refine seqQ_n ?_; refine awp_seq ?_; refine zS ?_; refine zLd ?_
          (refine aops_call zRc (rvalidx ht17.2) zSplit rfl rfl ?_; rintro _ _ ⟨c104, rfl, rfl⟩)
          refine zNo ?_; refine zN ?_
          refine zC (fun hc => ?_) fun hc => ?_
          rotate_left
          case' _ =>
            refine awp_skip ?_
          rotate_right
          case' _ =>
            refine awp_region ?_; refine zF 14 1 false ?_; refine zSt ?_; refine aops_nil ?_
          all_goals (
            refine seqQ_n ?_; refine zS ?_; refine zLd ?_
            (refine aops_call zRc (rvalidx ht17.2) zSplit rfl rfl ?_; rintro _ _ ⟨c108, rfl, rfl⟩)
            refine zNo ?_; refine zN ?_
            refine zC (fun hc => ?_) fun hc => ?_
            rotate_left
            case' _ =>
              refine awp_skip ?_
            rotate_right
            case' _ =>
              refine awp_region ?_
              refine zP (ap_build zKr rfl zRc zFill) ?_
              refine zF 11 2 true ?_; refine zSt ?_; refine aops_nil ?_
            all_goals (
              refine seqQ_n ?_; refine awp_exit ?_; refine blockQ_x rfl ?_; refine seqQ_n ?_; refine zS ?_; refine zLd ?_; refine zSt ?_; refine zN ?_; refine awp_ret ?_
              exact post_ret (.cell rfl zUpd rfl rfl .nil) zKeep (ev_ret ht17.2)
              )
            )
          )
theorem inv_new {t : Trust} (h : sizeT t ≤ 100) : InvM (newM 0 1 t) where
  ph := .inl rfl
  bal := BB_none
  baln := by show (0 : Int) ≤ 1000; omega
  prep := BB_none
  prime := BB_none
  conf := BB_none
  confn := by show (0 : Int) ≤ 1000; omega
  low := by show (0 : Int) ≤ 0 ∧ (0 : Int) ≤ 1000; omega
  high := by show (0 : Int) ≤ 0 ∧ (0 : Int) ≤ 1000; omega
  prop := by show noS.size ≤ 200; decide
  sz := by show sizeT t ≤ 100000; omega
  hl := by show (0 : Nat) ≤ 20; omega
  hs := fun e he => absurd he List.not_mem_nil
theorem STrust5_con (b : Nat) (l : List Int) (a : Nat) : Con Tryz.prog 22 [.p b 0, .i 5] [.box b 54 [.sl 1 (l.map .i), .i ((a : Nat) : Int)]] (fun d H => ∃ (t : Trust) (a' : Nat), d = av t ∧ (validT t = 0 ∧ sizeT t ≤ 100) ∧ H = [.box b 54 [.sl 1 (l.map .i), .i ((a' : Nat) : Int)]]) := STrust_con b 5 l (by omega) a
theorem SEnv5_con (b : Nat) (l : List Int) (a : Nat) (node slot : Int) : Con Tryz.prog 28 [.p b 0, .i node, .i slot, .i 5] [.box b 54 [.sl 1 (l.map .i), .i ((a : Nat) : Int)]] (fun d H => ∃ (x : Evp) (a' : Nat), d = ev x ∧ sizeT x.t ≤ 100 ∧ H = [.box b 54 [.sl 1 (l.map .i), .i ((a' : Nat) : Int)]]) := SEnv_con b l a node slot 5 (by omega)
set_option maxHeartbeats 4000000 in
theorem made_con (b : Nat) (l : List Int) (a : Nat) : Con Tryz.prog 9 [.p b 0] [.box b 54 [.sl 1 (l.map .i), .i ((a : Nat) : Int)]] (fun d H => ∃ (m : Mach) (a' : Nat), d = mcv m ∧ (InvM m ∧ m.heard.length ≤ 7) ∧ H = [.box b 54 [.sl 1 (l.map .i), .i ((a' : Nat) : Int)]]) := by
  have hcap : capB = 140737488355328 := rfl
  refine con_intro Tryz.func9 rfl Tryz.call9 rfl ?_
  refine zS ?_
  refine aops_alloc rfl zRc rfl rfl (fun b2 => ?_)
  refine zN (zS ?_); refine zMv ?_
  (refine aops_call zRc (STrust5_con _ _ _) zSplit rfl rfl ?_; rintro _ _ ⟨t10, a10, rfl, ht10, rfl⟩)
  refine aops_call_v zRc (rnew_con 0 1 (by omega) (by omega) t10 (by omega) ht10.1) rfl rfl ?_
  refine zMv ?_
  refine zP (ap_extract rfl rfl) ?_
  refine zP (ap_extract rfl rfl) ?_
  refine aops_alloc rfl zRc rfl rfl (fun b3 => ?_)
  refine zSt ?_; refine zAs ?_; refine zN ?_; refine awp_seq ?_; refine zS ?_; refine zMv ?_
  (refine aops_call zRc (SN_con _ _ _ _ (by omega)) zSplit rfl rfl ?_; rintro _ _ ⟨r15, a15, rfl, hr15, rfl⟩)
  refine zAs ?_; refine zN ?_; refine awp_block ?_
  refine awp_loop3 [0, 2, 3] [.box b2 _ _] (fun (n : Int) (m : Mach) (a : Nat) r => (5, .i n) :: r) (fun (n : Int) (m : Mach) (a : Nat) r => .box b3 32 [.i m.node, .i m.slot, .i m.seq, .i m.t.th, .sl 1 (m.t.nodes.map .i), .sl 3 (avs m.t.inner), .i m.phase, .i m.bal.n, .v (.string m.bal.v), .i m.prep.n, .v (.string m.prep.v), .i m.prime.n, .v (.string m.prime.v), .i m.conf.n, .v (.string m.conf.v), .i m.low, .i m.high, .v (.string m.prop), .sl 15 (m.heard.map ev)] :: .box b 54 [.sl 1 (l.map .i), .i ((a : Nat) : Int)] :: r) (fun (n : Int) (m : Mach) (a : Nat) => 0 ≤ n ∧ (InvM m ∧ m.heard.length + n ≤ 7)) (fun (n : Int) (m : Mach) (a : Nat) => n.toNat) (r15) (newM 0 1 t10) (a15) zRc ⟨by omega, inv_new ht10.2, by show ((0 : Nat) : Int) + r15 ≤ 7; omega⟩ (wk zSub zKeep) ?_
  intro n m a ⟨hn, hI, hl7⟩
  refine awp_seq ?_; refine zS ?_; refine zMv ?_; refine zCm ?_; refine zN ?_
  refine zC (fun hc => ?_) fun hc => ?_
  · have hlt := of_decide_eq_true hc
    refine awp_skip ?_; refine seqQ_n ?_; refine awp_seq ?_; refine awp_block ?_; refine zS ?_
    refine aops_alloc rfl zRc rfl rfl (fun b6 => ?_)
    refine zN (zS ?_); refine zAs ?_; refine zN ?_; refine awp_seq ?_; refine zS ?_; refine zMv ?_
    (refine aops_call zRc (SN_con _ _ _ _ (by omega)) zSplit rfl rfl ?_; rintro _ _ ⟨r21, a21, rfl, hr21, rfl⟩)
    refine zN ?_; refine awp_block ?_; refine zS ?_; refine zCm ?_; refine zAs ?_; refine zN ?_
    refine zC (fun hc => ?_) fun hc => ?_
    · refine awp_draw (Hm := [.box b _ _, .box b6 _ _, .box b3 _ _]) zKr zSplit ?_
      refine zT 1 rfl (AP.ar (ap_move rfl)) ?_
      refine aany_each2 0 2 zKr rfl (.none rfl) ?_ rfl (.none rfl) ?_
      rotate_left
      case' _ =>
        (refine aops_call zRc (SValue_con _ _ _) zSplit rfl rfl ?_; rintro _ _ ⟨v36, a36, rfl, hv36, rfl⟩)
        refine aops_nil ?_
        refine aany_one 0 zKr rfl (.none rfl) ?_
        refine zLd ?_; refine aops_nil ?_
        refine aany_one 3 zKr rfl (.none rfl) ?_
        (refine aops_call zRc (rpropose_con m hI v36) zSplit rfl rfl ?_; rintro _ _ ⟨⟨y, e, rfl, hy⟩, rfl⟩)
        refine aops_nil ?_
        refine zT 4 rfl (AP.ar (ap_move rfl)) ?_
        refine zT 5 rfl (AP.ar (ap_extract rfl rfl)) ?_
        refine zT 6 rfl (AP.ar (ap_extract rfl rfl)) ?_
        refine aany_one 7 zKr rfl (.none rfl) ?_
        refine zSt ?_; refine aops_nil ?_
        refine zT 8 rfl (AP.ar (ap_assign rfl)) ?_
        refine aany_nil zKr ?_
      rotate_right
      case' _ =>
        refine zLd ?_; refine aops_nil ?_
        refine aany_one 2 zKr rfl (.none rfl) ?_
        (refine aops_call zRc (SValue_con _ _ _) zSplit rfl rfl ?_; rintro _ _ ⟨v36, a36, rfl, hv36, rfl⟩)
        refine aops_nil ?_
        refine aany_one 3 zKr rfl (.none rfl) ?_
        (refine aops_call zRc (rpropose_con m hI v36) zSplit rfl rfl ?_; rintro _ _ ⟨⟨y, e, rfl, hy⟩, rfl⟩)
        refine aops_nil ?_
        refine zT 4 rfl (AP.ar (ap_move rfl)) ?_
        refine zT 5 rfl (AP.ar (ap_extract rfl rfl)) ?_
        refine zT 6 rfl (AP.ar (ap_extract rfl rfl)) ?_
        refine aany_one 7 zKr rfl (.none rfl) ?_
        refine zSt ?_; refine aops_nil ?_
        refine zT 8 rfl (AP.ar (ap_assign rfl)) ?_
        refine aany_nil zKr ?_
      all_goals (
        refine blockQ_n ?_; refine seqQ_n ?_; refine zS ?_; refine zMv ?_; refine zCm ?_; refine zN ?_
        refine zC (fun hc => ?_) fun hc => ?_
        · refine awp_region ?_
          refine zLd ?_; refine zSt ?_; refine aops_nil ?_; refine blockQ_n ?_; refine seqQ_n ?_; refine awp_region ?_; refine zMv ?_; refine zAr ?_; refine zAs ?_; refine zN ?_
          first | (refine ⟨n - 1, y, _, ⟨by omega, (hy (of_decide_eq_true hc)).1, by have := (hy (of_decide_eq_true hc)).2; omega⟩, by omega, wk zSub zKeep⟩) | (refine ⟨n - 1, m, _, ⟨by omega, hI, by omega⟩, by omega, wk zSub zKeep⟩)
        · refine awp_skip ?_
          refine blockQ_n ?_; refine seqQ_n ?_; refine awp_region ?_; refine zMv ?_; refine zAr ?_; refine zAs ?_; refine zN ?_
          first | (refine ⟨n - 1, y, _, ⟨by omega, (hy (of_decide_eq_true hc)).1, by have := (hy (of_decide_eq_true hc)).2; omega⟩, by omega, wk zSub zKeep⟩) | (refine ⟨n - 1, m, _, ⟨by omega, hI, by omega⟩, by omega, wk zSub zKeep⟩)
        )
    · refine awp_seq ?_
      refine awp_region ?_; refine zCm ?_; refine zAs ?_; refine zN ?_
      refine zC (fun hc => ?_) fun hc => ?_
      · refine awp_region ?_
        refine zLd ?_
        (refine aops_call zRc (rtimeout_con m hI) zSplit rfl rfl ?_; rintro _ _ ⟨⟨y, e, rfl, hy⟩, rfl⟩)
        refine zMv ?_
        refine zP (ap_extract rfl rfl) ?_
        refine zP (ap_extract rfl rfl) ?_
        refine zSt ?_; refine zAs ?_; refine aops_nil ?_; refine blockQ_n ?_; refine seqQ_n ?_; refine zS ?_; refine zMv ?_; refine zCm ?_; refine zN ?_
        refine zC (fun hc => ?_) fun hc => ?_
        · refine awp_region ?_
          refine zLd ?_; refine zSt ?_; refine aops_nil ?_; refine blockQ_n ?_; refine seqQ_n ?_; refine awp_region ?_; refine zMv ?_; refine zAr ?_; refine zAs ?_; refine zN ?_
          first | (refine ⟨n - 1, y, _, ⟨by omega, (hy (of_decide_eq_true hc)).1, by have := (hy (of_decide_eq_true hc)).2; omega⟩, by omega, wk zSub zKeep⟩) | (refine ⟨n - 1, m, _, ⟨by omega, hI, by omega⟩, by omega, wk zSub zKeep⟩)
        · refine awp_skip ?_
          refine blockQ_n ?_; refine seqQ_n ?_; refine awp_region ?_; refine zMv ?_; refine zAr ?_; refine zAs ?_; refine zN ?_
          first | (refine ⟨n - 1, y, _, ⟨by omega, (hy (of_decide_eq_true hc)).1, by have := (hy (of_decide_eq_true hc)).2; omega⟩, by omega, wk zSub zKeep⟩) | (refine ⟨n - 1, m, _, ⟨by omega, hI, by omega⟩, by omega, wk zSub zKeep⟩)
      · refine awp_draw (Hm := [.box b _ _, .box b6 _ _, .box b3 _ _]) zKr zSplit ?_
        refine zT 1 rfl (AP.ar (ap_move rfl)) ?_
        refine zT 2 rfl (AP.ar (ap_move rfl)) ?_
        refine aany_each2 0 3 zKr rfl (.none rfl) ?_ rfl (.none rfl) ?_
        rotate_left
        case' _ =>
          (refine aops_call zRc (SRange_con _ _ _ _ _ (by omega)) zSplit rfl rfl ?_; rintro _ _ ⟨r26, a26, rfl, hr26, rfl⟩)
          refine aops_nil ?_
          refine aany_each2 0 4 zKr rfl (.none rfl) ?_ rfl (.none rfl) ?_
          rotate_left
          case' _ =>
            (refine aops_call zRc (SEnv5_con _ _ _ _ _) zSplit rfl rfl ?_; rintro _ _ ⟨x27, a27, rfl, hx27, rfl⟩)
            refine aops_nil ?_
            refine aany_one 0 zKr rfl (.none rfl) ?_
            refine zLd ?_; refine aops_nil ?_
            refine aany_one 5 zKr rfl (.none rfl) ?_
            (refine aops_call zRc (rreceive_con m hI (by omega) x27 (by omega)) zSplit rfl rfl ?_; rintro _ _ ⟨⟨y, e, rfl, hy⟩, rfl⟩)
            refine aops_nil ?_
            refine zT 6 rfl (AP.ar (ap_move rfl)) ?_
            refine zT 7 rfl (AP.ar (ap_extract rfl rfl)) ?_
            refine zT 8 rfl (AP.ar (ap_extract rfl rfl)) ?_
            refine aany_one 9 zKr rfl (.none rfl) ?_
            refine zSt ?_; refine aops_nil ?_
            refine zT 10 rfl (AP.ar (ap_assign rfl)) ?_
            refine aany_nil zKr ?_
          rotate_right
          case' _ =>
            refine zLd ?_; refine aops_nil ?_
            refine aany_one 4 zKr rfl (.none rfl) ?_
            (refine aops_call zRc (SEnv5_con _ _ _ _ _) zSplit rfl rfl ?_; rintro _ _ ⟨x27, a27, rfl, hx27, rfl⟩)
            refine aops_nil ?_
            refine aany_one 5 zKr rfl (.none rfl) ?_
            (refine aops_call zRc (rreceive_con m hI (by omega) x27 (by omega)) zSplit rfl rfl ?_; rintro _ _ ⟨⟨y, e, rfl, hy⟩, rfl⟩)
            refine aops_nil ?_
            refine zT 6 rfl (AP.ar (ap_move rfl)) ?_
            refine zT 7 rfl (AP.ar (ap_extract rfl rfl)) ?_
            refine zT 8 rfl (AP.ar (ap_extract rfl rfl)) ?_
            refine aany_one 9 zKr rfl (.none rfl) ?_
            refine zSt ?_; refine aops_nil ?_
            refine zT 10 rfl (AP.ar (ap_assign rfl)) ?_
            refine aany_nil zKr ?_
        rotate_right
        case' _ =>
          refine zLd ?_; refine aops_nil ?_
          refine aany_one 3 zKr rfl (.none rfl) ?_
          (refine aops_call zRc (SRange_con _ _ _ _ _ (by omega)) zSplit rfl rfl ?_; rintro _ _ ⟨r26, a26, rfl, hr26, rfl⟩)
          refine aops_nil ?_
          refine aany_one 4 zKr rfl (.none rfl) ?_
          (refine aops_call zRc (SEnv5_con _ _ _ _ _) zSplit rfl rfl ?_; rintro _ _ ⟨x27, a27, rfl, hx27, rfl⟩)
          refine aops_nil ?_
          refine aany_one 5 zKr rfl (.none rfl) ?_
          (refine aops_call zRc (rreceive_con m hI (by omega) x27 (by omega)) zSplit rfl rfl ?_; rintro _ _ ⟨⟨y, e, rfl, hy⟩, rfl⟩)
          refine aops_nil ?_
          refine zT 6 rfl (AP.ar (ap_move rfl)) ?_
          refine zT 7 rfl (AP.ar (ap_extract rfl rfl)) ?_
          refine zT 8 rfl (AP.ar (ap_extract rfl rfl)) ?_
          refine aany_one 9 zKr rfl (.none rfl) ?_
          refine zSt ?_; refine aops_nil ?_
          refine zT 10 rfl (AP.ar (ap_assign rfl)) ?_
          refine aany_nil zKr ?_
        all_goals (
          refine blockQ_n ?_; refine seqQ_n ?_; refine zS ?_; refine zMv ?_; refine zCm ?_; refine zN ?_
          refine zC (fun hc => ?_) fun hc => ?_
          · refine awp_region ?_
            refine zLd ?_; refine zSt ?_; refine aops_nil ?_; refine blockQ_n ?_; refine seqQ_n ?_; refine awp_region ?_; refine zMv ?_; refine zAr ?_; refine zAs ?_; refine zN ?_
            first | (refine ⟨n - 1, y, _, ⟨by omega, (hy (of_decide_eq_true hc)).1, by have := (hy (of_decide_eq_true hc)).2; omega⟩, by omega, wk zSub zKeep⟩) | (refine ⟨n - 1, m, _, ⟨by omega, hI, by omega⟩, by omega, wk zSub zKeep⟩)
          · refine awp_skip ?_
            refine blockQ_n ?_; refine seqQ_n ?_; refine awp_region ?_; refine zMv ?_; refine zAr ?_; refine zAs ?_; refine zN ?_
            first | (refine ⟨n - 1, y, _, ⟨by omega, (hy (of_decide_eq_true hc)).1, by have := (hy (of_decide_eq_true hc)).2; omega⟩, by omega, wk zSub zKeep⟩) | (refine ⟨n - 1, m, _, ⟨by omega, hI, by omega⟩, by omega, wk zSub zKeep⟩)
          )
  · have hge := of_decide_eq_false hc
    refine awp_exit ?_; refine seqQ_x ?_; refine seqQ_x ?_; refine blockQ_x rfl ?_; refine seqQ_n ?_; refine zS ?_; refine zLd ?_; refine zSt ?_; refine zN ?_; refine awp_ret ?_
    exact post_ret (.cell rfl zUpd rfl rfl .nil) zKeep ⟨m, _, rfl, ⟨hI, by omega⟩, rfl⟩
def headN (m : Mach) : Bool := decide (0 ≤ m.node) && (decide (m.node < 10) && (decide (1 ≤ m.slot) && (decide (m.slot ≤ 1000000) && (decide (0 ≤ m.seq) && (decide (m.seq ≤ 1000000) && (decide (validT m.t = 0) && decide (m.prop.size ≤ 200)))))))
def headRb (m : Mach) : Bool := decide (m.node < 0) || (decide (m.node > 9) || (decide (m.slot < 1) || (decide (m.slot > 1000000) || (decide (m.seq < 0) || (decide (m.seq > 1000000) || (!decide (validT m.t = 0) || decide ((m.prop.size : Int) > 200)))))))
theorem headN_eq (m : Mach) : headN m = !headRb m := by
  rw [Bool.eq_iff_iff]
  simp only [headN, headRb, Bool.and_eq_true, decide_eq_true_eq, Bool.not_eq_true', Bool.or_eq_false_iff, decide_eq_false_iff_not, Bool.not_eq_false', gt_iff_lt]
  omega
theorem headM_eq (m : Mach) : headM m = (headN m && heardM m) := by
  simp only [headM, headN, Bool.and_assoc]
def bad2 (m : Mach) : Bool := (!decide (m.phase = 2) && !decide (m.phase = 3)) && !decide (m.high = 0)
def bad3 (m : Mach) : Bool := (decide (m.phase = 3) && (!zB m.prep || !zB m.prime)) || (decide (m.phase = 2) && !zB m.prime)
def bad4 (m : Mach) : Bool := !vB m.conf || decide (m.conf.n > 1000)
theorem check_1 {m : Mach} (h : headRb m = true) : checkM m = false := by
  unfold checkM; rw [headM_eq, headN_eq, h]; rfl
theorem check_2 {m : Mach} (h : heardM m = false) : checkM m = false := by
  unfold checkM; rw [headM_eq, h, Bool.and_false]; rfl
theorem head_ok {m : Mach} (h : headRb m = false) (h2 : heardM m = true) : headM m = true := by
  rw [headM_eq, headN_eq, h, h2]; rfl
theorem check_3 {m : Mach} (h : headM m = true) (hz : zB m.bal = true) : checkM m = freshM m := by
  unfold checkM; rw [h, if_pos hz, Bool.true_and]
theorem check_n {m : Mach} (h : headM m = true) (hz : zB m.bal = false) : checkM m = (vE (msgM m) && (confM m && ((!decide (m.phase = 1) || decide (m.high = 0)) && ((decide (m.phase = 1) || zB m.prime) && (!decide (m.phase = 3) || zB m.prep))))) := by
  unfold checkM; rw [h, hz]; rfl
theorem vE_kind {e : Evp} (h : vE e = true) : kindE e = true := by
  unfold vE at h; exact (Bool.and_eq_true _ _ ▸ h).2
theorem kind_3 {e : Evp} (h : kindE e = true) : e.kind = 1 ∨ e.kind = 2 ∨ e.kind = 3 := by
  unfold kindE at h
  by_cases h1 : e.kind = 1
  · exact .inl h1
  · rw [if_neg h1] at h
    by_cases h2 : e.kind = 2
    · exact .inr (.inl h2)
    · rw [if_neg h2] at h
      by_cases h3 : e.kind = 3
      · exact .inr (.inr h3)
      · rw [if_neg h3] at h; cases h
theorem zB_none {b : Bal} (h : zB b = true) : b = Bal.none := by
  cases b; simp only [zB, Bool.and_eq_true, decide_eq_true_eq] at h
  rw [h.1, h.2]; rfl
theorem env_msg {m : Mach} (h1 : (decide (m.phase = 1) || zB m.prime) = true) (h2 : (!decide (m.phase = 3) || zB m.prep) = true) (h3 : m.phase = 1 ∨ m.phase = 2 ∨ m.phase = 3) : envR m = msgM m := by
  rcases h3 with h | h | h
  · simp [envR, msgM, h]
  · have : m.prime = Bal.none := zB_none (by simpa [h] using h1)
    simp [envR, msgM, h, this]
  · have e1 : m.prime = Bal.none := zB_none (by simpa [h] using h1)
    have e2 : m.prep = Bal.none := zB_none (by simpa [h] using h2)
    simp [envR, msgM, h, e1, e2]
theorem check_4 {m : Mach} (h : headM m = true) (hz : zB m.bal = false) (hv : vE (envR m) = false) : checkM m = false := by
  rw [check_n h hz]
  apply Bool.eq_false_iff.2
  intro hx
  simp only [Bool.and_eq_true] at hx
  obtain ⟨q1, _, _, q4, q5⟩ := hx
  rw [env_msg q4 q5 (kind_3 (vE_kind q1)), q1] at hv
  cases hv
theorem check_5 {m : Mach} (h : headM m = true) (hz : zB m.bal = false) (hb : bad2 m = true) : checkM m = false := by
  rw [check_n h hz]
  apply Bool.eq_false_iff.2
  intro hx
  simp only [Bool.and_eq_true] at hx
  obtain ⟨q1, _, q3, _, _⟩ := hx
  have hk : m.phase = 1 ∨ m.phase = 2 ∨ m.phase = 3 := kind_3 (e := msgM m) (vE_kind q1)
  simp only [bad2, Bool.and_eq_true, Bool.not_eq_true', decide_eq_false_iff_not] at hb
  have h1 : m.phase = 1 := by omega
  simp [h1] at q3
  exact hb.2 q3
theorem check_6 {m : Mach} (h : headM m = true) (hz : zB m.bal = false) (hb : bad3 m = true) : checkM m = false := by
  rw [check_n h hz]
  apply Bool.eq_false_iff.2
  intro hx
  simp only [Bool.and_eq_true] at hx
  obtain ⟨_, _, _, q4, q5⟩ := hx
  unfold bad3 at hb
  by_cases h3 : m.phase = 3
  · simp [h3] at hb q4 q5
    rcases hb with hb | hb
    · rw [hb] at q5; cases q5
    · rw [hb] at q4; cases q4
  · by_cases h2 : m.phase = 2
    · simp [h2] at hb q4
      rw [hb] at q4; cases q4
    · simp [h3, h2] at hb
theorem good3 {m : Mach} (hv : vE (envR m) = true) (hb : bad3 m = false) : (m.phase = 1 ∨ m.phase = 2 ∨ m.phase = 3) ∧ (decide (m.phase = 1) || zB m.prime) = true ∧ (!decide (m.phase = 3) || zB m.prep) = true := by
  have hk : m.phase = 1 ∨ m.phase = 2 ∨ m.phase = 3 := kind_3 (e := envR m) (vE_kind hv)
  refine ⟨hk, ?_⟩
  unfold bad3 at hb
  rcases hk with h | h | h <;> simp [h] at hb ⊢
  · exact hb
  · exact ⟨hb.2, hb.1⟩
theorem check_m {m : Mach} (h : headM m = true) (hz : zB m.bal = false) (hv : vE (envR m) = true) (h2 : bad2 m = false) (h3 : bad3 m = false) : checkM m = confM m := by
  obtain ⟨hk, q4, q5⟩ := good3 hv h3
  rw [check_n h hz, ← env_msg q4 q5 hk, hv, q4, q5, Bool.true_and]
  have q3 : (!decide (m.phase = 1) || decide (m.high = 0)) = true := by
    unfold bad2 at h2
    rcases hk with h | h | h <;> simp [h] at h2 ⊢
    exact h2
  rw [q3]
  simp
theorem conf_z {m : Mach} (h : zB m.conf = true) : confM m = true := by unfold confM; rw [if_pos h]
theorem bad4_eq (m : Mach) : (!vB m.conf || decide (1000 < m.conf.n)) = bad4 m := rfl
theorem conf_b {m : Mach} (h : zB m.conf = false) (hb : bad4 m = true) : confM m = false := by unfold confM; rw [if_neg (by rw [h]; decide), if_pos (by rw [bad4_eq]; exact hb)]
theorem conf_n {m : Mach} (h : zB m.conf = false) (hb : bad4 m = false) : confM m = (prB m.prep m.prime m.conf || (!decide (m.phase = 1) && cB m.conf m.bal)) := by unfold confM; rw [if_neg (by rw [h]; decide), if_neg (by rw [bad4_eq, hb]; decide)]
theorem conf_1 {m : Mach} (h : zB m.conf = false) (hb : bad4 m = false) (h1 : m.phase = 1) : confM m = prB m.prep m.prime m.conf := by
  rw [conf_n h hb]; simp [h1]
theorem pr_z {p q b : Bal} (hq : zB q = true) : prB p q b = covB p b := by simp [prB, covB, hq]
theorem conf_2 {m : Mach} (h : zB m.conf = false) (hb : bad4 m = false) (h1 : ¬ m.phase = 1) (hv : vE (envR m) = true) (h3 : bad3 m = false) : confM m = cB m.conf m.bal := by
  obtain ⟨hk, q4, q5⟩ := good3 hv h3
  rw [conf_n h hb]
  have hp : zB m.prime = true := by simpa [h1] using q4
  rw [pr_z hp]
  have hx : covB m.prep m.conf = true → cB m.conf m.bal = true := by
    intro hc
    simp only [covB, Bool.and_eq_true, Bool.not_eq_true', cB, decide_eq_true_eq] at hc
    by_cases h2 : m.phase = 2
    · have hk2 := vE_kind hv
      rw [env_msg q4 q5 hk] at hk2
      unfold kindE at hk2
      rw [if_neg (show ¬ (msgM m).kind = 1 from h1), if_pos (show (msgM m).kind = 2 from h2)] at hk2
      simp only [msgM, Bool.and_eq_true, cB, decide_eq_true_eq] at hk2
      simp only [cB, decide_eq_true_eq]
      rw [← hc.2.1, hk2.2.2.1]
    · have h4 : m.phase = 3 := by omega
      have : zB m.prep = true := by simpa [h4] using q5
      rw [this] at hc; cases hc.1
  cases hcb : cB m.conf m.bal with
  | true => simp [h1]
  | false =>
    have : covB m.prep m.conf = false := by
      apply Bool.eq_false_iff.2; intro hc; rw [hx hc] at hcb; cases hcb
    rw [this]; simp
end Go.Proofs.YtegejdhkckndaaaGreat
