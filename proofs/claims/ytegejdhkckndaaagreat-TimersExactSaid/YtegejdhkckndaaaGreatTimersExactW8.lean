/- The walks of: radvance_con, rnumb_con, rput_con, rpropose_con. Each says what one function of the program answers, for the arguments that its statement names. No condition beyond what each theorem says. -/
import Derived.Test.YtegejdhkckndaaaGreatTimersExactW7
import Derived.Test.YtegejdhkckndaaaGreatProg
import Derived.KernelRfl
import Derived.Tactics
import Derived.Tactics2
import Derived.StillTactics
set_option linter.unusedVariables false
set_option linter.unusedSimpArgs false
set_option linter.unnecessarySimpa false
set_option maxRecDepth 4000
namespace Go.Proofs.YtegejdhkckndaaaGreat
open Go Go.Av Go.Tq
set_option maxHeartbeats 8000000 in
theorem radvance_con (m : Mach) (hI0 : InvM m) : Con Tryz.prog 72 [mcv m] [] (fun d H => ∃ m' : Mach, d = mcv m' ∧ AdvR m m' ∧ H = []) := by
  have hcap : capB = 140737488355328 := rfl
  have hsz1 := hI0.sz
  refine con_intro Tryz.func72 rfl Tryz.call72 rfl ?_
  refine zS ?_
  refine aops_box rfl zFlat rfl rfl (fun b1 => ?_)
  refine aops_alloc rfl zRc rfl rfl (fun b2 => ?_)
  refine zN ?_; refine awp_seq ?_; refine zS ?_; refine zLd ?_
  (refine aops_call zRc (rcheck_ex m (by omega) (fun e he => by have := (hI0.hs e he).1; omega)) zSplit rfl rfl ?_; rintro _ _ ⟨y5, rfl, rfl⟩)
  refine zNo ?_; refine zN ?_
  refine zC (fun hc => ?_) fun hc => ?_
  · refine awp_seq ?_
    refine awp_region ?_; refine zLd ?_; refine zSt ?_; refine zN ?_; refine awp_ret ?_; refine seqQ_r ?_
    exact post_ret (.cell rfl zUpd rfl rfl .nil) zKeep ⟨m, rfl, ⟨hI0, rfl⟩, rfl⟩
  · refine awp_skip ?_
    refine seqQ_n ?_; refine awp_block ?_
    refine awp_loop1 [1, 2] [.box b2 _ _] (fun (c : Mach) r => r) (fun (c : Mach) r => .box b1 32 [.i c.node, .i c.slot, .i c.seq, .i c.t.th, .sl 1 (c.t.nodes.map .i), .sl 3 (avs c.t.inner), .i c.phase, .i c.bal.n, .v (.string c.bal.v), .i c.prep.n, .v (.string c.prep.v), .i c.prime.n, .v (.string c.prime.v), .i c.conf.n, .v (.string c.conf.v), .i c.low, .i c.high, .v (.string c.prop), .sl 15 (c.heard.map ev)] :: r) (fun (c : Mach) => InvM c ∧ c.heard = m.heard) (fun (c : Mach) => mu c) (m) zRc ⟨hI0, rfl⟩ (wk zSub zKeep) ?_
    intro c ⟨hI, hhe⟩
    refine awp_block ?_; refine zS ?_; refine zLd ?_
    refine aops_alloc rfl zRc rfl rfl (fun b3 => ?_)
    refine zSt ?_; refine zN (zS ?_); refine zLd ?_
    (refine aops_call zRc (rprepared_con c hI) zSplit rfl rfl ?_; rintro _ _ ⟨c1, rfl, hs1, rfl⟩)
    refine zSt ?_; refine zN ?_; refine awp_seq ?_; refine zS ?_; refine zLd ?_; refine zLd ?_
    refine aops_call_v zRc (rsame27_con c _) rfl rfl ?_
    refine zN ?_
    refine zC (fun hc => ?_) fun hc => ?_
    · first
      | (exact absurd hc (by decide))
      | (have e1 := sameV_t hs1.1 hc
         rw [e1]
         refine awp_region ?_; refine zLd ?_
         (refine aops_call zRc (rconfirmed_con c hI) zSplit rfl rfl ?_; rintro _ _ ⟨c2, rfl, hs2, rfl⟩)
         refine zSt ?_; refine zN ?_; refine awp_seq ?_; refine zS ?_; refine zLd ?_; refine zLd ?_
         refine aops_call_v zRc (rsame27_con c _) rfl rfl ?_
         refine zN ?_
         refine zC (fun hc => ?_) fun hc => ?_
         · first
           | (exact absurd hc (by decide))
           | (exact absurd (hn1.symm.trans hc) (by decide))
           | (have e2 := sameV_t hs2.1 hc
              rw [e2]
              refine awp_region ?_; refine zLd ?_
              (refine aops_call zRc (rcommitted_con c hI) zSplit rfl rfl ?_; rintro _ _ ⟨c3, rfl, hs3, rfl⟩)
              refine zSt ?_; refine zN ?_; refine awp_seq ?_; refine zS ?_; refine zLd ?_; refine zLd ?_
              refine aops_call_v zRc (rsame27_con c _) rfl rfl ?_
              refine zN ?_
              refine zC (fun hc => ?_) fun hc => ?_
              · first
                | (exact absurd hc (by decide))
                | (exact absurd (hn1.symm.trans hc) (by decide))
                | (exact absurd (hn2.symm.trans hc) (by decide))
                | (have e3 := sameV_t hs3.1 hc
                   rw [e3]
                   refine awp_region ?_; refine zLd ?_
                   (refine aops_call zRc (rfinalm_con c hI) zSplit rfl rfl ?_; rintro _ _ ⟨c4, rfl, hs4, rfl⟩)
                   refine zSt ?_; refine zN ?_; refine awp_seq ?_; refine zS ?_; refine zLd ?_; refine zLd ?_
                   refine aops_call_v zRc (rsame27_con c _) rfl rfl ?_
                   refine zN ?_
                   refine zC (fun hc => ?_) fun hc => ?_
                   · first
                     | (exact absurd hc (by decide))
                     | (exact absurd (hn1.symm.trans hc) (by decide))
                     | (exact absurd (hn2.symm.trans hc) (by decide))
                     | (exact absurd (hn3.symm.trans hc) (by decide))
                     | (have e4 := sameV_t hs4.1 hc
                        rw [e4]
                        refine awp_region ?_; refine zLd ?_
                        (refine aops_call zRc (rcaught_con c hI) zSplit rfl rfl ?_; rintro _ _ ⟨c5, rfl, hs5, rfl⟩)
                        refine zSt ?_; refine zN (zS ?_); refine zLd ?_; refine zLd ?_
                        refine aops_call_v zRc (rsame27_con c _) rfl rfl ?_
                        refine zN ?_
                        refine zC (fun hc => ?_) fun hc => ?_
                        · first
                          | (exact absurd hc (by decide))
                          | (exact absurd (hn1.symm.trans hc) (by decide))
                          | (exact absurd (hn2.symm.trans hc) (by decide))
                          | (exact absurd (hn3.symm.trans hc) (by decide))
                          | (exact absurd (hn4.symm.trans hc) (by decide))
                          | (have e5 := sameV_t hs5.1 hc
                             rw [e5]
                             refine awp_seq ?_; refine zS ?_; refine zF 7 2 true ?_; refine zLd ?_
                             refine aops_call_v zRc (rz_con c.bal) rfl rfl ?_
                             refine zNo ?_; refine zN ?_
                             refine zC (fun hc => ?_) fun hc => ?_
                             · have mk37t : True := trivial
                               refine awp_region ?_; refine zF 2 1 false ?_; refine zL1 ?_
                               refine zP (ap_max rfl rfl) ?_
                               refine zF 2 1 false ?_; refine zSt ?_; refine zN (zS ?_); refine zLd ?_; refine zSt ?_; refine zN ?_; refine awp_ret ?_; refine blockQ_r ?_; refine seqQ_r ?_; refine blockQ_r ?_
                               first
                               | (have := mk37t; exact post_ret (.cell rfl zUpd rfl rfl .nil) zKeep ⟨{ c with seq := max c.seq 1 }, rfl, ⟨inv_seq hI _, hhe⟩, rfl⟩)
                               | (have := mk37f; exact post_ret (.cell rfl zUpd rfl rfl .nil) zKeep ⟨c, rfl, ⟨hI, hhe⟩, rfl⟩)
                             · have mk37f : True := trivial
                               refine awp_skip ?_; refine seqQ_n ?_; refine zS ?_; refine zLd ?_; refine zSt ?_; refine zN ?_; refine awp_ret ?_; refine blockQ_r ?_; refine seqQ_r ?_; refine blockQ_r ?_
                               first
                               | (have := mk37t; exact post_ret (.cell rfl zUpd rfl rfl .nil) zKeep ⟨{ c with seq := max c.seq 1 }, rfl, ⟨inv_seq hI _, hhe⟩, rfl⟩)
                               | (have := mk37f; exact post_ret (.cell rfl zUpd rfl rfl .nil) zKeep ⟨c, rfl, ⟨hI, hhe⟩, rfl⟩)
                            )
                        · first
                          | (exact absurd hc (by decide))
                          | (exact absurd (hn1.symm.trans hc) (by decide))
                          | (exact absurd (hn2.symm.trans hc) (by decide))
                          | (exact absurd (hn3.symm.trans hc) (by decide))
                          | (exact absurd (hn4.symm.trans hc) (by decide))
                          | (first | (have := hn1; skip) | (have := hn2; skip) | (have := hn3; skip) | (have := hn4; skip) | have hn5 := hc
                             refine awp_skip ?_; refine blockQ_n ?_; refine seqQ_n ?_
                             first
                             | (have h9 := hn1; refine ⟨c1, ⟨hs1.2.1, hs1.1.heard.trans hhe⟩, sdec hs1 hn1, wk zSub zKeep⟩)
                             | (have h9 := hn2; refine ⟨c2, ⟨hs2.2.1, hs2.1.heard.trans hhe⟩, sdec hs2 hn2, wk zSub zKeep⟩)
                             | (have h9 := hn3; refine ⟨c3, ⟨hs3.2.1, hs3.1.heard.trans hhe⟩, sdec hs3 hn3, wk zSub zKeep⟩)
                             | (have h9 := hn4; refine ⟨c4, ⟨hs4.2.1, hs4.1.heard.trans hhe⟩, sdec hs4 hn4, wk zSub zKeep⟩)
                             | (have h9 := hn5; refine ⟨c5, ⟨hs5.2.1, hs5.1.heard.trans hhe⟩, sdec hs5 hn5, wk zSub zKeep⟩)
                            )
                       )
                   · first
                     | (exact absurd hc (by decide))
                     | (exact absurd (hn1.symm.trans hc) (by decide))
                     | (exact absurd (hn2.symm.trans hc) (by decide))
                     | (exact absurd (hn3.symm.trans hc) (by decide))
                     | (first | (have := hn1; skip) | (have := hn2; skip) | (have := hn3; skip) | have hn4 := hc
                        refine awp_skip ?_; refine seqQ_n ?_; refine zS ?_; refine zLd ?_; refine zLd ?_
                        refine aops_call_v zRc (rsame27_con c _) rfl rfl ?_
                        refine zN ?_
                        refine zC (fun hc => ?_) fun hc => ?_
                        · first
                          | (exact absurd hc (by decide))
                          | (exact absurd (hn1.symm.trans hc) (by decide))
                          | (exact absurd (hn2.symm.trans hc) (by decide))
                          | (exact absurd (hn3.symm.trans hc) (by decide))
                          | (exact absurd (hn4.symm.trans hc) (by decide))
                          | (have e5 := sameV_t hs5.1 hc
                             rw [e5]
                             refine awp_seq ?_; refine zS ?_; refine zF 7 2 true ?_; refine zLd ?_
                             refine aops_call_v zRc (rz_con c.bal) rfl rfl ?_
                             refine zNo ?_; refine zN ?_
                             refine zC (fun hc => ?_) fun hc => ?_
                             · have mk37t : True := trivial
                               refine awp_region ?_; refine zF 2 1 false ?_; refine zL1 ?_
                               refine zP (ap_max rfl rfl) ?_
                               refine zF 2 1 false ?_; refine zSt ?_; refine zN (zS ?_); refine zLd ?_; refine zSt ?_; refine zN ?_; refine awp_ret ?_; refine blockQ_r ?_; refine seqQ_r ?_; refine blockQ_r ?_
                               first
                               | (have := mk37t; exact post_ret (.cell rfl zUpd rfl rfl .nil) zKeep ⟨{ c with seq := max c.seq 1 }, rfl, ⟨inv_seq hI _, hhe⟩, rfl⟩)
                               | (have := mk37f; exact post_ret (.cell rfl zUpd rfl rfl .nil) zKeep ⟨c, rfl, ⟨hI, hhe⟩, rfl⟩)
                             · have mk37f : True := trivial
                               refine awp_skip ?_; refine seqQ_n ?_; refine zS ?_; refine zLd ?_; refine zSt ?_; refine zN ?_; refine awp_ret ?_; refine blockQ_r ?_; refine seqQ_r ?_; refine blockQ_r ?_
                               first
                               | (have := mk37t; exact post_ret (.cell rfl zUpd rfl rfl .nil) zKeep ⟨{ c with seq := max c.seq 1 }, rfl, ⟨inv_seq hI _, hhe⟩, rfl⟩)
                               | (have := mk37f; exact post_ret (.cell rfl zUpd rfl rfl .nil) zKeep ⟨c, rfl, ⟨hI, hhe⟩, rfl⟩)
                            )
                        · first
                          | (exact absurd hc (by decide))
                          | (exact absurd (hn1.symm.trans hc) (by decide))
                          | (exact absurd (hn2.symm.trans hc) (by decide))
                          | (exact absurd (hn3.symm.trans hc) (by decide))
                          | (exact absurd (hn4.symm.trans hc) (by decide))
                          | (first | (have := hn1; skip) | (have := hn2; skip) | (have := hn3; skip) | (have := hn4; skip) | have hn5 := hc
                             refine awp_skip ?_; refine blockQ_n ?_; refine seqQ_n ?_
                             first
                             | (have h9 := hn1; refine ⟨c1, ⟨hs1.2.1, hs1.1.heard.trans hhe⟩, sdec hs1 hn1, wk zSub zKeep⟩)
                             | (have h9 := hn2; refine ⟨c2, ⟨hs2.2.1, hs2.1.heard.trans hhe⟩, sdec hs2 hn2, wk zSub zKeep⟩)
                             | (have h9 := hn3; refine ⟨c3, ⟨hs3.2.1, hs3.1.heard.trans hhe⟩, sdec hs3 hn3, wk zSub zKeep⟩)
                             | (have h9 := hn4; refine ⟨c4, ⟨hs4.2.1, hs4.1.heard.trans hhe⟩, sdec hs4 hn4, wk zSub zKeep⟩)
                             | (have h9 := hn5; refine ⟨c5, ⟨hs5.2.1, hs5.1.heard.trans hhe⟩, sdec hs5 hn5, wk zSub zKeep⟩)
                            )
                       )
                  )
              · first
                | (exact absurd hc (by decide))
                | (exact absurd (hn1.symm.trans hc) (by decide))
                | (exact absurd (hn2.symm.trans hc) (by decide))
                | (first | (have := hn1; skip) | (have := hn2; skip) | have hn3 := hc
                   refine awp_skip ?_; refine seqQ_n ?_; refine awp_seq ?_; refine zS ?_; refine zLd ?_; refine zLd ?_
                   refine aops_call_v zRc (rsame27_con c _) rfl rfl ?_
                   refine zN ?_
                   refine zC (fun hc => ?_) fun hc => ?_
                   · first
                     | (exact absurd hc (by decide))
                     | (exact absurd (hn1.symm.trans hc) (by decide))
                     | (exact absurd (hn2.symm.trans hc) (by decide))
                     | (exact absurd (hn3.symm.trans hc) (by decide))
                     | (have e4 := sameV_t hs4.1 hc
                        rw [e4]
                        refine awp_region ?_; refine zLd ?_
                        (refine aops_call zRc (rcaught_con c hI) zSplit rfl rfl ?_; rintro _ _ ⟨c5, rfl, hs5, rfl⟩)
                        refine zSt ?_; refine zN (zS ?_); refine zLd ?_; refine zLd ?_
                        refine aops_call_v zRc (rsame27_con c _) rfl rfl ?_
                        refine zN ?_
                        refine zC (fun hc => ?_) fun hc => ?_
                        · first
                          | (exact absurd hc (by decide))
                          | (exact absurd (hn1.symm.trans hc) (by decide))
                          | (exact absurd (hn2.symm.trans hc) (by decide))
                          | (exact absurd (hn3.symm.trans hc) (by decide))
                          | (exact absurd (hn4.symm.trans hc) (by decide))
                          | (have e5 := sameV_t hs5.1 hc
                             rw [e5]
                             refine awp_seq ?_; refine zS ?_; refine zF 7 2 true ?_; refine zLd ?_
                             refine aops_call_v zRc (rz_con c.bal) rfl rfl ?_
                             refine zNo ?_; refine zN ?_
                             refine zC (fun hc => ?_) fun hc => ?_
                             · have mk37t : True := trivial
                               refine awp_region ?_; refine zF 2 1 false ?_; refine zL1 ?_
                               refine zP (ap_max rfl rfl) ?_
                               refine zF 2 1 false ?_; refine zSt ?_; refine zN (zS ?_); refine zLd ?_; refine zSt ?_; refine zN ?_; refine awp_ret ?_; refine blockQ_r ?_; refine seqQ_r ?_; refine blockQ_r ?_
                               first
                               | (have := mk37t; exact post_ret (.cell rfl zUpd rfl rfl .nil) zKeep ⟨{ c with seq := max c.seq 1 }, rfl, ⟨inv_seq hI _, hhe⟩, rfl⟩)
                               | (have := mk37f; exact post_ret (.cell rfl zUpd rfl rfl .nil) zKeep ⟨c, rfl, ⟨hI, hhe⟩, rfl⟩)
                             · have mk37f : True := trivial
                               refine awp_skip ?_; refine seqQ_n ?_; refine zS ?_; refine zLd ?_; refine zSt ?_; refine zN ?_; refine awp_ret ?_; refine blockQ_r ?_; refine seqQ_r ?_; refine blockQ_r ?_
                               first
                               | (have := mk37t; exact post_ret (.cell rfl zUpd rfl rfl .nil) zKeep ⟨{ c with seq := max c.seq 1 }, rfl, ⟨inv_seq hI _, hhe⟩, rfl⟩)
                               | (have := mk37f; exact post_ret (.cell rfl zUpd rfl rfl .nil) zKeep ⟨c, rfl, ⟨hI, hhe⟩, rfl⟩)
                            )
                        · first
                          | (exact absurd hc (by decide))
                          | (exact absurd (hn1.symm.trans hc) (by decide))
                          | (exact absurd (hn2.symm.trans hc) (by decide))
                          | (exact absurd (hn3.symm.trans hc) (by decide))
                          | (exact absurd (hn4.symm.trans hc) (by decide))
                          | (first | (have := hn1; skip) | (have := hn2; skip) | (have := hn3; skip) | (have := hn4; skip) | have hn5 := hc
                             refine awp_skip ?_; refine blockQ_n ?_; refine seqQ_n ?_
                             first
                             | (have h9 := hn1; refine ⟨c1, ⟨hs1.2.1, hs1.1.heard.trans hhe⟩, sdec hs1 hn1, wk zSub zKeep⟩)
                             | (have h9 := hn2; refine ⟨c2, ⟨hs2.2.1, hs2.1.heard.trans hhe⟩, sdec hs2 hn2, wk zSub zKeep⟩)
                             | (have h9 := hn3; refine ⟨c3, ⟨hs3.2.1, hs3.1.heard.trans hhe⟩, sdec hs3 hn3, wk zSub zKeep⟩)
                             | (have h9 := hn4; refine ⟨c4, ⟨hs4.2.1, hs4.1.heard.trans hhe⟩, sdec hs4 hn4, wk zSub zKeep⟩)
                             | (have h9 := hn5; refine ⟨c5, ⟨hs5.2.1, hs5.1.heard.trans hhe⟩, sdec hs5 hn5, wk zSub zKeep⟩)
                            )
                       )
                   · first
                     | (exact absurd hc (by decide))
                     | (exact absurd (hn1.symm.trans hc) (by decide))
                     | (exact absurd (hn2.symm.trans hc) (by decide))
                     | (exact absurd (hn3.symm.trans hc) (by decide))
                     | (first | (have := hn1; skip) | (have := hn2; skip) | (have := hn3; skip) | have hn4 := hc
                        refine awp_skip ?_; refine seqQ_n ?_; refine zS ?_; refine zLd ?_; refine zLd ?_
                        refine aops_call_v zRc (rsame27_con c _) rfl rfl ?_
                        refine zN ?_
                        refine zC (fun hc => ?_) fun hc => ?_
                        · first
                          | (exact absurd hc (by decide))
                          | (exact absurd (hn1.symm.trans hc) (by decide))
                          | (exact absurd (hn2.symm.trans hc) (by decide))
                          | (exact absurd (hn3.symm.trans hc) (by decide))
                          | (exact absurd (hn4.symm.trans hc) (by decide))
                          | (have e5 := sameV_t hs5.1 hc
                             rw [e5]
                             refine awp_seq ?_; refine zS ?_; refine zF 7 2 true ?_; refine zLd ?_
                             refine aops_call_v zRc (rz_con c.bal) rfl rfl ?_
                             refine zNo ?_; refine zN ?_
                             refine zC (fun hc => ?_) fun hc => ?_
                             · have mk37t : True := trivial
                               refine awp_region ?_; refine zF 2 1 false ?_; refine zL1 ?_
                               refine zP (ap_max rfl rfl) ?_
                               refine zF 2 1 false ?_; refine zSt ?_; refine zN (zS ?_); refine zLd ?_; refine zSt ?_; refine zN ?_; refine awp_ret ?_; refine blockQ_r ?_; refine seqQ_r ?_; refine blockQ_r ?_
                               first
                               | (have := mk37t; exact post_ret (.cell rfl zUpd rfl rfl .nil) zKeep ⟨{ c with seq := max c.seq 1 }, rfl, ⟨inv_seq hI _, hhe⟩, rfl⟩)
                               | (have := mk37f; exact post_ret (.cell rfl zUpd rfl rfl .nil) zKeep ⟨c, rfl, ⟨hI, hhe⟩, rfl⟩)
                             · have mk37f : True := trivial
                               refine awp_skip ?_; refine seqQ_n ?_; refine zS ?_; refine zLd ?_; refine zSt ?_; refine zN ?_; refine awp_ret ?_; refine blockQ_r ?_; refine seqQ_r ?_; refine blockQ_r ?_
                               first
                               | (have := mk37t; exact post_ret (.cell rfl zUpd rfl rfl .nil) zKeep ⟨{ c with seq := max c.seq 1 }, rfl, ⟨inv_seq hI _, hhe⟩, rfl⟩)
                               | (have := mk37f; exact post_ret (.cell rfl zUpd rfl rfl .nil) zKeep ⟨c, rfl, ⟨hI, hhe⟩, rfl⟩)
                            )
                        · first
                          | (exact absurd hc (by decide))
                          | (exact absurd (hn1.symm.trans hc) (by decide))
                          | (exact absurd (hn2.symm.trans hc) (by decide))
                          | (exact absurd (hn3.symm.trans hc) (by decide))
                          | (exact absurd (hn4.symm.trans hc) (by decide))
                          | (first | (have := hn1; skip) | (have := hn2; skip) | (have := hn3; skip) | (have := hn4; skip) | have hn5 := hc
                             refine awp_skip ?_; refine blockQ_n ?_; refine seqQ_n ?_
                             first
                             | (have h9 := hn1; refine ⟨c1, ⟨hs1.2.1, hs1.1.heard.trans hhe⟩, sdec hs1 hn1, wk zSub zKeep⟩)
                             | (have h9 := hn2; refine ⟨c2, ⟨hs2.2.1, hs2.1.heard.trans hhe⟩, sdec hs2 hn2, wk zSub zKeep⟩)
                             | (have h9 := hn3; refine ⟨c3, ⟨hs3.2.1, hs3.1.heard.trans hhe⟩, sdec hs3 hn3, wk zSub zKeep⟩)
                             | (have h9 := hn4; refine ⟨c4, ⟨hs4.2.1, hs4.1.heard.trans hhe⟩, sdec hs4 hn4, wk zSub zKeep⟩)
                             | (have h9 := hn5; refine ⟨c5, ⟨hs5.2.1, hs5.1.heard.trans hhe⟩, sdec hs5 hn5, wk zSub zKeep⟩)
                            )
                       )
                  )
             )
         · first
           | (exact absurd hc (by decide))
           | (exact absurd (hn1.symm.trans hc) (by decide))
           | (first | (have := hn1; skip) | have hn2 := hc
              refine awp_skip ?_; refine seqQ_n ?_; refine awp_seq ?_; refine zS ?_; refine zLd ?_; refine zLd ?_
              refine aops_call_v zRc (rsame27_con c _) rfl rfl ?_
              refine zN ?_
              refine zC (fun hc => ?_) fun hc => ?_
              · first
                | (exact absurd hc (by decide))
                | (exact absurd (hn1.symm.trans hc) (by decide))
                | (exact absurd (hn2.symm.trans hc) (by decide))
                | (have e3 := sameV_t hs3.1 hc
                   rw [e3]
                   refine awp_region ?_; refine zLd ?_
                   (refine aops_call zRc (rfinalm_con c hI) zSplit rfl rfl ?_; rintro _ _ ⟨c4, rfl, hs4, rfl⟩)
                   refine zSt ?_; refine zN ?_; refine awp_seq ?_; refine zS ?_; refine zLd ?_; refine zLd ?_
                   refine aops_call_v zRc (rsame27_con c _) rfl rfl ?_
                   refine zN ?_
                   refine zC (fun hc => ?_) fun hc => ?_
                   · first
                     | (exact absurd hc (by decide))
                     | (exact absurd (hn1.symm.trans hc) (by decide))
                     | (exact absurd (hn2.symm.trans hc) (by decide))
                     | (exact absurd (hn3.symm.trans hc) (by decide))
                     | (have e4 := sameV_t hs4.1 hc
                        rw [e4]
                        refine awp_region ?_; refine zLd ?_
                        (refine aops_call zRc (rcaught_con c hI) zSplit rfl rfl ?_; rintro _ _ ⟨c5, rfl, hs5, rfl⟩)
                        refine zSt ?_; refine zN (zS ?_); refine zLd ?_; refine zLd ?_
                        refine aops_call_v zRc (rsame27_con c _) rfl rfl ?_
                        refine zN ?_
                        refine zC (fun hc => ?_) fun hc => ?_
                        · first
                          | (exact absurd hc (by decide))
                          | (exact absurd (hn1.symm.trans hc) (by decide))
                          | (exact absurd (hn2.symm.trans hc) (by decide))
                          | (exact absurd (hn3.symm.trans hc) (by decide))
                          | (exact absurd (hn4.symm.trans hc) (by decide))
                          | (have e5 := sameV_t hs5.1 hc
                             rw [e5]
                             refine awp_seq ?_; refine zS ?_; refine zF 7 2 true ?_; refine zLd ?_
                             refine aops_call_v zRc (rz_con c.bal) rfl rfl ?_
                             refine zNo ?_; refine zN ?_
                             refine zC (fun hc => ?_) fun hc => ?_
                             · have mk37t : True := trivial
                               refine awp_region ?_; refine zF 2 1 false ?_; refine zL1 ?_
                               refine zP (ap_max rfl rfl) ?_
                               refine zF 2 1 false ?_; refine zSt ?_; refine zN (zS ?_); refine zLd ?_; refine zSt ?_; refine zN ?_; refine awp_ret ?_; refine blockQ_r ?_; refine seqQ_r ?_; refine blockQ_r ?_
                               first
                               | (have := mk37t; exact post_ret (.cell rfl zUpd rfl rfl .nil) zKeep ⟨{ c with seq := max c.seq 1 }, rfl, ⟨inv_seq hI _, hhe⟩, rfl⟩)
                               | (have := mk37f; exact post_ret (.cell rfl zUpd rfl rfl .nil) zKeep ⟨c, rfl, ⟨hI, hhe⟩, rfl⟩)
                             · have mk37f : True := trivial
                               refine awp_skip ?_; refine seqQ_n ?_; refine zS ?_; refine zLd ?_; refine zSt ?_; refine zN ?_; refine awp_ret ?_; refine blockQ_r ?_; refine seqQ_r ?_; refine blockQ_r ?_
                               first
                               | (have := mk37t; exact post_ret (.cell rfl zUpd rfl rfl .nil) zKeep ⟨{ c with seq := max c.seq 1 }, rfl, ⟨inv_seq hI _, hhe⟩, rfl⟩)
                               | (have := mk37f; exact post_ret (.cell rfl zUpd rfl rfl .nil) zKeep ⟨c, rfl, ⟨hI, hhe⟩, rfl⟩)
                            )
                        · first
                          | (exact absurd hc (by decide))
                          | (exact absurd (hn1.symm.trans hc) (by decide))
                          | (exact absurd (hn2.symm.trans hc) (by decide))
                          | (exact absurd (hn3.symm.trans hc) (by decide))
                          | (exact absurd (hn4.symm.trans hc) (by decide))
                          | (first | (have := hn1; skip) | (have := hn2; skip) | (have := hn3; skip) | (have := hn4; skip) | have hn5 := hc
                             refine awp_skip ?_; refine blockQ_n ?_; refine seqQ_n ?_
                             first
                             | (have h9 := hn1; refine ⟨c1, ⟨hs1.2.1, hs1.1.heard.trans hhe⟩, sdec hs1 hn1, wk zSub zKeep⟩)
                             | (have h9 := hn2; refine ⟨c2, ⟨hs2.2.1, hs2.1.heard.trans hhe⟩, sdec hs2 hn2, wk zSub zKeep⟩)
                             | (have h9 := hn3; refine ⟨c3, ⟨hs3.2.1, hs3.1.heard.trans hhe⟩, sdec hs3 hn3, wk zSub zKeep⟩)
                             | (have h9 := hn4; refine ⟨c4, ⟨hs4.2.1, hs4.1.heard.trans hhe⟩, sdec hs4 hn4, wk zSub zKeep⟩)
                             | (have h9 := hn5; refine ⟨c5, ⟨hs5.2.1, hs5.1.heard.trans hhe⟩, sdec hs5 hn5, wk zSub zKeep⟩)
                            )
                       )
                   · first
                     | (exact absurd hc (by decide))
                     | (exact absurd (hn1.symm.trans hc) (by decide))
                     | (exact absurd (hn2.symm.trans hc) (by decide))
                     | (exact absurd (hn3.symm.trans hc) (by decide))
                     | (first | (have := hn1; skip) | (have := hn2; skip) | (have := hn3; skip) | have hn4 := hc
                        refine awp_skip ?_; refine seqQ_n ?_; refine zS ?_; refine zLd ?_; refine zLd ?_
                        refine aops_call_v zRc (rsame27_con c _) rfl rfl ?_
                        refine zN ?_
                        refine zC (fun hc => ?_) fun hc => ?_
                        · first
                          | (exact absurd hc (by decide))
                          | (exact absurd (hn1.symm.trans hc) (by decide))
                          | (exact absurd (hn2.symm.trans hc) (by decide))
                          | (exact absurd (hn3.symm.trans hc) (by decide))
                          | (exact absurd (hn4.symm.trans hc) (by decide))
                          | (have e5 := sameV_t hs5.1 hc
                             rw [e5]
                             refine awp_seq ?_; refine zS ?_; refine zF 7 2 true ?_; refine zLd ?_
                             refine aops_call_v zRc (rz_con c.bal) rfl rfl ?_
                             refine zNo ?_; refine zN ?_
                             refine zC (fun hc => ?_) fun hc => ?_
                             · have mk37t : True := trivial
                               refine awp_region ?_; refine zF 2 1 false ?_; refine zL1 ?_
                               refine zP (ap_max rfl rfl) ?_
                               refine zF 2 1 false ?_; refine zSt ?_; refine zN (zS ?_); refine zLd ?_; refine zSt ?_; refine zN ?_; refine awp_ret ?_; refine blockQ_r ?_; refine seqQ_r ?_; refine blockQ_r ?_
                               first
                               | (have := mk37t; exact post_ret (.cell rfl zUpd rfl rfl .nil) zKeep ⟨{ c with seq := max c.seq 1 }, rfl, ⟨inv_seq hI _, hhe⟩, rfl⟩)
                               | (have := mk37f; exact post_ret (.cell rfl zUpd rfl rfl .nil) zKeep ⟨c, rfl, ⟨hI, hhe⟩, rfl⟩)
                             · have mk37f : True := trivial
                               refine awp_skip ?_; refine seqQ_n ?_; refine zS ?_; refine zLd ?_; refine zSt ?_; refine zN ?_; refine awp_ret ?_; refine blockQ_r ?_; refine seqQ_r ?_; refine blockQ_r ?_
                               first
                               | (have := mk37t; exact post_ret (.cell rfl zUpd rfl rfl .nil) zKeep ⟨{ c with seq := max c.seq 1 }, rfl, ⟨inv_seq hI _, hhe⟩, rfl⟩)
                               | (have := mk37f; exact post_ret (.cell rfl zUpd rfl rfl .nil) zKeep ⟨c, rfl, ⟨hI, hhe⟩, rfl⟩)
                            )
                        · first
                          | (exact absurd hc (by decide))
                          | (exact absurd (hn1.symm.trans hc) (by decide))
                          | (exact absurd (hn2.symm.trans hc) (by decide))
                          | (exact absurd (hn3.symm.trans hc) (by decide))
                          | (exact absurd (hn4.symm.trans hc) (by decide))
                          | (first | (have := hn1; skip) | (have := hn2; skip) | (have := hn3; skip) | (have := hn4; skip) | have hn5 := hc
                             refine awp_skip ?_; refine blockQ_n ?_; refine seqQ_n ?_
                             first
                             | (have h9 := hn1; refine ⟨c1, ⟨hs1.2.1, hs1.1.heard.trans hhe⟩, sdec hs1 hn1, wk zSub zKeep⟩)
                             | (have h9 := hn2; refine ⟨c2, ⟨hs2.2.1, hs2.1.heard.trans hhe⟩, sdec hs2 hn2, wk zSub zKeep⟩)
                             | (have h9 := hn3; refine ⟨c3, ⟨hs3.2.1, hs3.1.heard.trans hhe⟩, sdec hs3 hn3, wk zSub zKeep⟩)
                             | (have h9 := hn4; refine ⟨c4, ⟨hs4.2.1, hs4.1.heard.trans hhe⟩, sdec hs4 hn4, wk zSub zKeep⟩)
                             | (have h9 := hn5; refine ⟨c5, ⟨hs5.2.1, hs5.1.heard.trans hhe⟩, sdec hs5 hn5, wk zSub zKeep⟩)
                            )
                       )
                  )
              · first
                | (exact absurd hc (by decide))
                | (exact absurd (hn1.symm.trans hc) (by decide))
                | (exact absurd (hn2.symm.trans hc) (by decide))
                | (first | (have := hn1; skip) | (have := hn2; skip) | have hn3 := hc
                   refine awp_skip ?_; refine seqQ_n ?_; refine awp_seq ?_; refine zS ?_; refine zLd ?_; refine zLd ?_
                   refine aops_call_v zRc (rsame27_con c _) rfl rfl ?_
                   refine zN ?_
                   refine zC (fun hc => ?_) fun hc => ?_
                   · first
                     | (exact absurd hc (by decide))
                     | (exact absurd (hn1.symm.trans hc) (by decide))
                     | (exact absurd (hn2.symm.trans hc) (by decide))
                     | (exact absurd (hn3.symm.trans hc) (by decide))
                     | (have e4 := sameV_t hs4.1 hc
                        rw [e4]
                        refine awp_region ?_; refine zLd ?_
                        (refine aops_call zRc (rcaught_con c hI) zSplit rfl rfl ?_; rintro _ _ ⟨c5, rfl, hs5, rfl⟩)
                        refine zSt ?_; refine zN (zS ?_); refine zLd ?_; refine zLd ?_
                        refine aops_call_v zRc (rsame27_con c _) rfl rfl ?_
                        refine zN ?_
                        refine zC (fun hc => ?_) fun hc => ?_
                        · first
                          | (exact absurd hc (by decide))
                          | (exact absurd (hn1.symm.trans hc) (by decide))
                          | (exact absurd (hn2.symm.trans hc) (by decide))
                          | (exact absurd (hn3.symm.trans hc) (by decide))
                          | (exact absurd (hn4.symm.trans hc) (by decide))
                          | (have e5 := sameV_t hs5.1 hc
                             rw [e5]
                             refine awp_seq ?_; refine zS ?_; refine zF 7 2 true ?_; refine zLd ?_
                             refine aops_call_v zRc (rz_con c.bal) rfl rfl ?_
                             refine zNo ?_; refine zN ?_
                             refine zC (fun hc => ?_) fun hc => ?_
                             · have mk37t : True := trivial
                               refine awp_region ?_; refine zF 2 1 false ?_; refine zL1 ?_
                               refine zP (ap_max rfl rfl) ?_
                               refine zF 2 1 false ?_; refine zSt ?_; refine zN (zS ?_); refine zLd ?_; refine zSt ?_; refine zN ?_; refine awp_ret ?_; refine blockQ_r ?_; refine seqQ_r ?_; refine blockQ_r ?_
                               first
                               | (have := mk37t; exact post_ret (.cell rfl zUpd rfl rfl .nil) zKeep ⟨{ c with seq := max c.seq 1 }, rfl, ⟨inv_seq hI _, hhe⟩, rfl⟩)
                               | (have := mk37f; exact post_ret (.cell rfl zUpd rfl rfl .nil) zKeep ⟨c, rfl, ⟨hI, hhe⟩, rfl⟩)
                             · have mk37f : True := trivial
                               refine awp_skip ?_; refine seqQ_n ?_; refine zS ?_; refine zLd ?_; refine zSt ?_; refine zN ?_; refine awp_ret ?_; refine blockQ_r ?_; refine seqQ_r ?_; refine blockQ_r ?_
                               first
                               | (have := mk37t; exact post_ret (.cell rfl zUpd rfl rfl .nil) zKeep ⟨{ c with seq := max c.seq 1 }, rfl, ⟨inv_seq hI _, hhe⟩, rfl⟩)
                               | (have := mk37f; exact post_ret (.cell rfl zUpd rfl rfl .nil) zKeep ⟨c, rfl, ⟨hI, hhe⟩, rfl⟩)
                            )
                        · first
                          | (exact absurd hc (by decide))
                          | (exact absurd (hn1.symm.trans hc) (by decide))
                          | (exact absurd (hn2.symm.trans hc) (by decide))
                          | (exact absurd (hn3.symm.trans hc) (by decide))
                          | (exact absurd (hn4.symm.trans hc) (by decide))
                          | (first | (have := hn1; skip) | (have := hn2; skip) | (have := hn3; skip) | (have := hn4; skip) | have hn5 := hc
                             refine awp_skip ?_; refine blockQ_n ?_; refine seqQ_n ?_
                             first
                             | (have h9 := hn1; refine ⟨c1, ⟨hs1.2.1, hs1.1.heard.trans hhe⟩, sdec hs1 hn1, wk zSub zKeep⟩)
                             | (have h9 := hn2; refine ⟨c2, ⟨hs2.2.1, hs2.1.heard.trans hhe⟩, sdec hs2 hn2, wk zSub zKeep⟩)
                             | (have h9 := hn3; refine ⟨c3, ⟨hs3.2.1, hs3.1.heard.trans hhe⟩, sdec hs3 hn3, wk zSub zKeep⟩)
                             | (have h9 := hn4; refine ⟨c4, ⟨hs4.2.1, hs4.1.heard.trans hhe⟩, sdec hs4 hn4, wk zSub zKeep⟩)
                             | (have h9 := hn5; refine ⟨c5, ⟨hs5.2.1, hs5.1.heard.trans hhe⟩, sdec hs5 hn5, wk zSub zKeep⟩)
                            )
                       )
                   · first
                     | (exact absurd hc (by decide))
                     | (exact absurd (hn1.symm.trans hc) (by decide))
                     | (exact absurd (hn2.symm.trans hc) (by decide))
                     | (exact absurd (hn3.symm.trans hc) (by decide))
                     | (first | (have := hn1; skip) | (have := hn2; skip) | (have := hn3; skip) | have hn4 := hc
                        refine awp_skip ?_; refine seqQ_n ?_; refine zS ?_; refine zLd ?_; refine zLd ?_
                        refine aops_call_v zRc (rsame27_con c _) rfl rfl ?_
                        refine zN ?_
                        refine zC (fun hc => ?_) fun hc => ?_
                        · first
                          | (exact absurd hc (by decide))
                          | (exact absurd (hn1.symm.trans hc) (by decide))
                          | (exact absurd (hn2.symm.trans hc) (by decide))
                          | (exact absurd (hn3.symm.trans hc) (by decide))
                          | (exact absurd (hn4.symm.trans hc) (by decide))
                          | (have e5 := sameV_t hs5.1 hc
                             rw [e5]
                             refine awp_seq ?_; refine zS ?_; refine zF 7 2 true ?_; refine zLd ?_
                             refine aops_call_v zRc (rz_con c.bal) rfl rfl ?_
                             refine zNo ?_; refine zN ?_
                             refine zC (fun hc => ?_) fun hc => ?_
                             · have mk37t : True := trivial
                               refine awp_region ?_; refine zF 2 1 false ?_; refine zL1 ?_
                               refine zP (ap_max rfl rfl) ?_
                               refine zF 2 1 false ?_; refine zSt ?_; refine zN (zS ?_); refine zLd ?_; refine zSt ?_; refine zN ?_; refine awp_ret ?_; refine blockQ_r ?_; refine seqQ_r ?_; refine blockQ_r ?_
                               first
                               | (have := mk37t; exact post_ret (.cell rfl zUpd rfl rfl .nil) zKeep ⟨{ c with seq := max c.seq 1 }, rfl, ⟨inv_seq hI _, hhe⟩, rfl⟩)
                               | (have := mk37f; exact post_ret (.cell rfl zUpd rfl rfl .nil) zKeep ⟨c, rfl, ⟨hI, hhe⟩, rfl⟩)
                             · have mk37f : True := trivial
                               refine awp_skip ?_; refine seqQ_n ?_; refine zS ?_; refine zLd ?_; refine zSt ?_; refine zN ?_; refine awp_ret ?_; refine blockQ_r ?_; refine seqQ_r ?_; refine blockQ_r ?_
                               first
                               | (have := mk37t; exact post_ret (.cell rfl zUpd rfl rfl .nil) zKeep ⟨{ c with seq := max c.seq 1 }, rfl, ⟨inv_seq hI _, hhe⟩, rfl⟩)
                               | (have := mk37f; exact post_ret (.cell rfl zUpd rfl rfl .nil) zKeep ⟨c, rfl, ⟨hI, hhe⟩, rfl⟩)
                            )
                        · first
                          | (exact absurd hc (by decide))
                          | (exact absurd (hn1.symm.trans hc) (by decide))
                          | (exact absurd (hn2.symm.trans hc) (by decide))
                          | (exact absurd (hn3.symm.trans hc) (by decide))
                          | (exact absurd (hn4.symm.trans hc) (by decide))
                          | (first | (have := hn1; skip) | (have := hn2; skip) | (have := hn3; skip) | (have := hn4; skip) | have hn5 := hc
                             refine awp_skip ?_; refine blockQ_n ?_; refine seqQ_n ?_
                             first
                             | (have h9 := hn1; refine ⟨c1, ⟨hs1.2.1, hs1.1.heard.trans hhe⟩, sdec hs1 hn1, wk zSub zKeep⟩)
                             | (have h9 := hn2; refine ⟨c2, ⟨hs2.2.1, hs2.1.heard.trans hhe⟩, sdec hs2 hn2, wk zSub zKeep⟩)
                             | (have h9 := hn3; refine ⟨c3, ⟨hs3.2.1, hs3.1.heard.trans hhe⟩, sdec hs3 hn3, wk zSub zKeep⟩)
                             | (have h9 := hn4; refine ⟨c4, ⟨hs4.2.1, hs4.1.heard.trans hhe⟩, sdec hs4 hn4, wk zSub zKeep⟩)
                             | (have h9 := hn5; refine ⟨c5, ⟨hs5.2.1, hs5.1.heard.trans hhe⟩, sdec hs5 hn5, wk zSub zKeep⟩)
                            )
                       )
                  )
             )
        )
    · first
      | (exact absurd hc (by decide))
      | (first | have hn1 := hc
         refine awp_skip ?_; refine seqQ_n ?_; refine awp_seq ?_; refine zS ?_; refine zLd ?_; refine zLd ?_
         refine aops_call_v zRc (rsame27_con c _) rfl rfl ?_
         refine zN ?_
         refine zC (fun hc => ?_) fun hc => ?_
         · first
           | (exact absurd hc (by decide))
           | (exact absurd (hn1.symm.trans hc) (by decide))
           | (have e2 := sameV_t hs2.1 hc
              rw [e2]
              refine awp_region ?_; refine zLd ?_
              (refine aops_call zRc (rcommitted_con c hI) zSplit rfl rfl ?_; rintro _ _ ⟨c3, rfl, hs3, rfl⟩)
              refine zSt ?_; refine zN ?_; refine awp_seq ?_; refine zS ?_; refine zLd ?_; refine zLd ?_
              refine aops_call_v zRc (rsame27_con c _) rfl rfl ?_
              refine zN ?_
              refine zC (fun hc => ?_) fun hc => ?_
              · first
                | (exact absurd hc (by decide))
                | (exact absurd (hn1.symm.trans hc) (by decide))
                | (exact absurd (hn2.symm.trans hc) (by decide))
                | (have e3 := sameV_t hs3.1 hc
                   rw [e3]
                   refine awp_region ?_; refine zLd ?_
                   (refine aops_call zRc (rfinalm_con c hI) zSplit rfl rfl ?_; rintro _ _ ⟨c4, rfl, hs4, rfl⟩)
                   refine zSt ?_; refine zN ?_; refine awp_seq ?_; refine zS ?_; refine zLd ?_; refine zLd ?_
                   refine aops_call_v zRc (rsame27_con c _) rfl rfl ?_
                   refine zN ?_
                   refine zC (fun hc => ?_) fun hc => ?_
                   · first
                     | (exact absurd hc (by decide))
                     | (exact absurd (hn1.symm.trans hc) (by decide))
                     | (exact absurd (hn2.symm.trans hc) (by decide))
                     | (exact absurd (hn3.symm.trans hc) (by decide))
                     | (have e4 := sameV_t hs4.1 hc
                        rw [e4]
                        refine awp_region ?_; refine zLd ?_
                        (refine aops_call zRc (rcaught_con c hI) zSplit rfl rfl ?_; rintro _ _ ⟨c5, rfl, hs5, rfl⟩)
                        refine zSt ?_; refine zN (zS ?_); refine zLd ?_; refine zLd ?_
                        refine aops_call_v zRc (rsame27_con c _) rfl rfl ?_
                        refine zN ?_
                        refine zC (fun hc => ?_) fun hc => ?_
                        · first
                          | (exact absurd hc (by decide))
                          | (exact absurd (hn1.symm.trans hc) (by decide))
                          | (exact absurd (hn2.symm.trans hc) (by decide))
                          | (exact absurd (hn3.symm.trans hc) (by decide))
                          | (exact absurd (hn4.symm.trans hc) (by decide))
                          | (have e5 := sameV_t hs5.1 hc
                             rw [e5]
                             refine awp_seq ?_; refine zS ?_; refine zF 7 2 true ?_; refine zLd ?_
                             refine aops_call_v zRc (rz_con c.bal) rfl rfl ?_
                             refine zNo ?_; refine zN ?_
                             refine zC (fun hc => ?_) fun hc => ?_
                             · have mk37t : True := trivial
                               refine awp_region ?_; refine zF 2 1 false ?_; refine zL1 ?_
                               refine zP (ap_max rfl rfl) ?_
                               refine zF 2 1 false ?_; refine zSt ?_; refine zN (zS ?_); refine zLd ?_; refine zSt ?_; refine zN ?_; refine awp_ret ?_; refine blockQ_r ?_; refine seqQ_r ?_; refine blockQ_r ?_
                               first
                               | (have := mk37t; exact post_ret (.cell rfl zUpd rfl rfl .nil) zKeep ⟨{ c with seq := max c.seq 1 }, rfl, ⟨inv_seq hI _, hhe⟩, rfl⟩)
                               | (have := mk37f; exact post_ret (.cell rfl zUpd rfl rfl .nil) zKeep ⟨c, rfl, ⟨hI, hhe⟩, rfl⟩)
                             · have mk37f : True := trivial
                               refine awp_skip ?_; refine seqQ_n ?_; refine zS ?_; refine zLd ?_; refine zSt ?_; refine zN ?_; refine awp_ret ?_; refine blockQ_r ?_; refine seqQ_r ?_; refine blockQ_r ?_
                               first
                               | (have := mk37t; exact post_ret (.cell rfl zUpd rfl rfl .nil) zKeep ⟨{ c with seq := max c.seq 1 }, rfl, ⟨inv_seq hI _, hhe⟩, rfl⟩)
                               | (have := mk37f; exact post_ret (.cell rfl zUpd rfl rfl .nil) zKeep ⟨c, rfl, ⟨hI, hhe⟩, rfl⟩)
                            )
                        · first
                          | (exact absurd hc (by decide))
                          | (exact absurd (hn1.symm.trans hc) (by decide))
                          | (exact absurd (hn2.symm.trans hc) (by decide))
                          | (exact absurd (hn3.symm.trans hc) (by decide))
                          | (exact absurd (hn4.symm.trans hc) (by decide))
                          | (first | (have := hn1; skip) | (have := hn2; skip) | (have := hn3; skip) | (have := hn4; skip) | have hn5 := hc
                             refine awp_skip ?_; refine blockQ_n ?_; refine seqQ_n ?_
                             first
                             | (have h9 := hn1; refine ⟨c1, ⟨hs1.2.1, hs1.1.heard.trans hhe⟩, sdec hs1 hn1, wk zSub zKeep⟩)
                             | (have h9 := hn2; refine ⟨c2, ⟨hs2.2.1, hs2.1.heard.trans hhe⟩, sdec hs2 hn2, wk zSub zKeep⟩)
                             | (have h9 := hn3; refine ⟨c3, ⟨hs3.2.1, hs3.1.heard.trans hhe⟩, sdec hs3 hn3, wk zSub zKeep⟩)
                             | (have h9 := hn4; refine ⟨c4, ⟨hs4.2.1, hs4.1.heard.trans hhe⟩, sdec hs4 hn4, wk zSub zKeep⟩)
                             | (have h9 := hn5; refine ⟨c5, ⟨hs5.2.1, hs5.1.heard.trans hhe⟩, sdec hs5 hn5, wk zSub zKeep⟩)
                            )
                       )
                   · first
                     | (exact absurd hc (by decide))
                     | (exact absurd (hn1.symm.trans hc) (by decide))
                     | (exact absurd (hn2.symm.trans hc) (by decide))
                     | (exact absurd (hn3.symm.trans hc) (by decide))
                     | (first | (have := hn1; skip) | (have := hn2; skip) | (have := hn3; skip) | have hn4 := hc
                        refine awp_skip ?_; refine seqQ_n ?_; refine zS ?_; refine zLd ?_; refine zLd ?_
                        refine aops_call_v zRc (rsame27_con c _) rfl rfl ?_
                        refine zN ?_
                        refine zC (fun hc => ?_) fun hc => ?_
                        · first
                          | (exact absurd hc (by decide))
                          | (exact absurd (hn1.symm.trans hc) (by decide))
                          | (exact absurd (hn2.symm.trans hc) (by decide))
                          | (exact absurd (hn3.symm.trans hc) (by decide))
                          | (exact absurd (hn4.symm.trans hc) (by decide))
                          | (have e5 := sameV_t hs5.1 hc
                             rw [e5]
                             refine awp_seq ?_; refine zS ?_; refine zF 7 2 true ?_; refine zLd ?_
                             refine aops_call_v zRc (rz_con c.bal) rfl rfl ?_
                             refine zNo ?_; refine zN ?_
                             refine zC (fun hc => ?_) fun hc => ?_
                             · have mk37t : True := trivial
                               refine awp_region ?_; refine zF 2 1 false ?_; refine zL1 ?_
                               refine zP (ap_max rfl rfl) ?_
                               refine zF 2 1 false ?_; refine zSt ?_; refine zN (zS ?_); refine zLd ?_; refine zSt ?_; refine zN ?_; refine awp_ret ?_; refine blockQ_r ?_; refine seqQ_r ?_; refine blockQ_r ?_
                               first
                               | (have := mk37t; exact post_ret (.cell rfl zUpd rfl rfl .nil) zKeep ⟨{ c with seq := max c.seq 1 }, rfl, ⟨inv_seq hI _, hhe⟩, rfl⟩)
                               | (have := mk37f; exact post_ret (.cell rfl zUpd rfl rfl .nil) zKeep ⟨c, rfl, ⟨hI, hhe⟩, rfl⟩)
                             · have mk37f : True := trivial
                               refine awp_skip ?_; refine seqQ_n ?_; refine zS ?_; refine zLd ?_; refine zSt ?_; refine zN ?_; refine awp_ret ?_; refine blockQ_r ?_; refine seqQ_r ?_; refine blockQ_r ?_
                               first
                               | (have := mk37t; exact post_ret (.cell rfl zUpd rfl rfl .nil) zKeep ⟨{ c with seq := max c.seq 1 }, rfl, ⟨inv_seq hI _, hhe⟩, rfl⟩)
                               | (have := mk37f; exact post_ret (.cell rfl zUpd rfl rfl .nil) zKeep ⟨c, rfl, ⟨hI, hhe⟩, rfl⟩)
                            )
                        · first
                          | (exact absurd hc (by decide))
                          | (exact absurd (hn1.symm.trans hc) (by decide))
                          | (exact absurd (hn2.symm.trans hc) (by decide))
                          | (exact absurd (hn3.symm.trans hc) (by decide))
                          | (exact absurd (hn4.symm.trans hc) (by decide))
                          | (first | (have := hn1; skip) | (have := hn2; skip) | (have := hn3; skip) | (have := hn4; skip) | have hn5 := hc
                             refine awp_skip ?_; refine blockQ_n ?_; refine seqQ_n ?_
                             first
                             | (have h9 := hn1; refine ⟨c1, ⟨hs1.2.1, hs1.1.heard.trans hhe⟩, sdec hs1 hn1, wk zSub zKeep⟩)
                             | (have h9 := hn2; refine ⟨c2, ⟨hs2.2.1, hs2.1.heard.trans hhe⟩, sdec hs2 hn2, wk zSub zKeep⟩)
                             | (have h9 := hn3; refine ⟨c3, ⟨hs3.2.1, hs3.1.heard.trans hhe⟩, sdec hs3 hn3, wk zSub zKeep⟩)
                             | (have h9 := hn4; refine ⟨c4, ⟨hs4.2.1, hs4.1.heard.trans hhe⟩, sdec hs4 hn4, wk zSub zKeep⟩)
                             | (have h9 := hn5; refine ⟨c5, ⟨hs5.2.1, hs5.1.heard.trans hhe⟩, sdec hs5 hn5, wk zSub zKeep⟩)
                            )
                       )
                  )
              · first
                | (exact absurd hc (by decide))
                | (exact absurd (hn1.symm.trans hc) (by decide))
                | (exact absurd (hn2.symm.trans hc) (by decide))
                | (first | (have := hn1; skip) | (have := hn2; skip) | have hn3 := hc
                   refine awp_skip ?_; refine seqQ_n ?_; refine awp_seq ?_; refine zS ?_; refine zLd ?_; refine zLd ?_
                   refine aops_call_v zRc (rsame27_con c _) rfl rfl ?_
                   refine zN ?_
                   refine zC (fun hc => ?_) fun hc => ?_
                   · first
                     | (exact absurd hc (by decide))
                     | (exact absurd (hn1.symm.trans hc) (by decide))
                     | (exact absurd (hn2.symm.trans hc) (by decide))
                     | (exact absurd (hn3.symm.trans hc) (by decide))
                     | (have e4 := sameV_t hs4.1 hc
                        rw [e4]
                        refine awp_region ?_; refine zLd ?_
                        (refine aops_call zRc (rcaught_con c hI) zSplit rfl rfl ?_; rintro _ _ ⟨c5, rfl, hs5, rfl⟩)
                        refine zSt ?_; refine zN (zS ?_); refine zLd ?_; refine zLd ?_
                        refine aops_call_v zRc (rsame27_con c _) rfl rfl ?_
                        refine zN ?_
                        refine zC (fun hc => ?_) fun hc => ?_
                        · first
                          | (exact absurd hc (by decide))
                          | (exact absurd (hn1.symm.trans hc) (by decide))
                          | (exact absurd (hn2.symm.trans hc) (by decide))
                          | (exact absurd (hn3.symm.trans hc) (by decide))
                          | (exact absurd (hn4.symm.trans hc) (by decide))
                          | (have e5 := sameV_t hs5.1 hc
                             rw [e5]
                             refine awp_seq ?_; refine zS ?_; refine zF 7 2 true ?_; refine zLd ?_
                             refine aops_call_v zRc (rz_con c.bal) rfl rfl ?_
                             refine zNo ?_; refine zN ?_
                             refine zC (fun hc => ?_) fun hc => ?_
                             · have mk37t : True := trivial
                               refine awp_region ?_; refine zF 2 1 false ?_; refine zL1 ?_
                               refine zP (ap_max rfl rfl) ?_
                               refine zF 2 1 false ?_; refine zSt ?_; refine zN (zS ?_); refine zLd ?_; refine zSt ?_; refine zN ?_; refine awp_ret ?_; refine blockQ_r ?_; refine seqQ_r ?_; refine blockQ_r ?_
                               first
                               | (have := mk37t; exact post_ret (.cell rfl zUpd rfl rfl .nil) zKeep ⟨{ c with seq := max c.seq 1 }, rfl, ⟨inv_seq hI _, hhe⟩, rfl⟩)
                               | (have := mk37f; exact post_ret (.cell rfl zUpd rfl rfl .nil) zKeep ⟨c, rfl, ⟨hI, hhe⟩, rfl⟩)
                             · have mk37f : True := trivial
                               refine awp_skip ?_; refine seqQ_n ?_; refine zS ?_; refine zLd ?_; refine zSt ?_; refine zN ?_; refine awp_ret ?_; refine blockQ_r ?_; refine seqQ_r ?_; refine blockQ_r ?_
                               first
                               | (have := mk37t; exact post_ret (.cell rfl zUpd rfl rfl .nil) zKeep ⟨{ c with seq := max c.seq 1 }, rfl, ⟨inv_seq hI _, hhe⟩, rfl⟩)
                               | (have := mk37f; exact post_ret (.cell rfl zUpd rfl rfl .nil) zKeep ⟨c, rfl, ⟨hI, hhe⟩, rfl⟩)
                            )
                        · first
                          | (exact absurd hc (by decide))
                          | (exact absurd (hn1.symm.trans hc) (by decide))
                          | (exact absurd (hn2.symm.trans hc) (by decide))
                          | (exact absurd (hn3.symm.trans hc) (by decide))
                          | (exact absurd (hn4.symm.trans hc) (by decide))
                          | (first | (have := hn1; skip) | (have := hn2; skip) | (have := hn3; skip) | (have := hn4; skip) | have hn5 := hc
                             refine awp_skip ?_; refine blockQ_n ?_; refine seqQ_n ?_
                             first
                             | (have h9 := hn1; refine ⟨c1, ⟨hs1.2.1, hs1.1.heard.trans hhe⟩, sdec hs1 hn1, wk zSub zKeep⟩)
                             | (have h9 := hn2; refine ⟨c2, ⟨hs2.2.1, hs2.1.heard.trans hhe⟩, sdec hs2 hn2, wk zSub zKeep⟩)
                             | (have h9 := hn3; refine ⟨c3, ⟨hs3.2.1, hs3.1.heard.trans hhe⟩, sdec hs3 hn3, wk zSub zKeep⟩)
                             | (have h9 := hn4; refine ⟨c4, ⟨hs4.2.1, hs4.1.heard.trans hhe⟩, sdec hs4 hn4, wk zSub zKeep⟩)
                             | (have h9 := hn5; refine ⟨c5, ⟨hs5.2.1, hs5.1.heard.trans hhe⟩, sdec hs5 hn5, wk zSub zKeep⟩)
                            )
                       )
                   · first
                     | (exact absurd hc (by decide))
                     | (exact absurd (hn1.symm.trans hc) (by decide))
                     | (exact absurd (hn2.symm.trans hc) (by decide))
                     | (exact absurd (hn3.symm.trans hc) (by decide))
                     | (first | (have := hn1; skip) | (have := hn2; skip) | (have := hn3; skip) | have hn4 := hc
                        refine awp_skip ?_; refine seqQ_n ?_; refine zS ?_; refine zLd ?_; refine zLd ?_
                        refine aops_call_v zRc (rsame27_con c _) rfl rfl ?_
                        refine zN ?_
                        refine zC (fun hc => ?_) fun hc => ?_
                        · first
                          | (exact absurd hc (by decide))
                          | (exact absurd (hn1.symm.trans hc) (by decide))
                          | (exact absurd (hn2.symm.trans hc) (by decide))
                          | (exact absurd (hn3.symm.trans hc) (by decide))
                          | (exact absurd (hn4.symm.trans hc) (by decide))
                          | (have e5 := sameV_t hs5.1 hc
                             rw [e5]
                             refine awp_seq ?_; refine zS ?_; refine zF 7 2 true ?_; refine zLd ?_
                             refine aops_call_v zRc (rz_con c.bal) rfl rfl ?_
                             refine zNo ?_; refine zN ?_
                             refine zC (fun hc => ?_) fun hc => ?_
                             · have mk37t : True := trivial
                               refine awp_region ?_; refine zF 2 1 false ?_; refine zL1 ?_
                               refine zP (ap_max rfl rfl) ?_
                               refine zF 2 1 false ?_; refine zSt ?_; refine zN (zS ?_); refine zLd ?_; refine zSt ?_; refine zN ?_; refine awp_ret ?_; refine blockQ_r ?_; refine seqQ_r ?_; refine blockQ_r ?_
                               first
                               | (have := mk37t; exact post_ret (.cell rfl zUpd rfl rfl .nil) zKeep ⟨{ c with seq := max c.seq 1 }, rfl, ⟨inv_seq hI _, hhe⟩, rfl⟩)
                               | (have := mk37f; exact post_ret (.cell rfl zUpd rfl rfl .nil) zKeep ⟨c, rfl, ⟨hI, hhe⟩, rfl⟩)
                             · have mk37f : True := trivial
                               refine awp_skip ?_; refine seqQ_n ?_; refine zS ?_; refine zLd ?_; refine zSt ?_; refine zN ?_; refine awp_ret ?_; refine blockQ_r ?_; refine seqQ_r ?_; refine blockQ_r ?_
                               first
                               | (have := mk37t; exact post_ret (.cell rfl zUpd rfl rfl .nil) zKeep ⟨{ c with seq := max c.seq 1 }, rfl, ⟨inv_seq hI _, hhe⟩, rfl⟩)
                               | (have := mk37f; exact post_ret (.cell rfl zUpd rfl rfl .nil) zKeep ⟨c, rfl, ⟨hI, hhe⟩, rfl⟩)
                            )
                        · first
                          | (exact absurd hc (by decide))
                          | (exact absurd (hn1.symm.trans hc) (by decide))
                          | (exact absurd (hn2.symm.trans hc) (by decide))
                          | (exact absurd (hn3.symm.trans hc) (by decide))
                          | (exact absurd (hn4.symm.trans hc) (by decide))
                          | (first | (have := hn1; skip) | (have := hn2; skip) | (have := hn3; skip) | (have := hn4; skip) | have hn5 := hc
                             refine awp_skip ?_; refine blockQ_n ?_; refine seqQ_n ?_
                             first
                             | (have h9 := hn1; refine ⟨c1, ⟨hs1.2.1, hs1.1.heard.trans hhe⟩, sdec hs1 hn1, wk zSub zKeep⟩)
                             | (have h9 := hn2; refine ⟨c2, ⟨hs2.2.1, hs2.1.heard.trans hhe⟩, sdec hs2 hn2, wk zSub zKeep⟩)
                             | (have h9 := hn3; refine ⟨c3, ⟨hs3.2.1, hs3.1.heard.trans hhe⟩, sdec hs3 hn3, wk zSub zKeep⟩)
                             | (have h9 := hn4; refine ⟨c4, ⟨hs4.2.1, hs4.1.heard.trans hhe⟩, sdec hs4 hn4, wk zSub zKeep⟩)
                             | (have h9 := hn5; refine ⟨c5, ⟨hs5.2.1, hs5.1.heard.trans hhe⟩, sdec hs5 hn5, wk zSub zKeep⟩)
                            )
                       )
                  )
             )
         · first
           | (exact absurd hc (by decide))
           | (exact absurd (hn1.symm.trans hc) (by decide))
           | (first | (have := hn1; skip) | have hn2 := hc
              refine awp_skip ?_; refine seqQ_n ?_; refine awp_seq ?_; refine zS ?_; refine zLd ?_; refine zLd ?_
              refine aops_call_v zRc (rsame27_con c _) rfl rfl ?_
              refine zN ?_
              refine zC (fun hc => ?_) fun hc => ?_
              · first
                | (exact absurd hc (by decide))
                | (exact absurd (hn1.symm.trans hc) (by decide))
                | (exact absurd (hn2.symm.trans hc) (by decide))
                | (have e3 := sameV_t hs3.1 hc
                   rw [e3]
                   refine awp_region ?_; refine zLd ?_
                   (refine aops_call zRc (rfinalm_con c hI) zSplit rfl rfl ?_; rintro _ _ ⟨c4, rfl, hs4, rfl⟩)
                   refine zSt ?_; refine zN ?_; refine awp_seq ?_; refine zS ?_; refine zLd ?_; refine zLd ?_
                   refine aops_call_v zRc (rsame27_con c _) rfl rfl ?_
                   refine zN ?_
                   refine zC (fun hc => ?_) fun hc => ?_
                   · first
                     | (exact absurd hc (by decide))
                     | (exact absurd (hn1.symm.trans hc) (by decide))
                     | (exact absurd (hn2.symm.trans hc) (by decide))
                     | (exact absurd (hn3.symm.trans hc) (by decide))
                     | (have e4 := sameV_t hs4.1 hc
                        rw [e4]
                        refine awp_region ?_; refine zLd ?_
                        (refine aops_call zRc (rcaught_con c hI) zSplit rfl rfl ?_; rintro _ _ ⟨c5, rfl, hs5, rfl⟩)
                        refine zSt ?_; refine zN (zS ?_); refine zLd ?_; refine zLd ?_
                        refine aops_call_v zRc (rsame27_con c _) rfl rfl ?_
                        refine zN ?_
                        refine zC (fun hc => ?_) fun hc => ?_
                        · first
                          | (exact absurd hc (by decide))
                          | (exact absurd (hn1.symm.trans hc) (by decide))
                          | (exact absurd (hn2.symm.trans hc) (by decide))
                          | (exact absurd (hn3.symm.trans hc) (by decide))
                          | (exact absurd (hn4.symm.trans hc) (by decide))
                          | (have e5 := sameV_t hs5.1 hc
                             rw [e5]
                             refine awp_seq ?_; refine zS ?_; refine zF 7 2 true ?_; refine zLd ?_
                             refine aops_call_v zRc (rz_con c.bal) rfl rfl ?_
                             refine zNo ?_; refine zN ?_
                             refine zC (fun hc => ?_) fun hc => ?_
                             · have mk37t : True := trivial
                               refine awp_region ?_; refine zF 2 1 false ?_; refine zL1 ?_
                               refine zP (ap_max rfl rfl) ?_
                               refine zF 2 1 false ?_; refine zSt ?_; refine zN (zS ?_); refine zLd ?_; refine zSt ?_; refine zN ?_; refine awp_ret ?_; refine blockQ_r ?_; refine seqQ_r ?_; refine blockQ_r ?_
                               first
                               | (have := mk37t; exact post_ret (.cell rfl zUpd rfl rfl .nil) zKeep ⟨{ c with seq := max c.seq 1 }, rfl, ⟨inv_seq hI _, hhe⟩, rfl⟩)
                               | (have := mk37f; exact post_ret (.cell rfl zUpd rfl rfl .nil) zKeep ⟨c, rfl, ⟨hI, hhe⟩, rfl⟩)
                             · have mk37f : True := trivial
                               refine awp_skip ?_; refine seqQ_n ?_; refine zS ?_; refine zLd ?_; refine zSt ?_; refine zN ?_; refine awp_ret ?_; refine blockQ_r ?_; refine seqQ_r ?_; refine blockQ_r ?_
                               first
                               | (have := mk37t; exact post_ret (.cell rfl zUpd rfl rfl .nil) zKeep ⟨{ c with seq := max c.seq 1 }, rfl, ⟨inv_seq hI _, hhe⟩, rfl⟩)
                               | (have := mk37f; exact post_ret (.cell rfl zUpd rfl rfl .nil) zKeep ⟨c, rfl, ⟨hI, hhe⟩, rfl⟩)
                            )
                        · first
                          | (exact absurd hc (by decide))
                          | (exact absurd (hn1.symm.trans hc) (by decide))
                          | (exact absurd (hn2.symm.trans hc) (by decide))
                          | (exact absurd (hn3.symm.trans hc) (by decide))
                          | (exact absurd (hn4.symm.trans hc) (by decide))
                          | (first | (have := hn1; skip) | (have := hn2; skip) | (have := hn3; skip) | (have := hn4; skip) | have hn5 := hc
                             refine awp_skip ?_; refine blockQ_n ?_; refine seqQ_n ?_
                             first
                             | (have h9 := hn1; refine ⟨c1, ⟨hs1.2.1, hs1.1.heard.trans hhe⟩, sdec hs1 hn1, wk zSub zKeep⟩)
                             | (have h9 := hn2; refine ⟨c2, ⟨hs2.2.1, hs2.1.heard.trans hhe⟩, sdec hs2 hn2, wk zSub zKeep⟩)
                             | (have h9 := hn3; refine ⟨c3, ⟨hs3.2.1, hs3.1.heard.trans hhe⟩, sdec hs3 hn3, wk zSub zKeep⟩)
                             | (have h9 := hn4; refine ⟨c4, ⟨hs4.2.1, hs4.1.heard.trans hhe⟩, sdec hs4 hn4, wk zSub zKeep⟩)
                             | (have h9 := hn5; refine ⟨c5, ⟨hs5.2.1, hs5.1.heard.trans hhe⟩, sdec hs5 hn5, wk zSub zKeep⟩)
                            )
                       )
                   · first
                     | (exact absurd hc (by decide))
                     | (exact absurd (hn1.symm.trans hc) (by decide))
                     | (exact absurd (hn2.symm.trans hc) (by decide))
                     | (exact absurd (hn3.symm.trans hc) (by decide))
                     | (first | (have := hn1; skip) | (have := hn2; skip) | (have := hn3; skip) | have hn4 := hc
                        refine awp_skip ?_; refine seqQ_n ?_; refine zS ?_; refine zLd ?_; refine zLd ?_
                        refine aops_call_v zRc (rsame27_con c _) rfl rfl ?_
                        refine zN ?_
                        refine zC (fun hc => ?_) fun hc => ?_
                        · first
                          | (exact absurd hc (by decide))
                          | (exact absurd (hn1.symm.trans hc) (by decide))
                          | (exact absurd (hn2.symm.trans hc) (by decide))
                          | (exact absurd (hn3.symm.trans hc) (by decide))
                          | (exact absurd (hn4.symm.trans hc) (by decide))
                          | (have e5 := sameV_t hs5.1 hc
                             rw [e5]
                             refine awp_seq ?_; refine zS ?_; refine zF 7 2 true ?_; refine zLd ?_
                             refine aops_call_v zRc (rz_con c.bal) rfl rfl ?_
                             refine zNo ?_; refine zN ?_
                             refine zC (fun hc => ?_) fun hc => ?_
                             · have mk37t : True := trivial
                               refine awp_region ?_; refine zF 2 1 false ?_; refine zL1 ?_
                               refine zP (ap_max rfl rfl) ?_
                               refine zF 2 1 false ?_; refine zSt ?_; refine zN (zS ?_); refine zLd ?_; refine zSt ?_; refine zN ?_; refine awp_ret ?_; refine blockQ_r ?_; refine seqQ_r ?_; refine blockQ_r ?_
                               first
                               | (have := mk37t; exact post_ret (.cell rfl zUpd rfl rfl .nil) zKeep ⟨{ c with seq := max c.seq 1 }, rfl, ⟨inv_seq hI _, hhe⟩, rfl⟩)
                               | (have := mk37f; exact post_ret (.cell rfl zUpd rfl rfl .nil) zKeep ⟨c, rfl, ⟨hI, hhe⟩, rfl⟩)
                             · have mk37f : True := trivial
                               refine awp_skip ?_; refine seqQ_n ?_; refine zS ?_; refine zLd ?_; refine zSt ?_; refine zN ?_; refine awp_ret ?_; refine blockQ_r ?_; refine seqQ_r ?_; refine blockQ_r ?_
                               first
                               | (have := mk37t; exact post_ret (.cell rfl zUpd rfl rfl .nil) zKeep ⟨{ c with seq := max c.seq 1 }, rfl, ⟨inv_seq hI _, hhe⟩, rfl⟩)
                               | (have := mk37f; exact post_ret (.cell rfl zUpd rfl rfl .nil) zKeep ⟨c, rfl, ⟨hI, hhe⟩, rfl⟩)
                            )
                        · first
                          | (exact absurd hc (by decide))
                          | (exact absurd (hn1.symm.trans hc) (by decide))
                          | (exact absurd (hn2.symm.trans hc) (by decide))
                          | (exact absurd (hn3.symm.trans hc) (by decide))
                          | (exact absurd (hn4.symm.trans hc) (by decide))
                          | (first | (have := hn1; skip) | (have := hn2; skip) | (have := hn3; skip) | (have := hn4; skip) | have hn5 := hc
                             refine awp_skip ?_; refine blockQ_n ?_; refine seqQ_n ?_
                             first
                             | (have h9 := hn1; refine ⟨c1, ⟨hs1.2.1, hs1.1.heard.trans hhe⟩, sdec hs1 hn1, wk zSub zKeep⟩)
                             | (have h9 := hn2; refine ⟨c2, ⟨hs2.2.1, hs2.1.heard.trans hhe⟩, sdec hs2 hn2, wk zSub zKeep⟩)
                             | (have h9 := hn3; refine ⟨c3, ⟨hs3.2.1, hs3.1.heard.trans hhe⟩, sdec hs3 hn3, wk zSub zKeep⟩)
                             | (have h9 := hn4; refine ⟨c4, ⟨hs4.2.1, hs4.1.heard.trans hhe⟩, sdec hs4 hn4, wk zSub zKeep⟩)
                             | (have h9 := hn5; refine ⟨c5, ⟨hs5.2.1, hs5.1.heard.trans hhe⟩, sdec hs5 hn5, wk zSub zKeep⟩)
                            )
                       )
                  )
              · first
                | (exact absurd hc (by decide))
                | (exact absurd (hn1.symm.trans hc) (by decide))
                | (exact absurd (hn2.symm.trans hc) (by decide))
                | (first | (have := hn1; skip) | (have := hn2; skip) | have hn3 := hc
                   refine awp_skip ?_; refine seqQ_n ?_; refine awp_seq ?_; refine zS ?_; refine zLd ?_; refine zLd ?_
                   refine aops_call_v zRc (rsame27_con c _) rfl rfl ?_
                   refine zN ?_
                   refine zC (fun hc => ?_) fun hc => ?_
                   · first
                     | (exact absurd hc (by decide))
                     | (exact absurd (hn1.symm.trans hc) (by decide))
                     | (exact absurd (hn2.symm.trans hc) (by decide))
                     | (exact absurd (hn3.symm.trans hc) (by decide))
                     | (have e4 := sameV_t hs4.1 hc
                        rw [e4]
                        refine awp_region ?_; refine zLd ?_
                        (refine aops_call zRc (rcaught_con c hI) zSplit rfl rfl ?_; rintro _ _ ⟨c5, rfl, hs5, rfl⟩)
                        refine zSt ?_; refine zN (zS ?_); refine zLd ?_; refine zLd ?_
                        refine aops_call_v zRc (rsame27_con c _) rfl rfl ?_
                        refine zN ?_
                        refine zC (fun hc => ?_) fun hc => ?_
                        · first
                          | (exact absurd hc (by decide))
                          | (exact absurd (hn1.symm.trans hc) (by decide))
                          | (exact absurd (hn2.symm.trans hc) (by decide))
                          | (exact absurd (hn3.symm.trans hc) (by decide))
                          | (exact absurd (hn4.symm.trans hc) (by decide))
                          | (have e5 := sameV_t hs5.1 hc
                             rw [e5]
                             refine awp_seq ?_; refine zS ?_; refine zF 7 2 true ?_; refine zLd ?_
                             refine aops_call_v zRc (rz_con c.bal) rfl rfl ?_
                             refine zNo ?_; refine zN ?_
                             refine zC (fun hc => ?_) fun hc => ?_
                             · have mk37t : True := trivial
                               refine awp_region ?_; refine zF 2 1 false ?_; refine zL1 ?_
                               refine zP (ap_max rfl rfl) ?_
                               refine zF 2 1 false ?_; refine zSt ?_; refine zN (zS ?_); refine zLd ?_; refine zSt ?_; refine zN ?_; refine awp_ret ?_; refine blockQ_r ?_; refine seqQ_r ?_; refine blockQ_r ?_
                               first
                               | (have := mk37t; exact post_ret (.cell rfl zUpd rfl rfl .nil) zKeep ⟨{ c with seq := max c.seq 1 }, rfl, ⟨inv_seq hI _, hhe⟩, rfl⟩)
                               | (have := mk37f; exact post_ret (.cell rfl zUpd rfl rfl .nil) zKeep ⟨c, rfl, ⟨hI, hhe⟩, rfl⟩)
                             · have mk37f : True := trivial
                               refine awp_skip ?_; refine seqQ_n ?_; refine zS ?_; refine zLd ?_; refine zSt ?_; refine zN ?_; refine awp_ret ?_; refine blockQ_r ?_; refine seqQ_r ?_; refine blockQ_r ?_
                               first
                               | (have := mk37t; exact post_ret (.cell rfl zUpd rfl rfl .nil) zKeep ⟨{ c with seq := max c.seq 1 }, rfl, ⟨inv_seq hI _, hhe⟩, rfl⟩)
                               | (have := mk37f; exact post_ret (.cell rfl zUpd rfl rfl .nil) zKeep ⟨c, rfl, ⟨hI, hhe⟩, rfl⟩)
                            )
                        · first
                          | (exact absurd hc (by decide))
                          | (exact absurd (hn1.symm.trans hc) (by decide))
                          | (exact absurd (hn2.symm.trans hc) (by decide))
                          | (exact absurd (hn3.symm.trans hc) (by decide))
                          | (exact absurd (hn4.symm.trans hc) (by decide))
                          | (first | (have := hn1; skip) | (have := hn2; skip) | (have := hn3; skip) | (have := hn4; skip) | have hn5 := hc
                             refine awp_skip ?_; refine blockQ_n ?_; refine seqQ_n ?_
                             first
                             | (have h9 := hn1; refine ⟨c1, ⟨hs1.2.1, hs1.1.heard.trans hhe⟩, sdec hs1 hn1, wk zSub zKeep⟩)
                             | (have h9 := hn2; refine ⟨c2, ⟨hs2.2.1, hs2.1.heard.trans hhe⟩, sdec hs2 hn2, wk zSub zKeep⟩)
                             | (have h9 := hn3; refine ⟨c3, ⟨hs3.2.1, hs3.1.heard.trans hhe⟩, sdec hs3 hn3, wk zSub zKeep⟩)
                             | (have h9 := hn4; refine ⟨c4, ⟨hs4.2.1, hs4.1.heard.trans hhe⟩, sdec hs4 hn4, wk zSub zKeep⟩)
                             | (have h9 := hn5; refine ⟨c5, ⟨hs5.2.1, hs5.1.heard.trans hhe⟩, sdec hs5 hn5, wk zSub zKeep⟩)
                            )
                       )
                   · first
                     | (exact absurd hc (by decide))
                     | (exact absurd (hn1.symm.trans hc) (by decide))
                     | (exact absurd (hn2.symm.trans hc) (by decide))
                     | (exact absurd (hn3.symm.trans hc) (by decide))
                     | (first | (have := hn1; skip) | (have := hn2; skip) | (have := hn3; skip) | have hn4 := hc
                        refine awp_skip ?_; refine seqQ_n ?_; refine zS ?_; refine zLd ?_; refine zLd ?_
                        refine aops_call_v zRc (rsame27_con c _) rfl rfl ?_
                        refine zN ?_
                        refine zC (fun hc => ?_) fun hc => ?_
                        · first
                          | (exact absurd hc (by decide))
                          | (exact absurd (hn1.symm.trans hc) (by decide))
                          | (exact absurd (hn2.symm.trans hc) (by decide))
                          | (exact absurd (hn3.symm.trans hc) (by decide))
                          | (exact absurd (hn4.symm.trans hc) (by decide))
                          | (have e5 := sameV_t hs5.1 hc
                             rw [e5]
                             refine awp_seq ?_; refine zS ?_; refine zF 7 2 true ?_; refine zLd ?_
                             refine aops_call_v zRc (rz_con c.bal) rfl rfl ?_
                             refine zNo ?_; refine zN ?_
                             refine zC (fun hc => ?_) fun hc => ?_
                             · have mk37t : True := trivial
                               refine awp_region ?_; refine zF 2 1 false ?_; refine zL1 ?_
                               refine zP (ap_max rfl rfl) ?_
                               refine zF 2 1 false ?_; refine zSt ?_; refine zN (zS ?_); refine zLd ?_; refine zSt ?_; refine zN ?_; refine awp_ret ?_; refine blockQ_r ?_; refine seqQ_r ?_; refine blockQ_r ?_
                               first
                               | (have := mk37t; exact post_ret (.cell rfl zUpd rfl rfl .nil) zKeep ⟨{ c with seq := max c.seq 1 }, rfl, ⟨inv_seq hI _, hhe⟩, rfl⟩)
                               | (have := mk37f; exact post_ret (.cell rfl zUpd rfl rfl .nil) zKeep ⟨c, rfl, ⟨hI, hhe⟩, rfl⟩)
                             · have mk37f : True := trivial
                               refine awp_skip ?_; refine seqQ_n ?_; refine zS ?_; refine zLd ?_; refine zSt ?_; refine zN ?_; refine awp_ret ?_; refine blockQ_r ?_; refine seqQ_r ?_; refine blockQ_r ?_
                               first
                               | (have := mk37t; exact post_ret (.cell rfl zUpd rfl rfl .nil) zKeep ⟨{ c with seq := max c.seq 1 }, rfl, ⟨inv_seq hI _, hhe⟩, rfl⟩)
                               | (have := mk37f; exact post_ret (.cell rfl zUpd rfl rfl .nil) zKeep ⟨c, rfl, ⟨hI, hhe⟩, rfl⟩)
                            )
                        · first
                          | (exact absurd hc (by decide))
                          | (exact absurd (hn1.symm.trans hc) (by decide))
                          | (exact absurd (hn2.symm.trans hc) (by decide))
                          | (exact absurd (hn3.symm.trans hc) (by decide))
                          | (exact absurd (hn4.symm.trans hc) (by decide))
                          | (first | (have := hn1; skip) | (have := hn2; skip) | (have := hn3; skip) | (have := hn4; skip) | have hn5 := hc
                             refine awp_skip ?_; refine blockQ_n ?_; refine seqQ_n ?_
                             first
                             | (have h9 := hn1; refine ⟨c1, ⟨hs1.2.1, hs1.1.heard.trans hhe⟩, sdec hs1 hn1, wk zSub zKeep⟩)
                             | (have h9 := hn2; refine ⟨c2, ⟨hs2.2.1, hs2.1.heard.trans hhe⟩, sdec hs2 hn2, wk zSub zKeep⟩)
                             | (have h9 := hn3; refine ⟨c3, ⟨hs3.2.1, hs3.1.heard.trans hhe⟩, sdec hs3 hn3, wk zSub zKeep⟩)
                             | (have h9 := hn4; refine ⟨c4, ⟨hs4.2.1, hs4.1.heard.trans hhe⟩, sdec hs4 hn4, wk zSub zKeep⟩)
                             | (have h9 := hn5; refine ⟨c5, ⟨hs5.2.1, hs5.1.heard.trans hhe⟩, sdec hs5 hn5, wk zSub zKeep⟩)
                            )
                       )
                  )
             )
        )
set_option maxHeartbeats 2000000 in
theorem rnumb_con (b m : Mach) (hI : InvM m) : Con Tryz.prog 48 [mcv b, mcv m] [] (fun d H => ∃ m' : Mach, d = mcv m' ∧ AdvR m m' ∧ H = []) := by
  have hcap : capB = 140737488355328 := rfl
  refine con_intro Tryz.func48 rfl Tryz.call48 rfl ?_
  refine zS ?_
  refine aops_box rfl zFlat rfl rfl (fun b2 => ?_)
  refine aops_box rfl zFlat rfl rfl (fun b3 => ?_)
  refine aops_alloc rfl zRc rfl rfl (fun b4 => ?_)
  refine zN (zS ?_); refine zLd ?_
  (refine aops_call zRc (radvance_con m hI) zSplit rfl rfl ?_; rintro _ _ ⟨c, rfl, ⟨hcI, hch⟩, rfl⟩)
  refine zSt ?_; refine zN ?_; refine awp_seq ?_; refine zS ?_; refine zF 7 2 true ?_; refine zLd ?_
  refine aops_call_v zRc (rz_con c.bal) rfl rfl ?_
  refine zN ?_
  refine zC (fun hc => ?_) fun hc => ?_
  · refine awp_seq ?_
    refine awp_region ?_; refine zLd ?_; refine zSt ?_; refine zN ?_; refine awp_ret ?_; refine seqQ_r ?_
    exact post_ret (.cell rfl zUpd rfl rfl .nil) zKeep ⟨c, rfl, ⟨hcI, hch⟩, rfl⟩
  · refine awp_skip ?_
    refine seqQ_n ?_; refine awp_seq ?_
    refine awp_draw (Hm := []) zKr zSplit ?_
    refine zTM 0 ?_; refine zTM 2 ?_
    refine aany_each3 1 4 5 zKr (cho rfl (.none rfl) ?_) (cho rfl (.none rfl) ?_) (cho rfl (.none rfl) ?_)
    rotate_left 2
    case' _ =>
      refine aops_alloc rfl zRc rfl rfl (fun b6 => ?_)
      refine aops_nil ?_
      refine aany_each2 1 4 zKr rfl (.none rfl) ?_ rfl (.none rfl) ?_
      rotate_left
      case' _ =>
        refine aops_alloc rfl zRc rfl rfl (fun b5 => ?_)
        refine aops_nil ?_
        refine aany_one 1 zKr rfl (.none rfl) ?_
        refine aops_call_v zRc (renv_con b) rfl rfl ?_
        refine aops_nil ?_
        refine aany_one 3 zKr rfl (.none rfl) ?_
        refine aops_call_v zRc (renv_con c) rfl rfl ?_
        refine aops_nil ?_
        refine aany_one 6 zKr rfl (.none rfl) ?_
        refine zSt ?_; refine aops_nil ?_
        refine aany_one 7 zKr rfl (.none rfl) ?_
        refine zSt ?_; refine aops_nil ?_; refine aany_nil zKr ?_
      rotate_right
      case' _ =>
        refine aops_call_v zRc (renv_con b) rfl rfl ?_
        refine aops_nil ?_
        refine aany_each2 3 4 zKr rfl (.none rfl) ?_ rfl (.none rfl) ?_
        rotate_left
        case' _ =>
          refine aops_alloc rfl zRc rfl rfl (fun b5 => ?_)
          refine aops_nil ?_
          refine aany_one 3 zKr rfl (.none rfl) ?_
          refine aops_call_v zRc (renv_con c) rfl rfl ?_
          refine aops_nil ?_
          refine aany_one 6 zKr rfl (.none rfl) ?_
          refine zSt ?_; refine aops_nil ?_
          refine aany_one 7 zKr rfl (.none rfl) ?_
          refine zSt ?_; refine aops_nil ?_; refine aany_nil zKr ?_
        rotate_right
        case' _ =>
          refine aops_call_v zRc (renv_con c) rfl rfl ?_
          refine aops_nil ?_
          refine aany_one 4 zKr rfl (.none rfl) ?_
          refine aops_alloc rfl zRc rfl rfl (fun b5 => ?_)
          refine aops_nil ?_
          refine aany_one 6 zKr rfl (.none rfl) ?_
          refine zSt ?_; refine aops_nil ?_
          refine aany_one 7 zKr rfl (.none rfl) ?_
          refine zSt ?_; refine aops_nil ?_; refine aany_nil zKr ?_
    rotate_right
    case' _ =>
      refine aops_alloc rfl zRc rfl rfl (fun b5 => ?_)
      refine aops_nil ?_
      refine aany_each2 1 5 zKr rfl (.none rfl) ?_ rfl (.none rfl) ?_
      rotate_left
      case' _ =>
        refine aops_alloc rfl zRc rfl rfl (fun b6 => ?_)
        refine aops_nil ?_
        refine aany_one 1 zKr rfl (.none rfl) ?_
        refine aops_call_v zRc (renv_con b) rfl rfl ?_
        refine aops_nil ?_
        refine aany_one 3 zKr rfl (.none rfl) ?_
        refine aops_call_v zRc (renv_con c) rfl rfl ?_
        refine aops_nil ?_
        refine aany_one 6 zKr rfl (.none rfl) ?_
        refine zSt ?_; refine aops_nil ?_
        refine aany_one 7 zKr rfl (.none rfl) ?_
        refine zSt ?_; refine aops_nil ?_; refine aany_nil zKr ?_
      rotate_right
      case' _ =>
        refine aops_call_v zRc (renv_con b) rfl rfl ?_
        refine aops_nil ?_
        refine aany_each2 3 5 zKr rfl (.none rfl) ?_ rfl (.none rfl) ?_
        rotate_left
        case' _ =>
          refine aops_alloc rfl zRc rfl rfl (fun b6 => ?_)
          refine aops_nil ?_
          refine aany_one 3 zKr rfl (.none rfl) ?_
          refine aops_call_v zRc (renv_con c) rfl rfl ?_
          refine aops_nil ?_
          refine aany_one 6 zKr rfl (.none rfl) ?_
          refine zSt ?_; refine aops_nil ?_
          refine aany_one 7 zKr rfl (.none rfl) ?_
          refine zSt ?_; refine aops_nil ?_; refine aany_nil zKr ?_
        rotate_right
        case' _ =>
          refine aops_call_v zRc (renv_con c) rfl rfl ?_
          refine aops_nil ?_
          refine aany_one 5 zKr rfl (.none rfl) ?_
          refine aops_alloc rfl zRc rfl rfl (fun b6 => ?_)
          refine aops_nil ?_
          refine aany_one 6 zKr rfl (.none rfl) ?_
          refine zSt ?_; refine aops_nil ?_
          refine aany_one 7 zKr rfl (.none rfl) ?_
          refine zSt ?_; refine aops_nil ?_; refine aany_nil zKr ?_
    rotate_right
    case' _ =>
      refine aops_call_v zRc (renv_con b) rfl rfl ?_
      refine aops_nil ?_
      refine aany_each3 3 4 5 zKr (cho rfl (.none rfl) ?_) (cho rfl (.none rfl) ?_) (cho rfl (.none rfl) ?_)
      rotate_left 2
      case' _ =>
        refine aops_alloc rfl zRc rfl rfl (fun b6 => ?_)
        refine aops_nil ?_
        refine aany_each2 3 4 zKr rfl (.none rfl) ?_ rfl (.none rfl) ?_
        rotate_left
        case' _ =>
          refine aops_alloc rfl zRc rfl rfl (fun b5 => ?_)
          refine aops_nil ?_
          refine aany_one 3 zKr rfl (.none rfl) ?_
          refine aops_call_v zRc (renv_con c) rfl rfl ?_
          refine aops_nil ?_
          refine aany_one 6 zKr rfl (.none rfl) ?_
          refine zSt ?_; refine aops_nil ?_
          refine aany_one 7 zKr rfl (.none rfl) ?_
          refine zSt ?_; refine aops_nil ?_; refine aany_nil zKr ?_
        rotate_right
        case' _ =>
          refine aops_call_v zRc (renv_con c) rfl rfl ?_
          refine aops_nil ?_
          refine aany_one 4 zKr rfl (.none rfl) ?_
          refine aops_alloc rfl zRc rfl rfl (fun b5 => ?_)
          refine aops_nil ?_
          refine aany_one 6 zKr rfl (.none rfl) ?_
          refine zSt ?_; refine aops_nil ?_
          refine aany_one 7 zKr rfl (.none rfl) ?_
          refine zSt ?_; refine aops_nil ?_; refine aany_nil zKr ?_
      rotate_right
      case' _ =>
        refine aops_alloc rfl zRc rfl rfl (fun b5 => ?_)
        refine aops_nil ?_
        refine aany_each2 3 5 zKr rfl (.none rfl) ?_ rfl (.none rfl) ?_
        rotate_left
        case' _ =>
          refine aops_alloc rfl zRc rfl rfl (fun b6 => ?_)
          refine aops_nil ?_
          refine aany_one 3 zKr rfl (.none rfl) ?_
          refine aops_call_v zRc (renv_con c) rfl rfl ?_
          refine aops_nil ?_
          refine aany_one 6 zKr rfl (.none rfl) ?_
          refine zSt ?_; refine aops_nil ?_
          refine aany_one 7 zKr rfl (.none rfl) ?_
          refine zSt ?_; refine aops_nil ?_; refine aany_nil zKr ?_
        rotate_right
        case' _ =>
          refine aops_call_v zRc (renv_con c) rfl rfl ?_
          refine aops_nil ?_
          refine aany_one 5 zKr rfl (.none rfl) ?_
          refine aops_alloc rfl zRc rfl rfl (fun b6 => ?_)
          refine aops_nil ?_
          refine aany_one 6 zKr rfl (.none rfl) ?_
          refine zSt ?_; refine aops_nil ?_
          refine aany_one 7 zKr rfl (.none rfl) ?_
          refine zSt ?_; refine aops_nil ?_; refine aany_nil zKr ?_
      rotate_right
      case' _ =>
        refine aops_call_v zRc (renv_con c) rfl rfl ?_
        refine aops_nil ?_
        refine aany_each2 4 5 zKr rfl (.none rfl) ?_ rfl (.none rfl) ?_
        rotate_left
        case' _ =>
          refine aops_alloc rfl zRc rfl rfl (fun b6 => ?_)
          refine aops_nil ?_
          refine aany_one 4 zKr rfl (.none rfl) ?_
          refine aops_alloc rfl zRc rfl rfl (fun b5 => ?_)
          refine aops_nil ?_
          refine aany_one 6 zKr rfl (.none rfl) ?_
          refine zSt ?_; refine aops_nil ?_
          refine aany_one 7 zKr rfl (.none rfl) ?_
          refine zSt ?_; refine aops_nil ?_; refine aany_nil zKr ?_
        rotate_right
        case' _ =>
          refine aops_alloc rfl zRc rfl rfl (fun b5 => ?_)
          refine aops_nil ?_
          refine aany_one 5 zKr rfl (.none rfl) ?_
          refine aops_alloc rfl zRc rfl rfl (fun b6 => ?_)
          refine aops_nil ?_
          refine aany_one 6 zKr rfl (.none rfl) ?_
          refine zSt ?_; refine aops_nil ?_
          refine aany_one 7 zKr rfl (.none rfl) ?_
          refine zSt ?_; refine aops_nil ?_; refine aany_nil zKr ?_
    all_goals (
      refine seqQ_n ?_; refine zS ?_; refine zF 2 1 false ?_; refine zSt ?_; refine zF 2 1 false ?_; refine zSt ?_; refine zN ?_; refine awp_seq ?_; refine zS ?_; refine zF 7 2 true ?_; refine zLd ?_
      refine aops_call_v zRc (rz_con b.bal) rfl rfl ?_
      refine zNo ?_; refine zMv ?_
      all_goals first | (refine zY ?_; refine zLd ?_) | refine zU ?_ | refine zNt ?_ | (refine zGt (fun hg => ?_) fun hg => ?_; case' _ => refine zLd ?_)
      all_goals first | (refine zY ?_; refine zLd ?_) | refine zU ?_ | refine zNt ?_ | (refine zGt (fun hg => ?_) fun hg => ?_; case' _ => refine zLd ?_)
      all_goals first | (refine zY ?_; (refine aops_call zRc (rsame24_con { envR b with seq := 0 } { envR c with seq := 0 }) zSplit rfl rfl ?_; rintro _ _ ⟨y26, rfl, rfl⟩)) | refine zU ?_ | refine zNt ?_ | (refine zGt (fun hg => ?_) fun hg => ?_; case' _ => (refine aops_call zRc (rsame24_con { envR b with seq := 0 } { envR c with seq := 0 }) zSplit rfl rfl ?_; rintro _ _ ⟨y26, rfl, rfl⟩))
      all_goals first | (refine zY ?_; refine zNo ?_) | refine zU ?_ | refine zNt ?_ | (refine zGt (fun hg => ?_) fun hg => ?_; case' _ => refine zNo ?_)
      all_goals refine zPk ?_
      all_goals (
        refine zN ?_
        refine zC (fun hc => ?_) fun hc => ?_
        · first
          | (exact absurd hc (by decide))
          | (have mk28t : True := trivial
             refine awp_region ?_; refine zF 2 1 false ?_; refine zL1 ?_
             refine zP (ap_arithw rfl rfl rfl) ?_
             refine zP (ap_min rfl rfl) ?_
             refine zF 2 1 false ?_; refine zSt ?_; refine zN (zS ?_); refine zLd ?_; refine zSt ?_; refine zN ?_; refine awp_ret ?_
             first
             | (have := mk28t; exact post_ret (.cell rfl zUpd rfl rfl .nil) zKeep ⟨{ c with seq := min (IntKind.i64.wrap (c.seq + 1)) 1000000 }, rfl, ⟨inv_seq hcI _, hch⟩, rfl⟩)
             | (have := mk28f; exact post_ret (.cell rfl zUpd rfl rfl .nil) zKeep ⟨c, rfl, ⟨hcI, hch⟩, rfl⟩)
            )
        · first
          | (exact absurd hc (by decide))
          | (have mk28f : True := trivial
             refine awp_skip ?_; refine seqQ_n ?_; refine zS ?_; refine zLd ?_; refine zSt ?_; refine zN ?_; refine awp_ret ?_
             first
             | (have := mk28t; exact post_ret (.cell rfl zUpd rfl rfl .nil) zKeep ⟨{ c with seq := min (IntKind.i64.wrap (c.seq + 1)) 1000000 }, rfl, ⟨inv_seq hcI _, hch⟩, rfl⟩)
             | (have := mk28f; exact post_ret (.cell rfl zUpd rfl rfl .nil) zKeep ⟨c, rfl, ⟨hcI, hch⟩, rfl⟩)
            )
        )
      )
set_option maxHeartbeats 2000000 in
theorem rput_con (p : Evp → Prop) (l : List Evp) (hlen : l.length ≤ 100) (e : Evp) (hs : sizeT e.t ≤ 1000000000) (hl : ∀ x ∈ l, p x) (he : vE e = true → p e) : Con Tryz.prog 51 [.sl 15 (l.map ev), ev e] [] (fun d H => ∃ (q : List Evp) (y : Bool), d = .tup [.sl 15 (q.map ev), .b y] ∧ (q.length ≤ l.length + 1 ∧ ∀ x ∈ q, p x) ∧ H = []) := by
  have hcap : capB = 140737488355328 := rfl
  have hml : (l.map ev).length = l.length := by simp
  refine con_intro Tryz.func51 rfl Tryz.call51 rfl ?_
  refine zS ?_
  refine aops_box rfl zFlat rfl rfl (fun b3 => ?_)
  refine zAs ?_; refine zAs ?_; refine zN ?_; refine awp_seq ?_; refine zS ?_; refine zLd ?_
  refine aops_call_v zRc (rvalid24_con e hs) rfl rfl ?_
  refine zNo ?_; refine zN ?_
  refine zC (fun hc => ?_) fun hc => ?_
  · refine awp_seq ?_
    refine awp_region ?_; refine zMv ?_; refine zAs ?_; refine zAs ?_; refine zN ?_; refine awp_ret ?_; refine seqQ_r ?_
    exact post_ret (.tmp rfl (.tmp rfl .nil)) zKeep ⟨l, false, rfl, ⟨by omega, hl⟩, rfl⟩
  · have hve := he (not_f hc)
    refine awp_skip ?_; refine seqQ_n ?_; refine awp_seq ?_; refine zS ?_; refine zMv ?_
    first | refine aops_len rfl rfl rfl rfl (fun _ => ?_) | refine zP (ap_len_arr rfl zUpd rfl) ?_ | refine zP (ap_len_nil rfl rfl) ?_
    refine zMv ?_; refine zN ?_; refine awp_block ?_
    refine awp_loop1 [0, 3, 13, 14] [.box b3 _ _] (fun (i : Nat) r => (15, .i (i : Int)) :: r) (fun (i : Nat) r => r) (fun (i : Nat) => i ≤ l.length) (fun (i : Nat) => l.length - i) (0) zRc (by omega) (wk zSub zKeep) ?_
    intro i hi
    refine zS ?_; refine zCm ?_; refine zN ?_; refine awp_seq ?_
    refine zC (fun hc => ?_) fun hc => ?_
    · have hlt := of_decide_eq_true hc
      obtain ⟨x, hx, hd⟩ := drop_cons (l := l) (k := i) (by omega)
      have hx' := getMap ev hx
      refine awp_skip ?_; refine seqQ_n ?_; refine awp_seq ?_; refine awp_block ?_; refine zS ?_; refine zMv ?_
      first | refine zP (ap_index rfl rfl rfl rfl (by decide) rfl zAss) ?_ | refine zP (ap_index rfl rfl rfl rfl (by decide) (by omega) zAss) ?_ | refine zP (ap_index_own rfl rfl rfl rfl rfl (by first | omega | (simp only [List.length_map, List.length_set, avs_len]; omega))) ?_
      refine zLd ?_
      refine aops_alloc rfl zRc rfl rfl (fun b7 => ?_)
      refine zAs ?_; refine zSt ?_; refine zN (zS ?_); refine zF 0 1 false ?_; refine zL1 ?_; refine zF 0 1 false ?_; refine zL1 ?_; refine zCm ?_; refine zN ?_
      refine zC (fun hc => ?_) fun hc => ?_
      · refine awp_seq ?_
        refine zS ?_; refine zF 2 1 false ?_; refine zL1 ?_; refine zF 2 1 false ?_; refine zL1 ?_; refine zCm ?_; refine zN ?_
        refine zC (fun hc => ?_) fun hc => ?_
        · refine awp_seq ?_
          refine awp_region ?_; refine zMv ?_; refine zAs ?_; refine zAs ?_; refine zN ?_; refine awp_ret ?_; refine seqQ_r ?_; refine blockQ_r ?_; refine seqQ_r ?_; refine seqQ_r ?_; refine blockQ_r ?_; refine seqQ_r ?_
          exact post_ret (.tmp rfl (.tmp rfl .nil)) zKeep ⟨l, false, rfl, ⟨by omega, hl⟩, rfl⟩
        · refine awp_skip ?_
          refine seqQ_n ?_; refine awp_seq ?_
          refine awp_draw (Hm := []) zKr zSplit ?_
          refine zT 0 rfl (AP.ar (ap_move rfl)) ?_
          refine zT 1 rfl (AP.ar (ap_move rfl)) ?_
          refine zT 2 rfl (AP.ar (ap_slice_to rfl rfl rfl rfl rfl (by omega))) ?_
          refine zTM 4 ?_
          refine zT 7 rfl (AP.ar (ap_move rfl)) ?_
          refine zT 8 rfl (AP.ar (ap_move rfl)) ?_
          refine zT 9 rfl (AP.ar (ap_arith rfl rfl rfl (by omega))) ?_
          first | refine zT 10 rfl (AP.ar (ap_slice_own_from rfl zUpd rfl rfl rfl rfl (by omega))) ?_ | refine zT 10 rfl (AP.ar (ap_slice_from rfl rfl rfl rfl rfl (by simp only [List.length_map]; omega))) ?_
          refine aany_each2 3 5 zKr rfl (.none rfl) ?_ rfl (.none rfl) ?_
          rotate_left
          case' _ =>
            refine aops_lit (e := 52) (sz := 15) (by_ := 176) rfl rfl zRc rfl rfl rfl rfl ?_
            refine aops_nil ?_
            refine aany_one 3 zKr rfl (.none rfl) ?_
            first | refine aops_append (e := 52) (sz := 15) (by_ := 176) rfl zUpd rfl rfl rfl rfl rfl (by simp only [List.length_cons, List.length_nil, List.length_append, List.length_map, List.length_take, List.length_drop]; omega) (fun v34 hv34 => ?_) | refine aops_append_nil (e := 52) (sz := 15) (by_ := 176) rfl rfl rfl rfl rfl rfl (by simp only [List.length_cons, List.length_nil, List.length_append, List.length_map, List.length_take, List.length_drop]; omega) (fun v34 hv34 => ?_)
            refine aops_nil ?_
            refine aany_one 6 zKr rfl (.none rfl) ?_
            first | refine aops_append (e := 52) (sz := 15) (by_ := 176) rfl zUpd rfl rfl rfl rfl rfl (by simp only [List.length_cons, List.length_nil, List.length_append, List.length_map, List.length_take, List.length_drop]; omega) (fun v37 hv37 => ?_) | refine aops_append_nil (e := 52) (sz := 15) (by_ := 176) rfl rfl rfl rfl rfl rfl (by simp only [List.length_cons, List.length_nil, List.length_append, List.length_map, List.length_take, List.length_drop]; omega) (fun v37 hv37 => ?_)
            refine aops_nil ?_
            refine aany_one 11 zKr rfl (.none rfl) ?_
            first | refine aops_append (e := 52) (sz := 15) (by_ := 176) rfl zUpd rfl rfl rfl rfl rfl (by simp only [List.length_cons, List.length_nil, List.length_append, List.length_map, List.length_take, List.length_drop]; omega) (fun v42 hv42 => ?_) | refine aops_append_nil (e := 52) (sz := 15) (by_ := 176) rfl rfl rfl rfl rfl rfl (by simp only [List.length_cons, List.length_nil, List.length_append, List.length_map, List.length_take, List.length_drop]; omega) (fun v42 hv42 => ?_)
            refine aops_nil ?_
            refine zT 12 rfl (AP.ar (ap_assign rfl)) ?_
            refine zT 13 rfl (AP.ar (ap_assign rfl)) ?_
            refine aany_nil zKr ?_
          rotate_right
          case' _ =>
            first | refine aops_append (e := 52) (sz := 15) (by_ := 176) rfl zUpd rfl rfl rfl rfl rfl (by simp only [List.length_cons, List.length_nil, List.length_append, List.length_map, List.length_take, List.length_drop]; omega) (fun v34 hv34 => ?_) | refine aops_append_nil (e := 52) (sz := 15) (by_ := 176) rfl rfl rfl rfl rfl rfl (by simp only [List.length_cons, List.length_nil, List.length_append, List.length_map, List.length_take, List.length_drop]; omega) (fun v34 hv34 => ?_)
            refine aops_nil ?_
            refine aany_one 5 zKr rfl (.none rfl) ?_
            refine aops_lit (e := 52) (sz := 15) (by_ := 176) rfl rfl zRc rfl rfl rfl rfl ?_
            refine aops_nil ?_
            refine aany_one 6 zKr rfl (.none rfl) ?_
            first | refine aops_append (e := 52) (sz := 15) (by_ := 176) rfl zUpd rfl rfl rfl rfl rfl (by simp only [List.length_cons, List.length_nil, List.length_append, List.length_map, List.length_take, List.length_drop]; omega) (fun v37 hv37 => ?_) | refine aops_append_nil (e := 52) (sz := 15) (by_ := 176) rfl rfl rfl rfl rfl rfl (by simp only [List.length_cons, List.length_nil, List.length_append, List.length_map, List.length_take, List.length_drop]; omega) (fun v37 hv37 => ?_)
            refine aops_nil ?_
            refine aany_one 11 zKr rfl (.none rfl) ?_
            first | refine aops_append (e := 52) (sz := 15) (by_ := 176) rfl zUpd rfl rfl rfl rfl rfl (by simp only [List.length_cons, List.length_nil, List.length_append, List.length_map, List.length_take, List.length_drop]; omega) (fun v42 hv42 => ?_) | refine aops_append_nil (e := 52) (sz := 15) (by_ := 176) rfl rfl rfl rfl rfl rfl (by simp only [List.length_cons, List.length_nil, List.length_append, List.length_map, List.length_take, List.length_drop]; omega) (fun v42 hv42 => ?_)
            refine aops_nil ?_
            refine zT 12 rfl (AP.ar (ap_assign rfl)) ?_
            refine zT 13 rfl (AP.ar (ap_assign rfl)) ?_
            refine aany_nil zKr ?_
          all_goals (
            refine seqQ_n ?_
            first | (rw [show D.agg [.i e.node, .i e.slot, .i e.seq, .i e.t.th, .sl 1 (e.t.nodes.map .i), .sl 3 (avs e.t.inner), .i e.kind, .i e.bal.n, .v (.string e.bal.v), .i e.prep.n, .v (.string e.prep.v), .i e.prime.n, .v (.string e.prime.v), .i e.low, .i e.high] = ev e from rfl, map_put]; refine awp_freeze v42 [4,5] zRem zSelC zHeapA ?_) | skip
            refine awp_ret ?_; refine blockQ_r ?_; refine seqQ_r ?_; refine seqQ_r ?_; refine blockQ_r ?_; refine seqQ_r ?_
            exact post_ret (.tmp rfl (.tmp rfl .nil)) zKeep ⟨_, true, rfl, ⟨put_len (by omega), put_mem hl hve⟩, rfl⟩
            )
      · refine awp_skip ?_
        refine blockQ_n ?_; refine seqQ_n ?_; refine awp_region ?_; refine zAr ?_; refine zMv ?_; refine zN ?_
        refine ⟨i + 1, by omega, by omega, wk zSub zKeep⟩
    · refine awp_exit ?_
      refine seqQ_x ?_; refine seqQ_x ?_; refine blockQ_x rfl ?_; refine seqQ_n ?_; refine zS ?_; refine zAs ?_; refine zN ?_; refine awp_seq ?_; refine awp_block ?_
      refine awp_loop1 [0, 3] [.box b3 _ _] (fun (k : Nat) r => (8, .i (k : Int)) :: r) (fun (k : Nat) r => r) (fun (k : Nat) => k ≤ l.length) (fun (k : Nat) => l.length - k) (0) zRc (by omega) (wk zSub zKeep) ?_
      intro k hk
      obtain ⟨y, hy⟩ := at_ex l k e
      refine awp_seq ?_; refine awp_seq ?_
      refine awp_draw (Hm := []) zKr zSplit ?_
      refine zT 0 rfl (AP.ar (ap_move rfl)) ?_
      refine zT 1 rfl (AP.ar (ap_move rfl)) ?_
      first | refine zT 2 rfl (AP.ar (ap_len rfl rfl)) ?_ | refine zT 2 rfl (ar_len_arr rfl zUpd rfl) ?_ | refine zT 2 rfl (AP.ar (ap_len_nil rfl rfl)) ?_
      refine zT 3 rfl (AP.ar (ap_cmp rfl rfl rfl)) ?_
      refine zT 4 rfl (AP.ar (ap_move rfl)) ?_
      refine aany_guard 4 rfl (fun hg => ?_) (fun hg => ?_)
      rotate_left
      case' _ =>
        refine zK 5 ?_; refine zK 6 ?_; refine zK 7 ?_; refine zK 8 ?_; refine zK 9 ?_; refine zK 10 ?_; refine zK 11 ?_; refine zK 12 ?_; refine zTp 13 ?_; refine aany_nil zKr ?_
      rotate_right
      case' _ =>
        refine zT 5 rfl (AP.ar (ap_move rfl)) ?_
        refine zT 6 rfl (AP.ar (ap_move rfl)) ?_
        refine aany_take 7 rfl (.yes rfl rfl zDec) zKr zKr zKr (AP.ar (ap_index (k := k) rfl rfl rfl rfl (by decide) rfl (getMap ev (hy (by have h9 : decide ((k : Int) < ((l.map ev).length : Int)) = true := (by first | with_reducible assumption | exact hg); have := of_decide_eq_true h9; simp only [List.length_map] at this; omega))))) rfl rfl ?_
        refine zTF 8 0 1 false ?_; refine zTL 9 ?_; refine zTF 10 0 1 false ?_; refine zTL 11 ?_
        refine zT 12 rfl (AP.ar (ap_cmp rfl rfl rfl)) ?_
        refine zTp 13 ?_; refine aany_nil zKr ?_
      all_goals (
        refine seqQ_n ?_
        refine zC (fun hc => ?_) fun hc => ?_
        · first
          | (exact absurd hc (by decide))
          | (refine awp_skip ?_
             refine seqQ_n ?_; refine awp_block ?_; refine awp_region ?_; refine zMv ?_; refine zAr ?_; refine zAs ?_; refine aops_nil ?_; refine blockQ_n ?_; refine seqQ_n ?_
             have hlt : k < l.length := by have h9 : decide ((k : Int) < ((l.map ev).length : Int)) = true := (by first | with_reducible assumption | exact hg | exact hc); have := of_decide_eq_true h9; omega
             refine ⟨k + 1, by omega, by omega, wk zSub zKeep⟩
            )
        · first
          | (exact absurd hc (by decide))
          | (refine awp_exit ?_
             refine seqQ_x ?_; refine seqQ_x ?_; refine blockQ_x rfl ?_; refine seqQ_n ?_; refine awp_seq ?_
             refine awp_draw (Hm := []) zKr zSplit ?_
             refine zT 0 rfl (AP.ar (ap_move rfl)) ?_
             refine zT 1 rfl (AP.ar (ap_move rfl)) ?_
             refine zT 2 rfl (AP.ar (ap_slice_to rfl rfl rfl rfl rfl (by omega))) ?_
             refine zTM 4 ?_
             refine zT 7 rfl (AP.ar (ap_move rfl)) ?_
             refine zT 8 rfl (AP.ar (ap_move rfl)) ?_
             first | refine zT 9 rfl (AP.ar (ap_slice_own_from rfl zUpd rfl rfl rfl rfl (by omega))) ?_ | refine zT 9 rfl (AP.ar (ap_slice_from rfl rfl rfl rfl rfl (by simp only [List.length_map]; omega))) ?_
             refine aany_each2 3 5 zKr rfl (.none rfl) ?_ rfl (.none rfl) ?_
             rotate_left
             case' _ =>
               refine aops_lit (e := 52) (sz := 15) (by_ := 176) rfl rfl zRc rfl rfl rfl rfl ?_
               refine aops_nil ?_
               refine aany_one 3 zKr rfl (.none rfl) ?_
               first | refine aops_append (e := 52) (sz := 15) (by_ := 176) rfl zUpd rfl rfl rfl rfl rfl (by simp only [List.length_cons, List.length_nil, List.length_append, List.length_map, List.length_take, List.length_drop]; omega) (fun v63 hv63 => ?_) | refine aops_append_nil (e := 52) (sz := 15) (by_ := 176) rfl rfl rfl rfl rfl rfl (by simp only [List.length_cons, List.length_nil, List.length_append, List.length_map, List.length_take, List.length_drop]; omega) (fun v63 hv63 => ?_)
               refine aops_nil ?_
               refine aany_one 6 zKr rfl (.none rfl) ?_
               first | refine aops_append (e := 52) (sz := 15) (by_ := 176) rfl zUpd rfl rfl rfl rfl rfl (by simp only [List.length_cons, List.length_nil, List.length_append, List.length_map, List.length_take, List.length_drop]; omega) (fun v66 hv66 => ?_) | refine aops_append_nil (e := 52) (sz := 15) (by_ := 176) rfl rfl rfl rfl rfl rfl (by simp only [List.length_cons, List.length_nil, List.length_append, List.length_map, List.length_take, List.length_drop]; omega) (fun v66 hv66 => ?_)
               refine aops_nil ?_
               refine aany_one 10 zKr rfl (.none rfl) ?_
               first | refine aops_append (e := 52) (sz := 15) (by_ := 176) rfl zUpd rfl rfl rfl rfl rfl (by simp only [List.length_cons, List.length_nil, List.length_append, List.length_map, List.length_take, List.length_drop]; omega) (fun v70 hv70 => ?_) | refine aops_append_nil (e := 52) (sz := 15) (by_ := 176) rfl rfl rfl rfl rfl rfl (by simp only [List.length_cons, List.length_nil, List.length_append, List.length_map, List.length_take, List.length_drop]; omega) (fun v70 hv70 => ?_)
               refine aops_nil ?_
               refine zT 11 rfl (AP.ar (ap_assign rfl)) ?_
               refine zT 12 rfl (AP.ar (ap_assign rfl)) ?_
               refine aany_nil zKr ?_
             rotate_right
             case' _ =>
               first | refine aops_append (e := 52) (sz := 15) (by_ := 176) rfl zUpd rfl rfl rfl rfl rfl (by simp only [List.length_cons, List.length_nil, List.length_append, List.length_map, List.length_take, List.length_drop]; omega) (fun v63 hv63 => ?_) | refine aops_append_nil (e := 52) (sz := 15) (by_ := 176) rfl rfl rfl rfl rfl rfl (by simp only [List.length_cons, List.length_nil, List.length_append, List.length_map, List.length_take, List.length_drop]; omega) (fun v63 hv63 => ?_)
               refine aops_nil ?_
               refine aany_one 5 zKr rfl (.none rfl) ?_
               refine aops_lit (e := 52) (sz := 15) (by_ := 176) rfl rfl zRc rfl rfl rfl rfl ?_
               refine aops_nil ?_
               refine aany_one 6 zKr rfl (.none rfl) ?_
               first | refine aops_append (e := 52) (sz := 15) (by_ := 176) rfl zUpd rfl rfl rfl rfl rfl (by simp only [List.length_cons, List.length_nil, List.length_append, List.length_map, List.length_take, List.length_drop]; omega) (fun v66 hv66 => ?_) | refine aops_append_nil (e := 52) (sz := 15) (by_ := 176) rfl rfl rfl rfl rfl rfl (by simp only [List.length_cons, List.length_nil, List.length_append, List.length_map, List.length_take, List.length_drop]; omega) (fun v66 hv66 => ?_)
               refine aops_nil ?_
               refine aany_one 10 zKr rfl (.none rfl) ?_
               first | refine aops_append (e := 52) (sz := 15) (by_ := 176) rfl zUpd rfl rfl rfl rfl rfl (by simp only [List.length_cons, List.length_nil, List.length_append, List.length_map, List.length_take, List.length_drop]; omega) (fun v70 hv70 => ?_) | refine aops_append_nil (e := 52) (sz := 15) (by_ := 176) rfl rfl rfl rfl rfl rfl (by simp only [List.length_cons, List.length_nil, List.length_append, List.length_map, List.length_take, List.length_drop]; omega) (fun v70 hv70 => ?_)
               refine aops_nil ?_
               refine zT 11 rfl (AP.ar (ap_assign rfl)) ?_
               refine zT 12 rfl (AP.ar (ap_assign rfl)) ?_
               refine aany_nil zKr ?_
             all_goals (
               refine seqQ_n ?_
               first | (rw [show D.agg [.i e.node, .i e.slot, .i e.seq, .i e.t.th, .sl 1 (e.t.nodes.map .i), .sl 3 (avs e.t.inner), .i e.kind, .i e.bal.n, .v (.string e.bal.v), .i e.prep.n, .v (.string e.prep.v), .i e.prime.n, .v (.string e.prime.v), .i e.low, .i e.high] = ev e from rfl, map_put]; refine awp_freeze v70 [4,5] zRem zSelC zHeapA ?_) | skip
               refine awp_ret ?_
               exact post_ret (.tmp rfl (.tmp rfl .nil)) zKeep ⟨_, true, rfl, ⟨put_len (by omega), put_mem hl hve⟩, rfl⟩
               )
            )
        )
def zeroM : Mach := ⟨0, 0, 0, Trust.none, 0, Bal.none, Bal.none, Bal.none, Bal.none, 0, 0, noS, []⟩
/-- What a step of the reference answers: an error, or a machine that is in order. -/
def OutR (k : Nat) (d : D) : Prop := ∃ (x : Mach) (e : Int), d = .tup [mcv x, .i e] ∧ (e = 0 → InvM x ∧ x.heard.length ≤ k)
theorem inv_prop {m : Mach} (h : InvM m) {v : Str} (hv : v.size ≤ 200) : InvM { m with prop := v } := ⟨h.ph, h.bal, h.baln, h.prep, h.prime, h.conf, h.confn, h.low, h.high, hv, h.sz, h.hl, h.hs⟩
theorem inv_bal {m : Mach} (h : InvM m) {n l k : Int} {v : Str} (hn : 0 ≤ n ∧ n ≤ 1000) (hv : v.size ≤ 200) (hl : l = m.low ∨ l = 0) : InvM { m with bal := ⟨n, v⟩, low := l, seq := k } :=
  ⟨h.ph, ⟨hn.1, by show n ≤ 1000000; omega, hv⟩, hn.2, h.prep, h.prime, h.conf, h.confn, by have := h.low; show 0 ≤ l ∧ l ≤ 1000; omega, h.high, h.prop, h.sz, h.hl, h.hs⟩
theorem inv_heard {m : Mach} (h : InvM m) {q : List Evp} (hl : q.length ≤ 20) (hq : ∀ e ∈ q, sizeT e.t ≤ 100000 ∧ BB e.bal) : InvM { m with heard := q } := ⟨h.ph, h.bal, h.baln, h.prep, h.prime, h.conf, h.confn, h.low, h.high, h.prop, h.sz, hl, hq⟩
set_option maxHeartbeats 2000000 in
theorem rpropose_con (m : Mach) (hI : InvM m) (v : Str) : Con Tryz.prog 24 [mcv m, .v (.string v)] [] (fun d H => OutR m.heard.length d ∧ H = []) := by
  have hcap : capB = 140737488355328 := rfl
  have hsz1 := hI.sz
  have hhl := hI.hl
  have hhs9 : ∀ e ∈ m.heard, sizeT e.t ≤ 1000000000 := fun e he => by have := (hI.hs e he).1; omega
  have hbn := hI.baln
  have hbn0 := hI.bal.n0
  have hmlen : (m.heard.map ev).length = m.heard.length := by simp
  refine con_intro Tryz.func24 rfl Tryz.call24 rfl ?_
  refine zS ?_
  refine aops_box rfl zFlat rfl rfl (fun b2 => ?_)
  refine aops_alloc rfl zRc rfl rfl (fun b4 => ?_)
  refine zAs ?_; refine zN ?_; refine awp_seq ?_; refine zS ?_; refine zLd ?_
  (refine aops_call zRc (rcheck_ex m (by omega) hhs9) zSplit rfl rfl ?_; rintro _ _ ⟨y8, rfl, rfl⟩)
  refine zNo ?_; refine zN ?_
  refine zC (fun hc => ?_) fun hc => ?_
  · refine awp_seq ?_
    refine awp_region ?_
    refine zP (ap_build zKr rfl zRc zFill) ?_
    refine zSt ?_; refine zAs ?_; refine zN ?_
    refine awp_unnil [4,5] 1 rfl zSelS (by apply HeapA.box (CvL.cons Cv.same (CvL.cons Cv.same (CvL.cons Cv.same (CvL.cons Cv.same (CvL.cons Cv.fz (CvL.cons Cv.same (CvL.cons Cv.same (CvL.cons Cv.same (CvL.cons Cv.same (CvL.cons Cv.same (CvL.cons Cv.same (CvL.cons Cv.same (CvL.cons Cv.same (CvL.cons Cv.same (CvL.cons Cv.same (CvL.cons Cv.same (CvL.cons Cv.same (CvL.cons Cv.same (CvL.cons Cv.same CvL.nil))))))))))))))))))); repeat (first | exact HeapA.nil | apply HeapA.box (by repeat (first | exact CvL.nil | apply CvL.cons Cv.same)) | apply HeapA.arr)) ?_
    refine awp_unnil [4,5] 3 rfl zSelS (by apply HeapA.box (CvL.cons Cv.same (CvL.cons Cv.same (CvL.cons Cv.same (CvL.cons Cv.same (CvL.cons Cv.same (CvL.cons Cv.fz (CvL.cons Cv.same (CvL.cons Cv.same (CvL.cons Cv.same (CvL.cons Cv.same (CvL.cons Cv.same (CvL.cons Cv.same (CvL.cons Cv.same (CvL.cons Cv.same (CvL.cons Cv.same (CvL.cons Cv.same (CvL.cons Cv.same (CvL.cons Cv.same (CvL.cons Cv.same CvL.nil))))))))))))))))))); repeat (first | exact HeapA.nil | apply HeapA.box (by repeat (first | exact CvL.nil | apply CvL.cons Cv.same)) | apply HeapA.arr)) ?_
    refine awp_unnil [4,5] 15 rfl zSelS (by apply HeapA.box (CvL.cons Cv.same (CvL.cons Cv.same (CvL.cons Cv.same (CvL.cons Cv.same (CvL.cons Cv.same (CvL.cons Cv.same (CvL.cons Cv.same (CvL.cons Cv.same (CvL.cons Cv.same (CvL.cons Cv.same (CvL.cons Cv.same (CvL.cons Cv.same (CvL.cons Cv.same (CvL.cons Cv.same (CvL.cons Cv.same (CvL.cons Cv.same (CvL.cons Cv.same (CvL.cons Cv.same (CvL.cons Cv.fz CvL.nil))))))))))))))))))); repeat (first | exact HeapA.nil | apply HeapA.box (by repeat (first | exact CvL.nil | apply CvL.cons Cv.same)) | apply HeapA.arr)) ?_
    refine awp_ret ?_; refine seqQ_r ?_
    exact post_ret (.cell rfl zUpd rfl rfl (.tmp rfl .nil)) zKeep ⟨⟨zeroM, 13, rfl, fun h => by cases h⟩, rfl⟩
  · refine awp_skip ?_
    refine seqQ_n ?_; refine awp_seq ?_; refine zS ?_; refine zMv ?_
    refine zP (ap_len_str rfl rfl) ?_
    refine zCm ?_; refine zMv ?_
    all_goals first | (refine zY ?_; refine zMv ?_) | refine zU ?_ | refine zNf ?_ | (refine zGf (fun hg => ?_) fun hg => ?_; case' _ => refine zMv ?_)
    all_goals first | (refine zY ?_; refine zP (ap_len_str rfl rfl) ?_) | refine zU ?_ | refine zNf ?_ | (refine zGf (fun hg => ?_) fun hg => ?_; case' _ => refine zP (ap_len_str rfl rfl) ?_)
    all_goals first | (refine zY ?_; refine zCm ?_) | refine zU ?_ | refine zNf ?_ | (refine zGf (fun hg => ?_) fun hg => ?_; case' _ => refine zCm ?_)
    all_goals refine zPk ?_
    all_goals (
      refine zN ?_
      refine zC (fun hc => ?_) fun hc => ?_
      · first
        | (exact absurd hc (by decide))
        | (refine awp_seq ?_
           refine awp_region ?_
           refine zP (ap_build zKr rfl zRc zFill) ?_
           refine zSt ?_; refine zAs ?_; refine zN ?_
           refine awp_unnil [4,5] 1 rfl zSelS (by apply HeapA.box (CvL.cons Cv.same (CvL.cons Cv.same (CvL.cons Cv.same (CvL.cons Cv.same (CvL.cons Cv.fz (CvL.cons Cv.same (CvL.cons Cv.same (CvL.cons Cv.same (CvL.cons Cv.same (CvL.cons Cv.same (CvL.cons Cv.same (CvL.cons Cv.same (CvL.cons Cv.same (CvL.cons Cv.same (CvL.cons Cv.same (CvL.cons Cv.same (CvL.cons Cv.same (CvL.cons Cv.same (CvL.cons Cv.same CvL.nil))))))))))))))))))); repeat (first | exact HeapA.nil | apply HeapA.box (by repeat (first | exact CvL.nil | apply CvL.cons Cv.same)) | apply HeapA.arr)) ?_
           refine awp_unnil [4,5] 3 rfl zSelS (by apply HeapA.box (CvL.cons Cv.same (CvL.cons Cv.same (CvL.cons Cv.same (CvL.cons Cv.same (CvL.cons Cv.same (CvL.cons Cv.fz (CvL.cons Cv.same (CvL.cons Cv.same (CvL.cons Cv.same (CvL.cons Cv.same (CvL.cons Cv.same (CvL.cons Cv.same (CvL.cons Cv.same (CvL.cons Cv.same (CvL.cons Cv.same (CvL.cons Cv.same (CvL.cons Cv.same (CvL.cons Cv.same (CvL.cons Cv.same CvL.nil))))))))))))))))))); repeat (first | exact HeapA.nil | apply HeapA.box (by repeat (first | exact CvL.nil | apply CvL.cons Cv.same)) | apply HeapA.arr)) ?_
           refine awp_unnil [4,5] 15 rfl zSelS (by apply HeapA.box (CvL.cons Cv.same (CvL.cons Cv.same (CvL.cons Cv.same (CvL.cons Cv.same (CvL.cons Cv.same (CvL.cons Cv.same (CvL.cons Cv.same (CvL.cons Cv.same (CvL.cons Cv.same (CvL.cons Cv.same (CvL.cons Cv.same (CvL.cons Cv.same (CvL.cons Cv.same (CvL.cons Cv.same (CvL.cons Cv.same (CvL.cons Cv.same (CvL.cons Cv.same (CvL.cons Cv.same (CvL.cons Cv.fz CvL.nil))))))))))))))))))); repeat (first | exact HeapA.nil | apply HeapA.box (by repeat (first | exact CvL.nil | apply CvL.cons Cv.same)) | apply HeapA.arr)) ?_
           refine awp_ret ?_; refine seqQ_r ?_
           exact post_ret (.cell rfl zUpd rfl rfl (.tmp rfl .nil)) zKeep ⟨⟨zeroM, 1, rfl, fun h => by cases h⟩, rfl⟩
          )
      · first
        | (exact absurd hc (by decide))
        | (have hv : v.size ≤ 200 := by have := of_decide_eq_false hc; omega
           refine awp_skip ?_; refine seqQ_n ?_; refine zS ?_; refine zLd ?_
           refine aops_alloc rfl zRc rfl rfl (fun b6 => ?_)
           refine zSt ?_; refine zN (zS ?_); refine zMv ?_; refine zF 17 1 false ?_; refine zSt ?_; refine zN ?_; refine awp_seq ?_; refine zS ?_; refine zF 7 2 true ?_; refine zLd ?_
           refine aops_call_v zRc (rz_con m.bal) rfl rfl ?_
           refine zN ?_
           refine zC (fun hc => ?_) fun hc => ?_
           · have mk25t : True := trivial
             refine awp_region ?_; refine zLd ?_
             refine aops_call_v zRc (rvalue_con { m with prop := v } (by show m.heard.length ≤ 100; omega)) rfl rfl ?_
             refine zP (ap_build zKr rfl zRc zFill) ?_
             refine zF 7 2 true ?_; refine zSt ?_; refine zF 2 1 false ?_; refine zSt ?_; refine zN (zS ?_); refine zLd ?_; refine zLd ?_
             first | (have := mk25t; (refine aops_call zRc (rnumb_con m { m with prop := v, bal := ⟨1, valM { m with prop := v }⟩, low := m.low, seq := 1 } (inv_bal (m := { m with prop := v }) (inv_prop hI hv) (by omega) (valM_size (inv_prop hI hv)) (.inl rfl))) zSplit rfl rfl ?_; rintro _ _ ⟨c, rfl, ⟨hcI, hch⟩, rfl⟩)) | (refine aops_call zRc (rnumb_con m { m with prop := v } (inv_prop hI hv)) zSplit rfl rfl ?_; rintro _ _ ⟨c, rfl, ⟨hcI, hch⟩, rfl⟩)
             refine zSt ?_; refine zAs ?_; refine zN ?_; refine awp_ret ?_
             have hk9 : m.heard.length ≤ m.heard.length := Nat.le_refl _
             exact post_ret (.cell rfl zUpd rfl rfl (.tmp rfl .nil)) zKeep ⟨⟨c, 0, rfl, fun _ => ⟨hcI, by rw [hch]; first | exact hk9 | (simp only; omega)⟩⟩, rfl⟩
           · have mk25f : True := trivial
             refine awp_skip ?_; refine seqQ_n ?_; refine zS ?_; refine zLd ?_; refine zLd ?_
             first | (have := mk25t; (refine aops_call zRc (rnumb_con m { m with prop := v, bal := ⟨1, valM { m with prop := v }⟩, low := m.low, seq := 1 } (inv_bal (m := { m with prop := v }) (inv_prop hI hv) (by omega) (valM_size (inv_prop hI hv)) (.inl rfl))) zSplit rfl rfl ?_; rintro _ _ ⟨c, rfl, ⟨hcI, hch⟩, rfl⟩)) | (refine aops_call zRc (rnumb_con m { m with prop := v } (inv_prop hI hv)) zSplit rfl rfl ?_; rintro _ _ ⟨c, rfl, ⟨hcI, hch⟩, rfl⟩)
             refine zSt ?_; refine zAs ?_; refine zN ?_; refine awp_ret ?_
             have hk9 : m.heard.length ≤ m.heard.length := Nat.le_refl _
             exact post_ret (.cell rfl zUpd rfl rfl (.tmp rfl .nil)) zKeep ⟨⟨c, 0, rfl, fun _ => ⟨hcI, by rw [hch]; first | exact hk9 | (simp only; omega)⟩⟩, rfl⟩
          )
      )
end Go.Proofs.YtegejdhkckndaaaGreat
