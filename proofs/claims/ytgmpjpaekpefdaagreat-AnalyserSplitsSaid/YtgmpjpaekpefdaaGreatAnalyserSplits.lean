/- The law AnalyserSplits: for every input the call returns true, and the input reads as it did.
   Conditions: those of the given row; none of its own. -/
import Derived.Test.YtgmpjpaekpefdaaGreatAnalyserSplitsW8
import Derived.Test.YtgmpjpaekpefdaaGreatRows
import Derived.WalkKit
import Derived.ProofKit
import Derived.OpenShut
import Derived.ChangeOld
namespace Go.Proofs.YtgmpjpaekpefdaaGreat.analyserSplits
open Go.ChangeShapes Go.WideShapes Go.ChangeAt Go.RowKit Go.Conc
set_option linter.unusedVariables false

theorem own:ownKnob Tryz.prog.godebug=none:=by kernel_rfl
theorem laidOut:laidOutB Tryz.prog=true:=by kernel_rfl
set_option maxRecDepth 100000 in
theorem lifted(os:Os)(started:os.Started)(H:Type)(enc:TypeId × Value->H) :
    ReturnsInLeavingWide {} Tryz.checked os 6 .any (Rows.analyserSplitsSpec.pre6 enc Tryz.prog Tryz.f6 Rows.analyserSplitsRow.domain false) (Rows.analyserSplitsSpec.post enc Tryz.prog Tryz.f6 false true false false):=by
  refine returnsInLeavingWide_of_change_sized (C:=Tryz.checked) own started Tryz.func6
    (ChangeSpec.witness6 (enc:=enc) (C:=Tryz.checked) false ⟨#[],#[.slice none 0 0,.int .u8 0],[]⟩ 8 (by kernel_rfl) (by kernel_rfl) (by kernel_rfl) (by kernel_rfl)) ?_
  intro W base args ds gs before hval0 hW hcnd hsz0 _;have hval:∀(j:Nat) t v,Tryz.f6.params[j]?=some t->args[j]?=some v->Value.okWide Tryz.prog W .any base t v:=hval0;have hsz:(DataW.weightsEach Tryz.prog (Tryz.f6.params.toList++Rows.analyserSplitsSpec.plain.varTypes Tryz.prog) (ds++gs)).all (·<=reachBytes)=true:=hsz0
  clear hsz0
  have hW':=hW;obtain⟨p,q,hA0,hV,rfl,hfz,hnd⟩:=hW;have hA:DataW.TrodAll enc Tryz.prog W 0 (λ_=>true) true Tryz.f6.params.toList args.toList ds p:=hA0;rw[Tryz.params6] at hA hval hsz;obtain⟨v0,vs0,d0,ds0,p0,q0,hargs,rfl,rfl,h0,r0⟩:=trodAll_cons hA;obtain⟨v1,vs1,d1,ds1,p1,q1,rfl,rfl,rfl,h1,r1⟩:=trodAll_cons r0;obtain⟨rfl,rfl,rfl⟩:=trodAll_nil r1;obtain rfl:args=#[v0,v1]:=by cases args;simp_all
  obtain⟨rfl,rfl⟩:=trodVars_none hV;have k0:=h0;have lt0:∀x∈p0,x.block<W.heap.size:=by obtain⟨m,hm⟩:=k0;exact DataW.trod_lt m _ _ _ hm
  obtain⟨a0,jAd,cap0,rfl⟩:=okWide_slice Tryz.underlying22 (hval 0 22 v0 rfl rfl);obtain⟨x0,e0⟩:∃x:List Int,Go.Av.Rep W Go.Av.Nob (.sl 1 (x.map .i)) (.slice a0 jAd cap0):=by obtain⟨m,hm⟩:=h0;obtain⟨x,hx⟩:=(jyd m).out enc _ _ hm (λk hk=>by have h9:=List.all_eq_true.1 hsz k (DataW.weights_mem_each (j:=0) (t:=22) rfl rfl k hk);simpa using h9);exact⟨x,Go.Av.jwy (by simp[Value.cells]) hx⟩
  have k1:=h1;have lt1:∀x∈p1,x.block<W.heap.size:=by obtain⟨m,hm⟩:=k1;exact DataW.trod_lt m _ _ _ hm
  obtain⟨z1,rfl⟩:=okWide_int Tryz.underlying5 (hval 1 5 v1 rfl rfl)
  obtain⟨n1,en1,hn1⟩:∃n:Nat,z1=n/\n<=255:=by
    obtain⟨m,hm⟩:=h1;obtain⟨n',hc,_,hw⟩:=DataW.trod_int Tryz.underlying5 hm;obtain rfl:z1=n':=by simpa[Value.cells] using hc
    have hw2:0<=z1/\z1<=255:=by have h9:=hw;simp only[Lit.wf,qh,qo] at h9;exact h9
    exact⟨z1.toNat,by omega,by omega⟩
  subst en1;have e1:Go.Av.Rep W Go.Av.Nob (.v (.int .u8 (n1:Int))) (.int .u8 (n1:Int)):=by simp[Go.Av.Rep]
  clear hA0 hval0
  obtain⟨N,last,o,w',t',g1,g2,g3,g4⟩:=Go.Av.jrq (P:=Tryz.prog) (f:=6) (λPs=>jm8 (Ps:=Ps) x0 n1 hn1) (by kernel_rfl) (w:=W) (by simp only[Go.Av.RepT];exact⟨_,_,rfl,e0,⟨_,_,rfl,e1,rfl⟩⟩);refine⟨N,last,o,w',t',g1,g2,g3,g4.mono λe ⟨he,bel⟩=>?_⟩;subst he;exact⟨_,_,_,[],_,[],hW',trodAll_mk1 (shut_bool Tryz.underlying4 _),(trodAll_cons_mk (Below.trod laidOut (by kernel_rfl) (qc (by kernel_rfl)) k0 bel lt0) (trodAll_cons_mk (Below.trod laidOut (by kernel_rfl) (qc (by kernel_rfl)) k1 bel lt1) trodAll_mk0)),rfl,bel.frame _,λh=>by cases h⟩

theorem over:Rows.analyserSplitsRow.holds Tryz.pinned (OpenSpec.ofChange Rows.analyserSplitsSpec) :=
  OpenClaim.holds_of_wide_leaving 6 Tryz.f6 rfl rfl rfl rfl rfl rfl rfl ⟨rfl,rfl,rfl,rfl,rfl⟩ rfl rfl rfl rfl rfl (by kernel_rfl) Tryz.func6 (by kernel_rfl)
    (qc (by kernel_rfl)) (by unfold Func.isWrapper;first | (rw[qf (by decide +kernel)];kernel_rfl) | (rw[qe (by decide +kernel)];exact⟨rfl,rfl⟩))
    (λos started H enc _=>lifted os started H enc)

/-- The given statement. -/
theorem proved:Rows.AnalyserSplitsSaid:=over
end Go.Proofs.YtgmpjpaekpefdaaGreat.analyserSplits
