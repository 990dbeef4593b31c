/- Walks: each says what one function of the program answers, for the arguments that its statement names. No condition beyond what each theorem says. -/
import Derived.Test.YtgmpjpaekpefdaaGreatAnalyserPlainW5
import Derived.Test.YtgmpjpaekpefdaaGreatProg
import Derived.KernelRfl
import Derived.Tactics
import Derived.Tactics2
import Derived.StillTactics
set_option linter.unusedVariables false
set_option linter.unusedSimpArgs false
set_option maxRecDepth 4000
set_option maxHeartbeats 8000000
namespace Go.Proofs.YtgmpjpaekpefdaaGreat
open Go Go.Av Go.Tq
variable {k i:Nat} {s x:Slt} {n:Nmr} {l:List Nmn} {p:Ptc}
theorem jcL (b n:Nmr) (hb:NB b) (hB:NB n) (hq:0≤b.seq∧b.seq≤2000000):C0 211 [nrv b,nrv n] (nrv (settleN b n)):=by
 refine xI Tryz.func211 Tryz.call211 fun hcap=>?_
 have hbv:=hb.v
 have hba0:=hb.a
 have hml:(n.confs.map strv).length=n.confs.length:=by simp
 refine xX fun b2=>?_
 refine zBx fun b3=>?_
 refine zAl fun b4=>?_
 refine xN fun _=>?_
 refine xC ?_ ?_<;>intro hc
 ·(
 have h15:n.confs.length=0:=by have:=qc hc;omega
 have hfi:firstN n=followN n:=qf h15
 refine xA (jlO n hB) ?_
 iterate 10 refine zW ?_
 refine jag [2,3,4] [.box b2 _ _,.box b4 _ _] (fun (c:Nmr) (g:Bool) r=>(5,.b g)::r) (fun c g r=>.box b3 126 [.i c.node,.i c.slot,.i c.round,.i c.seq,.i c.t.th,.sl 1 (c.t.nodes.map .i),.sl 3 (avs c.t.inner),.v (.string c.own),.sl 1 (c.votes.map strv),.sl 1 (c.accs.map strv),.sl 1 (c.confs.map strv),.sl 7 (c.heard.map nmv)]::r) (fun c g=>NB c∧(g=true→∃ k,40<k+c.accs.length∧againN k c=againN 41 (followN n))∧(g=false→c=againN 41 (followN n))) (fun c g=>(40 - c.accs.length)+(if g=true then 1 else 0)) (followN n) (true) zRc ⟨jjS hB,fun _=>⟨41,by omega,rfl⟩,fun h=>Bool.noConfusion h⟩ (zWk) ?_
 intro c g ⟨hBc,hT,hF⟩
 refine xC ?_ ?_<;>intro hc
 ·(
 have hg9:g=true:=hc
 subst hg9
 obtain ⟨k,hk,hR⟩:=hT rfl
 refine xA (jhP c hBc) ?_
 refine zLn fun _=>?_
 iterate 4 refine zW ?_
 rename_i hcp
 obtain ⟨K,hK⟩:∃ K,K=knownN c:=⟨_,rfl⟩
 rw [← hK] at hcp ⊢
 have hKl:(K.map strv).length=K.length:=by simp
 refine jaj [2,3,4,20,21] [.box b3 126 [.i c.node,.i c.slot,.i c.round,.i c.seq,.i c.t.th,.sl 1 (c.t.nodes.map .i),.sl 3 (avs c.t.inner),.v (.string c.own),.sl 1 (c.votes.map strv),.sl 1 (c.accs.map strv),.sl 1 (c.confs.map strv),.sl 7 (c.heard.map nmv)],.box b2 _ _,.box b4 _ _] (fun (i:Nat) r=>(5,.b false)::(22,.i (i:Int))::r) (fun i r=>r) (fun i=>i≤K.length∧(K.drop i).find? (canN c)=K.find? (canN c)) (fun i=>K.length - i) (0) zRc ⟨by omega,rfl⟩ (zWk) ?_
 intro i ⟨hi,hI2⟩
 refine xC ?_ ?_<;>intro hc
 ·(
 have hlt:=qc hc
 obtain ⟨x,hx,hd2⟩:=jab (l:=K) (k:=i) (by omega)
 have hx':=jad strv hx
 refine xA (jmH c hBc x) ?_
 refine xC ?_ ?_<;>intro hc
 ·(
 have h28:canN c x=true:=hc
 refine xA (jdm c.accs (by have:=hBc.a;omega) x) ?_
 iterate 16 refine zW ?_
 have hf:(knownN c).find? (canN c)=some x:=(by rw [← hK,← hI2,hd2];simp [h28]);obtain ⟨hx1,hx2⟩:=jlK h28;refine ⟨accN c x,true,⟨jrt hBc x,fun _=>jhp hk hR hf hx2,fun h=>Bool.noConfusion h⟩,by show (40 - (putN c.accs x).length)+(if true=true then 1 else 0)<(40 - c.accs.length)+(if true=true then 1 else 0);rw [hx2,qf rfl];omega,zWk⟩)
 ·(
 have h28:canN c x=false:=hc
 iterate 8 refine zW ?_
 rw [hd2,List.find?_cons_of_neg (by rw [h28];decide)] at hI2
 refine ⟨i+1,⟨by omega,hI2⟩,by omega,zWk⟩))
 ·(
 have hge:=qd hc
 rw [jac (by omega)] at hI2
 iterate 6 refine zW ?_
 refine ⟨c,false,⟨hBc,fun h=>Bool.noConfusion h,fun _=>by rw [← hR,jhv (by rw [← hK,← hI2];rfl)]⟩,by show (40 - c.accs.length)+(if false=true then 1 else 0)<(40 - c.accs.length)+(if true=true then 1 else 0);simp,zWk⟩))
 ·(
 have hg9:g=false:=hc
 have hcR:=hF hg9
 refine xN fun _=>?_
 iterate 4 refine zW ?_
 have hml3:(c.accs.map strv).length=c.accs.length:=by simp
 have hba:=hBc.a
 refine jag [2,3,4,36,37] [.box b2 _ _,.box b4 _ _] (fun (i:Nat) (q:List Str) r=>(38,.i (i:Int))::r) (fun i q r=>.box b3 126 [.i c.node,.i c.slot,.i c.round,.i c.seq,.i c.t.th,.sl 1 (c.t.nodes.map .i),.sl 3 (avs c.t.inner),.v (.string c.own),.sl 1 (c.votes.map strv),.sl 1 (c.accs.map strv),.sl 1 (q.map strv),.sl 7 (c.heard.map nmv)]::r) (fun i q=>i≤c.accs.length∧q.length≤1000∧(c.accs.drop i).foldl (cnd1 c) q=c.accs.foldl (cnd1 c) c.confs) (fun i q=>c.accs.length - i) (0) (c.confs) zRc ⟨by omega,hBc.c,rfl⟩ (zWk) ?_
 intro i q ⟨hi,hql,hI3⟩
 refine xC ?_ ?_<;>intro hc
 ·(
 have hlt3:=qc hc
 obtain ⟨x,hx,hd3⟩:=jab (l:=c.accs) (k:=i) (by omega)
 have hx':=jad strv hx
 refine xA (jeZ { c with confs:=q } (jec hBc hql) x) ?_
 iterate 8 refine zW ?_
 refine zDr [] ?_
 refine zT 0 ?_;refine zT 2 ?_;refine zT 3 ?_;refine zT 4 ?_;refine zOn 1 ?_
 refine xA (jgK { c with confs:=q } (jec hBc hql)) ?_
 refine zW ?_
 refine zOn 5 ?_
 refine xA (jbK _ _ _) ?_
 iterate 2 refine zW ?_
 all_goals (
 refine xC ?_ ?_<;>intro hc
 ·(
 have h53:confN c x=true:=hc
 refine xA (jdm q (by omega) x) ?_
 iterate 10 refine zW ?_
 rw [hd3,List.foldl_cons] at hI3
 rw [show cnd1 c q x=putN q x from qf h53] at hI3;refine ⟨i+1,putN q x,⟨by omega,jb4 (by omega) hql,hI3⟩,by omega,zWk⟩)
 ·(
 have h53:¬ confN c x=true:=by rw [show confN c x=false from hc];decide
 iterate 8 refine zW ?_
 rw [hd3,List.foldl_cons] at hI3
 rw [show cnd1 c q x=q from qe h53] at hI3;refine ⟨i+1,q,⟨by omega,hql,hI3⟩,by omega,zWk⟩)))
 ·(
 have hge3:=qd hc
 rw [jac (by omega)] at hI3
 have hI4:q=c.accs.foldl (cnd1 c) c.confs:=hI3
 have hbd:bodyN n={ c with confs:=q }:=by unfold bodyN;rw [hfi,← hcR];unfold chosenN;rw [← hI4]
 refine xA (jef b.votes c.votes (by omega) (by have:=hBc.v;omega)) ?_
 iterate 2 refine zW ?_
 iterate 4 all_goals first | refine zW ?_ | refine xG ?_ ?_<;>intro hg
 all_goals first | (refine zY ?_;refine jaa zRc (jef b.accs c.accs (by omega) (by omega)) rfl rfl ?_) | refine zSk ?_
 iterate 7 all_goals first | refine zW ?_ | refine xG ?_ ?_<;>intro hg
 all_goals first | (refine zY ?_;refine jaa zRc (jb1 b.t c.t) rfl rfl ?_) | refine zSk ?_
 iterate 2 all_goals refine zW ?_
 all_goals (
 refine xC ?_ ?_<;>intro hc
 rotate_left
 case' _ =>(
 first
 | (exact xQ hc)
 |(
 have h81:¬ ((!sameN b.votes c.votes||!sameN b.accs c.accs)||!same b.t c.t)=true:=by first | (simp_all;done) | grind
 have mk81f:True:=trivial
 refine zW ?_))
 rotate_right
 case' _ =>(
 first
 | (exact xQ hc)
 |(
 have h81:((!sameN b.votes c.votes||!sameN b.accs c.accs)||!same b.t c.t)=true:=by first | (simp_all;done) | grind
 have mk81t:True:=trivial
 iterate 7 refine zW ?_))
 all_goals (
 iterate 8 refine zW ?_
 first
 | (have:=mk81t;refine zPi ?_;unfold settleN;rw [hbd,qf (show turnN b { c with confs:=q }=true from h81)];rfl)
 | (have:=mk81f;refine zPi ?_;unfold settleN;rw [hbd,qe (show ¬ turnN b { c with confs:=q }=true from h81)];rfl))))))
 ·(
 have h15:¬ n.confs.length=0:=by have:=qd hc;omega
 have hfi:firstN n=n:=qe h15
 iterate 9 refine zW ?_
 refine jag [2,3,4] [.box b2 _ _,.box b4 _ _] (fun (c:Nmr) (g:Bool) r=>(5,.b g)::r) (fun c g r=>.box b3 126 [.i c.node,.i c.slot,.i c.round,.i c.seq,.i c.t.th,.sl 1 (c.t.nodes.map .i),.sl 3 (avs c.t.inner),.v (.string c.own),.sl 1 (c.votes.map strv),.sl 1 (c.accs.map strv),.sl 1 (c.confs.map strv),.sl 7 (c.heard.map nmv)]::r) (fun c g=>NB c∧(g=true→∃ k,40<k+c.accs.length∧againN k c=againN 41 (n))∧(g=false→c=againN 41 (n))) (fun c g=>(40 - c.accs.length)+(if g=true then 1 else 0)) (n) (true) zRc ⟨hB,fun _=>⟨41,by omega,rfl⟩,fun h=>Bool.noConfusion h⟩ (zWk) ?_
 intro c g ⟨hBc,hT,hF⟩
 refine xC ?_ ?_<;>intro hc
 ·(
 have hg9:g=true:=hc
 subst hg9
 obtain ⟨k,hk,hR⟩:=hT rfl
 refine xA (jhP c hBc) ?_
 refine zLn fun _=>?_
 iterate 4 refine zW ?_
 rename_i hcp
 obtain ⟨K,hK⟩:∃ K,K=knownN c:=⟨_,rfl⟩
 rw [← hK] at hcp ⊢
 have hKl:(K.map strv).length=K.length:=by simp
 refine jaj [2,3,4,20,21] [.box b3 126 [.i c.node,.i c.slot,.i c.round,.i c.seq,.i c.t.th,.sl 1 (c.t.nodes.map .i),.sl 3 (avs c.t.inner),.v (.string c.own),.sl 1 (c.votes.map strv),.sl 1 (c.accs.map strv),.sl 1 (c.confs.map strv),.sl 7 (c.heard.map nmv)],.box b2 _ _,.box b4 _ _] (fun (i:Nat) r=>(5,.b false)::(22,.i (i:Int))::r) (fun i r=>r) (fun i=>i≤K.length∧(K.drop i).find? (canN c)=K.find? (canN c)) (fun i=>K.length - i) (0) zRc ⟨by omega,rfl⟩ (zWk) ?_
 intro i ⟨hi,hI2⟩
 refine xC ?_ ?_<;>intro hc
 ·(
 have hlt:=qc hc
 obtain ⟨x,hx,hd2⟩:=jab (l:=K) (k:=i) (by omega)
 have hx':=jad strv hx
 refine xA (jmH c hBc x) ?_
 refine xC ?_ ?_<;>intro hc
 ·(
 have h28:canN c x=true:=hc
 refine xA (jdm c.accs (by have:=hBc.a;omega) x) ?_
 iterate 16 refine zW ?_
 have hf:(knownN c).find? (canN c)=some x:=(by rw [← hK,← hI2,hd2];simp [h28]);obtain ⟨hx1,hx2⟩:=jlK h28;refine ⟨accN c x,true,⟨jrt hBc x,fun _=>jhp hk hR hf hx2,fun h=>Bool.noConfusion h⟩,by show (40 - (putN c.accs x).length)+(if true=true then 1 else 0)<(40 - c.accs.length)+(if true=true then 1 else 0);rw [hx2,qf rfl];omega,zWk⟩)
 ·(
 have h28:canN c x=false:=hc
 iterate 8 refine zW ?_
 rw [hd2,List.find?_cons_of_neg (by rw [h28];decide)] at hI2
 refine ⟨i+1,⟨by omega,hI2⟩,by omega,zWk⟩))
 ·(
 have hge:=qd hc
 rw [jac (by omega)] at hI2
 iterate 6 refine zW ?_
 refine ⟨c,false,⟨hBc,fun h=>Bool.noConfusion h,fun _=>by rw [← hR,jhv (by rw [← hK,← hI2];rfl)]⟩,by show (40 - c.accs.length)+(if false=true then 1 else 0)<(40 - c.accs.length)+(if true=true then 1 else 0);simp,zWk⟩))
 ·(
 have hg9:g=false:=hc
 have hcR:=hF hg9
 refine xN fun _=>?_
 iterate 4 refine zW ?_
 have hml3:(c.accs.map strv).length=c.accs.length:=by simp
 have hba:=hBc.a
 refine jag [2,3,4,36,37] [.box b2 _ _,.box b4 _ _] (fun (i:Nat) (q:List Str) r=>(38,.i (i:Int))::r) (fun i q r=>.box b3 126 [.i c.node,.i c.slot,.i c.round,.i c.seq,.i c.t.th,.sl 1 (c.t.nodes.map .i),.sl 3 (avs c.t.inner),.v (.string c.own),.sl 1 (c.votes.map strv),.sl 1 (c.accs.map strv),.sl 1 (q.map strv),.sl 7 (c.heard.map nmv)]::r) (fun i q=>i≤c.accs.length∧q.length≤1000∧(c.accs.drop i).foldl (cnd1 c) q=c.accs.foldl (cnd1 c) c.confs) (fun i q=>c.accs.length - i) (0) (c.confs) zRc ⟨by omega,hBc.c,rfl⟩ (zWk) ?_
 intro i q ⟨hi,hql,hI3⟩
 refine xC ?_ ?_<;>intro hc
 ·(
 have hlt3:=qc hc
 obtain ⟨x,hx,hd3⟩:=jab (l:=c.accs) (k:=i) (by omega)
 have hx':=jad strv hx
 refine xA (jeZ { c with confs:=q } (jec hBc hql) x) ?_
 iterate 8 refine zW ?_
 refine zDr [] ?_
 refine zT 0 ?_;refine zT 2 ?_;refine zT 3 ?_;refine zT 4 ?_;refine zOn 1 ?_
 refine xA (jgK { c with confs:=q } (jec hBc hql)) ?_
 refine zW ?_
 refine zOn 5 ?_
 refine xA (jbK _ _ _) ?_
 iterate 2 refine zW ?_
 all_goals (
 refine xC ?_ ?_<;>intro hc
 ·(
 have h53:confN c x=true:=hc
 refine xA (jdm q (by omega) x) ?_
 iterate 10 refine zW ?_
 rw [hd3,List.foldl_cons] at hI3
 rw [show cnd1 c q x=putN q x from qf h53] at hI3;refine ⟨i+1,putN q x,⟨by omega,jb4 (by omega) hql,hI3⟩,by omega,zWk⟩)
 ·(
 have h53:¬ confN c x=true:=by rw [show confN c x=false from hc];decide
 iterate 8 refine zW ?_
 rw [hd3,List.foldl_cons] at hI3
 rw [show cnd1 c q x=q from qe h53] at hI3;refine ⟨i+1,q,⟨by omega,hql,hI3⟩,by omega,zWk⟩)))
 ·(
 have hge3:=qd hc
 rw [jac (by omega)] at hI3
 have hI4:q=c.accs.foldl (cnd1 c) c.confs:=hI3
 have hbd:bodyN n={ c with confs:=q }:=by unfold bodyN;rw [hfi,← hcR];unfold chosenN;rw [← hI4]
 refine xA (jef b.votes c.votes (by omega) (by have:=hBc.v;omega)) ?_
 iterate 2 refine zW ?_
 iterate 4 all_goals first | refine zW ?_ | refine xG ?_ ?_<;>intro hg
 all_goals first | (refine zY ?_;refine jaa zRc (jef b.accs c.accs (by omega) (by omega)) rfl rfl ?_) | refine zSk ?_
 iterate 7 all_goals first | refine zW ?_ | refine xG ?_ ?_<;>intro hg
 all_goals first | (refine zY ?_;refine jaa zRc (jb1 b.t c.t) rfl rfl ?_) | refine zSk ?_
 iterate 2 all_goals refine zW ?_
 all_goals (
 refine xC ?_ ?_<;>intro hc
 rotate_left
 case' _ =>(
 first
 | (exact xQ hc)
 |(
 have h81:¬ ((!sameN b.votes c.votes||!sameN b.accs c.accs)||!same b.t c.t)=true:=by first | (simp_all;done) | grind
 have mk81f:True:=trivial
 refine zW ?_))
 rotate_right
 case' _ =>(
 first
 | (exact xQ hc)
 |(
 have h81:((!sameN b.votes c.votes||!sameN b.accs c.accs)||!same b.t c.t)=true:=by first | (simp_all;done) | grind
 have mk81t:True:=trivial
 iterate 7 refine zW ?_))
 all_goals (
 iterate 8 refine zW ?_
 first
 | (have:=mk81t;refine zPi ?_;unfold settleN;rw [hbd,qf (show turnN b { c with confs:=q }=true from h81)];rfl)
 | (have:=mk81f;refine zPi ?_;unfold settleN;rw [hbd,qe (show ¬ turnN b { c with confs:=q }=true from h81)];rfl))))))
def badN1 (n:Nmr):Bool:=decide (n.node<0)||(decide (n.node≥10)||(decide (n.slot<0)||(decide (n.slot>1000000)||(decide (n.round<1)||(decide (n.round>1000)||(decide (n.seq<1)||decide (n.seq>1000000)))))))
theorem jpY (n:Nmr):rngN n=!badN1 n:=by
 rw [Bool.eq_iff_iff]
 simp only [rngN,badN1,qh,qm,Bool.not_eq_true',Bool.or_eq_false_iff,decide_eq_false_iff_not,gt_iff_lt,ge_iff_le]
 omega
def badN2 (n:Nmr):Bool:=!decide (validT n.t=0)||(decide ((n.own.size:Int)>200)||(!plainN n.votes||(!plainN n.accs||!plainN n.confs)))
theorem jrj (n:Nmr):lstN n=!badN2 n:=by
 have h:decide ((n.own.size:Int)≤200)=!decide ((n.own.size:Int)>200):=by
  rw [Bool.eq_iff_iff];simp only [qm,Bool.not_eq_true',decide_eq_false_iff_not];omega
 simp only [lstN,badN2,h]
 cases decide (validT n.t=0)<;>cases decide ((n.own.size:Int)>200)<;>cases plainN n.votes<;>cases plainN n.accs<;>cases plainN n.confs<;>rfl
theorem jpQ (h:badN1 n=true):validNr n=false:=by unfold validNr;rw [jpY,h];rfl
theorem jqV (h:badN2 n=true):validNr n=false:=by unfold validNr;rw [jrj,h,Bool.not_true,qw,qv,qv]
theorem jra (h:n.confs.all (hasN n.accs)=false):validNr n=false:=by unfold validNr;rw [h,qw,qv]
theorem jkc {c:Bool} (h1:badN1 n=false) (h2:badN2 n=false) (h:n.confs.all (hasN n.accs)=true) (h4:nhGo n none n.heard=c):validNr n=c:=by unfold validNr;rw [jpY,jrj,h1,h2,h,h4];rfl
def okMn (p:Option Int) (m:Nmn):Bool:=match p with | none=>true | some q=>decide (q<m.node)
def prevM (l:List Nmn) (k:Nat):Option Int:=if k=0 then none else (l[k - 1]?).map Nmn.node
theorem jlb (n:Nmr) (p:Option Int) (m:Nmn) (r:List Nmn):nhGo n p (m::r)=(((plainNm m&&!decide (m.node=n.node))&&okMn p m)&&nhGo n (some m.node) r):=by cases p<;>rfl
theorem joS {x:Nmn} (h:l[k]?=some x):prevM l (k+1)=some x.node:=by
 unfold prevM
 rw [qe (by omega),Nat.add_sub_cancel,h]
 rfl
theorem jvx {x y:Nmn} (hy:0<k→l[k - 1]?=some y):okMn (prevM l k) x=if (0:Int)<(k:Int) then decide (y.node<x.node) else true:=by
 unfold prevM
 by_cases h:k=0
 ·rw [qf h,qe (by omega)];rfl
 ·rw [qe h,qf (by omega),hy (by omega)];rfl
theorem jtM (x:Nmn) (h:k≤l.length):∃ y,0<k→l[k - 1]?=some y:=by
 rcases Nat.eq_zero_or_pos k with h0 | h0
 ·exact ⟨x,fun h1=>by omega⟩
 ·exact ⟨l[k - 1]'(by omega),fun _=>List.getElem?_eq_getElem _⟩
theorem jeV (n:Nmr) (hB:NB n):C0 168 [nrv n] (.b (validNr n)):=by
 refine xI Tryz.func168 Tryz.call168 fun hcap=>?_
 have hsz:=hB.sz
 have hml:(n.heard.map nmv).length=n.heard.length:=by simp
 have hbl:=hB.hl
 have hbv:=hB.v
 have hba:=hB.a
 have hbc:=hB.c
 have hcl:(n.confs.map strv).length=n.confs.length:=by simp
 refine xX fun b1=>?_
 iterate 10 refine zW ?_
 iterate 34 all_goals first | refine zW ?_ | refine xG ?_ ?_<;>intro hg
 all_goals (
 refine xC ?_ ?_<;>intro hc
 ·(
 first
 | (exact xQ hc)
 |(
 have h44:badN1 n=true:=by first | (simp only [badN1, *,Bool.or_true,Bool.true_or,Bool.or_false,Bool.false_or,Bool.and_true,qs,qw,qv,Bool.not_true,Bool.not_false];done) | (simp only [badN1];simp [*];done) | grind [badN1]
 refine xP ?_
 rw [jpQ h44];rfl))
 ·(
 first
 | (exact xQ hc)
 |(
 have h44:badN1 n=false:=by first | (simp only [badN1, *,Bool.or_true,Bool.true_or,Bool.or_false,Bool.false_or,Bool.and_true,qs,qw,qv,Bool.not_true,Bool.not_false];done) | (simp only [badN1];simp [*];done) | grind [badN1]
 refine xA (jaN n.t (by omega)) ?_
 iterate 2 refine zW ?_
 iterate 8 all_goals first | refine zW ?_ | refine xG ?_ ?_<;>intro hg
 all_goals first | (refine zY ?_;refine jaa zRc (jcj n.votes (by omega)) rfl rfl ?_) | refine zSk ?_
 iterate 5 all_goals first | refine zW ?_ | refine xG ?_ ?_<;>intro hg
 all_goals first | (refine zY ?_;refine jaa zRc (jcj n.accs (by omega)) rfl rfl ?_) | refine zSk ?_
 iterate 5 all_goals first | refine zW ?_ | refine xG ?_ ?_<;>intro hg
 all_goals first | (refine zY ?_;refine jaa zRc (jcj n.confs (by omega)) rfl rfl ?_) | refine zSk ?_
 iterate 2 all_goals refine zW ?_
 all_goals (
 refine xC ?_ ?_<;>intro hc
 ·(
 first
 | (exact xQ hc)
 |(
 have h72:badN2 n=true:=by first | (simp only [badN2, *,Bool.or_true,Bool.true_or,Bool.or_false,Bool.false_or,Bool.and_true,qs,qw,qv,Bool.not_true,Bool.not_false];done) | (simp only [badN2];simp [*];done) | grind [badN2]
 refine xP ?_
 rw [jqV h72];rfl))
 ·(
 first
 | (exact xQ hc)
 |(
 have h72:badN2 n=false:=by first | (simp only [badN2, *,Bool.or_true,Bool.true_or,Bool.or_false,Bool.false_or,Bool.and_true,qs,qw,qv,Bool.not_true,Bool.not_false];done) | (simp only [badN2];simp [*];done) | grind [badN2]
 refine xN fun _=>?_
 iterate 4 refine zW ?_
 refine jaj [1,74,75] [.box b1 _ _] (fun (i:Nat) r=>(76,.i (i:Int))::r) (fun i r=>r) (fun i=>i≤n.confs.length∧(n.confs.drop i).all (hasN n.accs)=n.confs.all (hasN n.accs)) (fun i=>n.confs.length - i) (0) zRc ⟨by omega,rfl⟩ (zWk) ?_
 intro i ⟨hi,hI0⟩
 refine xC ?_ ?_<;>intro hc
 ·(
 have hlt0:=qc hc
 obtain ⟨z,hz,hd0⟩:=jab (l:=n.confs) (k:=i) (by omega)
 have hz':=jad strv hz
 refine xA (jdl n.accs (by omega) z) ?_
 refine xC ?_ ?_<;>intro hc
 ·(
 have h84:hasN n.accs z=false:=jau hc
 rw [hd0,List.all_cons,h84,qv] at hI0
 refine xP ?_
 rw [jra hI0.symm];rfl)
 ·(
 have h84:hasN n.accs z=true:=jat hc
 iterate 8 refine zW ?_
 rw [hd0,List.all_cons,h84,qs] at hI0
 refine ⟨i+1,⟨by omega,hI0⟩,by omega,zWk⟩))
 ·(
 have hge0:=qd hc
 rw [jac (by omega),List.all_nil] at hI0
 refine xN fun _=>?_
 iterate 4 refine zW ?_
 refine jaj [1,87,88] [.box b1 _ _] (fun (k:Nat) r=>(89,.i (k:Int))::r) (fun k r=>r) (fun k=>k≤n.heard.length∧nhGo n (prevM n.heard k) (n.heard.drop k)=nhGo n none n.heard) (fun k=>n.heard.length - k) (0) zRc ⟨by omega,rfl⟩ (zWk) ?_
 intro k ⟨hk,hI⟩
 refine xC ?_ ?_<;>intro hc
 ·(
 have hlt:=qc hc
 obtain ⟨x,hx,hd⟩:=jab (l:=n.heard) (k:=k) (by omega)
 have hx':=jad nmv hx
 obtain ⟨y,hy⟩:=jtM x hk
 have hq:=jvx (x:=x) hy
 have hxs:=hB.hs x (qj hx)
 refine xL fun b6=>?_
 iterate 5 refine zW ?_
 refine zDr [] ?_
 refine zT 0 ?_;refine zOn 1 ?_
 refine xA (jf5 x (by have:=hxs.1;omega) (by have:=hxs.2.1;omega) (by have:=hxs.2.2;omega)) ?_
 refine zW ?_
 refine zT 2 ?_;refine zT 3 ?_
 refine jai 3 rfl (fun hg=>?_) fun hg=>?_
 rotate_left
 case' _ =>(
 refine zT 4 ?_;refine zT 5 ?_;refine zT 6 ?_;refine zT 7 ?_;refine zT 8 ?_;refine zT 9 ?_;refine zT 10 ?_
 refine jai 10 rfl (fun hg=>?_) fun hg=>?_
 rotate_left
 case' _ =>(
 refine zT 11 ?_;refine zT 12 ?_;refine zT 13 ?_
 refine jai 13 rfl (fun hg=>?_) fun hg=>?_
 rotate_left
 case' _ =>(
 refine zK 14 ?_;refine zK 15 ?_;refine zK 16 ?_;refine zK 17 ?_;refine zK 18 ?_;refine zK 19 ?_;refine zK 20 ?_;refine zK 21 ?_;refine zK 22 ?_;refine zK 23 ?_;refine zT 24 ?_;refine zT 25 ?_
 refine zW ?_)
 rotate_right
 case' _ =>(
 refine zT 14 ?_;refine zT 15 ?_;refine zT 16 ?_;refine zT 17 ?_
 refine jan 18 rfl zGd zKr zKr zKr (AP.ar (jam (k:=k - 1) rfl rfl rfl rfl (by decide) (by have h9:decide ((k:Int)>0)=true:=(by first | with_reducible assumption | exact hg);have:=qc h9;omega) (jad nmv (hy (by have h9:decide ((k:Int)>0)=true:=(by first | with_reducible assumption | exact hg);have:=qc h9;omega))))) rfl rfl ?_
 refine zT 19 ?_;refine zT 20 ?_;refine zT 21 ?_;refine zT 22 ?_;refine zT 23 ?_;refine zT 24 ?_;refine zT 25 ?_
 refine zW ?_))
 rotate_right
 case' _ =>(
 refine zK 11 ?_;refine zK 12 ?_;refine zKu 13 ?_;refine zK 14 ?_;refine zK 15 ?_;refine zK 16 ?_;refine zK 17 ?_;refine zK 18 ?_;refine zK 19 ?_;refine zK 20 ?_;refine zK 21 ?_;refine zK 22 ?_;refine zK 23 ?_;refine zK 24 ?_;refine zT 25 ?_
 refine zW ?_))
 rotate_right
 case' _ =>(
 refine zK 4 ?_;refine zK 5 ?_;refine zK 6 ?_;refine zK 7 ?_;refine zK 8 ?_;refine zT 9 ?_;refine zT 10 ?_;refine zK 11 ?_;refine zK 12 ?_;refine zKu 13 ?_;refine zK 14 ?_;refine zK 15 ?_;refine zK 16 ?_;refine zK 17 ?_;refine zK 18 ?_;refine zK 19 ?_;refine zK 20 ?_;refine zK 21 ?_;refine zK 22 ?_;refine zK 23 ?_;refine zK 24 ?_;refine zT 25 ?_
 refine zW ?_)
 all_goals (
 refine xC ?_ ?_<;>intro hc
 ·(
 first
 | (exact xQ hc)
 |(
 have hq0:((plainNm x&&!decide (x.node=n.node))&&okMn (prevM n.heard k) x)=false:=by rw [hq];first | (simp [*];done) | grind
 refine xP ?_
 rw [hd,jlb,hq0,qv] at hI
 rw [jkc h44 h72 hI0.symm hI.symm];rfl))
 ·(
 first
 | (exact xQ hc)
 |(
 have hq0:((plainNm x&&!decide (x.node=n.node))&&okMn (prevM n.heard k) x)=true:=by rw [hq];first | (simp [*];done) | grind
 iterate 8 refine zW ?_
 rw [hd,jlb,hq0,qs,← joS hx] at hI
 refine ⟨k+1,⟨by omega,hI⟩,by omega,zWk⟩))))
 ·(
 have hge:=qd hc
 rw [jac (by omega)] at hI
 refine xP ?_
 rw [jkc h44 h72 hI0.symm hI.symm];rfl))))))))
theorem jrS (n:Nmr) (hN:NI n):C0 175 [nrv n] (.tup [nrv (tickN n).1,.i (tickN n).2]):=by
 refine xI Tryz.func175 Tryz.call175 fun hcap=>?_
 have hr:=hN.round
 refine xX fun b1=>?_
 refine zAl fun b2=>?_
 refine xA (jeV n hN.nb) ?_
 refine xC ?_ ?_<;>intro hc
 ·(
 have h7:validNr n=false:=jau hc
 iterate 2 refine zW ?_
 refine zP (AP.up (jah zKr rfl zRc jav) (d':=nrv zeroN) xUp) ?_
 refine xP ?_
 unfold tickN;rw [qf h7];rfl)
 ·(
 have h7:validNr n=true:=jat hc
 refine xC ?_ ?_<;>intro hc
 ·(
 have h11:n.round=1000:=qc hc
 iterate 2 refine zW ?_
 refine zP (AP.up (jah zKr rfl zRc jav) (d':=nrv zeroN) xUp) ?_
 refine xP ?_
 unfold tickN;rw [qe (by rw [h7];decide),qf h11];rfl)
 ·(
 have h11:¬ n.round=1000:=qd hc
 refine xL fun b4=>?_
 refine xA (jcL n { n with round:=n.round+1 } hN.nb (jnp hN.nb _) hN.seq) ?_
 refine xP ?_
 unfold tickN;rw [qe (by rw [h7];decide),qe h11];rfl))
theorem joE (node slot:Int) (t:Trust) (ht:sizeT t≤100000) (own:Str):C0 182 [.i node,.i slot,av t,.v (.string own)] (.tup [nrv (startN node slot t own).1,.i (startN node slot t own).2]):=by
 refine xI Tryz.func182 Tryz.call182 fun hcap=>?_
 refine xX fun b6=>?_
 refine zAl fun b8=>?_
 iterate 9 refine zW ?_
 iterate 3 all_goals first | refine zW ?_ | refine xG ?_ ?_<;>intro hg
 all_goals (
 refine xC ?_ ?_<;>intro hc
 ·(
 first
 | (exact xQ hc)
 |(
 have h17:node<0∨node≥10:=by first | exact .inl (qc hg) | exact .inr (qc hc)
 iterate 2 refine zW ?_
 refine zP (AP.up (jah zKr rfl zRc jav) (d':=nrv zeroN) xUp) ?_
 refine xP ?_
 unfold startN;rw [qf h17];rfl))
 ·(
 first
 | (exact xQ hc)
 |(
 have h17:¬ (node<0∨node≥10):=by rintro (h | h);exact qd hg h;exact qd hc h
 iterate 8 refine zW ?_
 iterate 3 all_goals first | refine zW ?_ | refine xG ?_ ?_<;>intro hg
 all_goals (
 refine xC ?_ ?_<;>intro hc
 ·(
 first
 | (exact xQ hc)
 |(
 have h24:slot<0∨slot>1000000:=by first | exact .inl (qc hg) | exact .inr (qc hc)
 iterate 2 refine zW ?_
 refine zP (AP.up (jah zKr rfl zRc jav) (d':=nrv zeroN) xUp) ?_
 refine xP ?_
 unfold startN;rw [qe h17,qf h24];rfl))
 ·(
 first
 | (exact xQ hc)
 |(
 have h24:¬ (slot<0∨slot>1000000):=by rintro (h | h);exact qd hg h;exact qd hc h
 refine xA (jaN t (by omega)) ?_
 refine xC ?_ ?_<;>intro hc
 ·(
 have h29:¬ validT t=0:=jaf hc
 iterate 2 refine zW ?_
 refine zP (AP.up (jah zKr rfl zRc jav) (d':=nrv zeroN) xUp) ?_
 refine xP ?_
 unfold startN;rw [qe h17,qe h24,qf h29];rfl)
 ·(
 have h29:validT t=0:=jae hc
 refine xC ?_ ?_<;>intro hc
 ·(
 have h34:(own.size:Int)>200:=qc hc
 iterate 2 refine zW ?_
 refine zP (AP.up (jah zKr rfl zRc jav) (d':=nrv zeroN) xUp) ?_
 refine xP ?_
 unfold startN;rw [qe h17,qe h24,qe (fun h=>h h29),qf h34];rfl)
 ·(
 have h34:¬ (own.size:Int)>200:=qd hc
 iterate 8 refine zW ?_
 refine zP (AP.up (jah zKr rfl zRc jav) (d':=nrv (newN node slot t own)) xUp) ?_
 refine zAl fun b11=>?_
 refine xA (jcL (newN node slot t own) (newN node slot t own) (jln (by omega) ht) (jln (by omega) ht) (by show (0:Int)≤1∧(1:Int)≤2000000;omega)) ?_
 refine xP ?_
 unfold startN;rw [qe h17,qe h24,qe (fun h=>h h29),qe h34];rfl))))))))
theorem jpC (n:Nmr) (hN:NI n) (m:Nmn) (hm:MB m):C0 173 [nrv n,nmv m] (.tup [nrv (hearN n m).1,.i (hearN n m).2]):=by
 refine xI Tryz.func173 Tryz.call173 fun hcap=>?_
 have hml:(n.heard.map nmv).length=n.heard.length:=by simp
 have hbl:=hN.nb.hl
 have hms:=hm.sz
 have hmv:=hm.v
 have hma:=hm.a
 refine xX fun b2=>?_
 refine zBx fun b3=>?_
 refine zAl fun b4=>?_
 refine xA (jeV n hN.nb) ?_
 iterate 2 refine zW ?_
 all_goals refine xG ?_ ?_<;>intro hg
 all_goals first | (refine zY ?_;refine jaa zRc (jf5 m (by omega) (by omega) (by omega)) rfl rfl ?_) | refine zSk ?_
 iterate 9 all_goals first | refine zW ?_ | refine xG ?_ ?_<;>intro hg
 all_goals (
 refine xC ?_ ?_<;>intro hc
 ·(
 first
 | (exact xQ hc)
 |(
 have h24:(validNr n=false∨plainNm m=false)∨m.node=n.node:=by first | (simp_all;done) | grind
 iterate 2 refine zW ?_
 refine zP (AP.up (jah zKr rfl zRc jav) (d':=nrv zeroN) xUp) ?_
 refine xP ?_
 unfold hearN;rw [qf h24];rfl))
 ·(
 first
 | (exact xQ hc)
 |(
 have h24:¬ ((validNr n=false∨plainNm m=false)∨m.node=n.node):=by first | (simp_all;done) | grind
 have hv24:validNr n=true∧plainNm m=true:=⟨by cases h:validNr n;exact qo (.inl (.inl h)) h24;rfl,by cases h:plainNm m;exact qo (.inl (.inr h)) h24;rfl⟩
 refine xL fun b6=>?_
 refine xN fun _=>?_
 iterate 4 refine zW ?_
 refine jbt [2,3,4,6,29,30] [.box b2 _ _,.box b3 _ _,.box b4 _ _] (fun (i:Nat) (v:Value) (q:List Nmn) (g:Bool) r=>(7,.b g)::(31,.i (i:Int))::r) (fun i v q g r=>.box b6 126 [.i n.node,.i n.slot,.i n.round,.i n.seq,.i n.t.th,.sl 1 (n.t.nodes.map .i),.sl 3 (avs n.t.inner),.v (.string n.own),.sl 1 (n.votes.map strv),.sl 1 (n.accs.map strv),.sl 1 (n.confs.map strv),.v v]::.arr v 51 7 (q.map nmv)::r) (fun i v q g=>i≤n.heard.length∧q.length≤2 * i∧insGo m (n.heard.drop i) g q=insN n m) (fun i v q g=>n.heard.length - i) (0) (.slice none 0 0) ([]) (false) zRc ⟨by omega,by simp,rfl⟩ ((jaO 51 7 rfl).trans (zWk)) ?_
 intro i v q g ⟨hi,hql,hI⟩
 have hqm:(q.map nmv).length=q.length:=by simp
 refine xC ?_ ?_<;>intro hc
 ·(
 have hlt:=qc hc
 obtain ⟨x,hx,hd⟩:=jab (l:=n.heard) (k:=i) (by omega)
 have hx':=jad nmv hx
 refine xL fun b9=>?_
 refine xC ?_ ?_<;>intro hc
 ·(
 have h39:x.node=m.node:=qc hc
 refine xC ?_ ?_<;>intro hc
 ·(
 have h44:x.seq≥m.seq:=qc hc
 iterate 2 refine zW ?_
 refine zP (AP.up (jah zKr rfl zRc jav) (d':=nrv zeroN) xUp) ?_
 iterate 12 refine zW ?_
 rw [hd] at hI;simp only [insGo] at hI;rw [qf h39,qf h44] at hI
 refine zPi ?_
 unfold hearN;rw [qe h24,← hI];rfl)
 ·(
 have h44:¬ x.seq≥m.seq:=qd hc
 have mk44f:True:=trivial
 iterate 11 refine zW ?_
 rw [hd] at hI;simp only [insGo] at hI
 rw [qf h39,qe h44] at hI;refine ⟨i+1,v,q,g,⟨by omega,by omega,hI⟩,by omega,zWk⟩))
 ·(
 have h39:¬ x.node=m.node:=qd hc
 iterate 11 refine zW ?_
 iterate 3 all_goals first | refine zW ?_ | refine xG ?_ ?_<;>intro hg
 all_goals (
 refine xC ?_ ?_<;>intro hc
 ·(
 first
 | (exact xQ hc)
 |(
 have h54:(decide (x.node>m.node)&&!g)=true:=by first | (simp_all;done) | grind
 have mk54t:True:=trivial
 iterate 4 refine zW ?_
 refine xLt 51 7 120 ?_
 refine xEa 51 7 120 (hb:=xLb) fun v59 hv59=>?_
 iterate 9 refine zW ?_
 refine xLt 51 7 120 ?_
 refine xEa 51 7 120 (hb:=xLb) fun v65 hv65=>?_
 iterate 10 refine zW ?_
 rw [hd] at hI;simp only [insGo] at hI
 rw [qe h39,qf h54] at hI;rw [show D.agg [.i m.node,.i m.seq,.i m.t.th,.sl 1 (m.t.nodes.map .i),.sl 3 (avs m.t.inner),.sl 1 (m.votes.map strv),.sl 1 (m.accs.map strv)]=nmv m from rfl,show D.agg [.i x.node,.i x.seq,.i x.t.th,.sl 1 (x.t.nodes.map .i),.sl 3 (avs x.t.inner),.sl 1 (x.votes.map strv),.sl 1 (x.accs.map strv)]=nmv x from rfl,jdK,jdK];refine ⟨i+1,_,(q++[m])++[x],true,⟨by omega,by simp;omega,hI⟩,by omega,zWk⟩))
 ·(
 first
 | (exact xQ hc)
 |(
 have h54:¬ (decide (x.node>m.node)&&!g)=true:=by first | (simp_all;done) | grind
 have mk54f:True:=trivial
 iterate 6 refine zW ?_
 refine xLt 51 7 120 ?_
 refine xEa 51 7 120 (hb:=xLb) fun v65 hv65=>?_
 iterate 10 refine zW ?_
 rw [hd] at hI;simp only [insGo] at hI
 first
 | (have:=mk44f;rw [qf h39,qe h44] at hI;refine ⟨i+1,v,q,g,⟨by omega,by omega,hI⟩,by omega,zWk⟩)
 | (have:=mk54t;rw [qe h39,qf h54] at hI;rw [show D.agg [.i m.node,.i m.seq,.i m.t.th,.sl 1 (m.t.nodes.map .i),.sl 3 (avs m.t.inner),.sl 1 (m.votes.map strv),.sl 1 (m.accs.map strv)]=nmv m from rfl,show D.agg [.i x.node,.i x.seq,.i x.t.th,.sl 1 (x.t.nodes.map .i),.sl 3 (avs x.t.inner),.sl 1 (x.votes.map strv),.sl 1 (x.accs.map strv)]=nmv x from rfl,jdK,jdK];refine ⟨i+1,_,(q++[m])++[x],true,⟨by omega,by simp;omega,hI⟩,by omega,zWk⟩)
 | (have:=mk54f;rw [qe h39,qe h54] at hI;rw [show D.agg [.i x.node,.i x.seq,.i x.t.th,.sl 1 (x.t.nodes.map .i),.sl 3 (avs x.t.inner),.sl 1 (x.votes.map strv),.sl 1 (x.accs.map strv)]=nmv x from rfl,jdK];refine ⟨i+1,_,q++[x],g,⟨by omega,by simp;omega,hI⟩,by omega,zWk⟩))))))
 ·(
 have hge:=qd hc
 rw [jac (by omega)] at hI
 refine xC ?_ ?_<;>intro hc
 rotate_left
 case' _ =>(
 have h69:g=true:=jat hc
 have mk69f:True:=trivial
 refine zW ?_)
 rotate_right
 case' _ =>(
 have h69:g=false:=jau hc
 have mk69t:True:=trivial
 iterate 4 refine zW ?_
 refine xLt 51 7 120 ?_
 refine xEa 51 7 120 (hb:=xLb) fun v74 hv74=>?_
 iterate 3 refine zW ?_)
 all_goals (
 iterate 2 refine zW ?_
 first
 | (have:=mk69t;have hq9:insN n m=some (q++[m]):=(by cases h69;exact hI.symm);rw [show D.agg [.i m.node,.i m.seq,.i m.t.th,.sl 1 (m.t.nodes.map .i),.sl 3 (avs m.t.inner),.sl 1 (m.votes.map strv),.sl 1 (m.accs.map strv)]=nmv m from rfl,jdK];obtain ⟨h9,hh9⟩:∃ h9,h9=q++[m]:=⟨_,rfl⟩;rw [← hh9];rw [← hh9] at hq9;refine zFz v74 [2,4,6] ?_)
 | (have:=mk69f;have hq9:insN n m=some q:=(by cases h69;exact hI.symm);obtain ⟨h9,hh9⟩:∃ h9,h9=q:=⟨_,rfl⟩;rw [← hh9];rw [← hh9] at hq9;refine zFz v [2,4,6] ?_)
 refine xA (jcL n { n with heard:=h9 } hN.nb (jrz hN hv24.1 hv24.2 hms hq9) hN.seq) ?_
 refine xP ?_
 unfold hearN;rw [qe h24,hq9];rfl)))))
def slv (s:Slt):D:=.agg [.i s.nom.node,.i s.nom.slot,.i s.nom.round,.i s.nom.seq,.i s.nom.t.th,.sl 1 (s.nom.t.nodes.map .i),.sl 3 (avs s.nom.t.inner),.v (.string s.nom.own),.sl 1 (s.nom.votes.map strv),.sl 1 (s.nom.accs.map strv),.sl 1 (s.nom.confs.map strv),.sl 7 (s.nom.heard.map nmv),.i s.mach.node,.i s.mach.slot,.i s.mach.seq,.i s.mach.t.th,.sl 1 (s.mach.t.nodes.map .i),.sl 3 (avs s.mach.t.inner),.i s.mach.phase,.i s.mach.bal.n,.v (.string s.mach.bal.v),.i s.mach.prep.n,.v (.string s.mach.prep.v),.i s.mach.prime.n,.v (.string s.mach.prime.v),.i s.mach.conf.n,.v (.string s.mach.conf.v),.i s.mach.low,.i s.mach.high,.v (.string s.mach.prop),.sl 15 (s.mach.heard.map ev),.i s.tm.n,.i s.tm.due,.i s.round,.i s.next,.b s.done,.v (.string s.value)]
def ltv (l:Ltr):D:=.agg [.i l.kind,.i l.slot,.i l.nom.node,.i l.nom.seq,.i l.nom.t.th,.sl 1 (l.nom.t.nodes.map .i),.sl 3 (avs l.nom.t.inner),.sl 1 (l.nom.votes.map strv),.sl 1 (l.nom.accs.map strv),.i l.env.node,.i l.env.slot,.i l.env.seq,.i l.env.t.th,.sl 1 (l.env.t.nodes.map .i),.sl 3 (avs l.env.t.inner),.i l.env.kind,.i l.env.bal.n,.v (.string l.env.bal.v),.i l.env.prep.n,.v (.string l.env.prep.v),.i l.env.prime.n,.v (.string l.env.prime.v),.i l.env.low,.i l.env.high]
theorem jbh (s:Slt) (hS:SI s):C0 148 [slv s] (slv (setS s)):=by
 refine xI Tryz.func148 Tryz.call148 fun hcap=>?_
 have hSn:=hS.nom
 have hSm:=hS.mach
 have hSr:=hS.round
 have hcc:=hSn.nb.c
 have hsz1:=hSm.inv.sz
 have hhs9:∀ e∈s.mach.heard,sizeT e.t≤1000000000:=fun e he=>by have:=(hSm.inv.hs e he).1;omega
 refine xX fun b1=>?_
 refine zAl fun b2=>?_
 refine xA (jqQ s.nom.confs (by omega)) ?_
 iterate 11 refine zW ?_
 iterate 9 all_goals first | refine zW ?_ | refine xG ?_ ?_<;>intro hg
 all_goals first | (refine zY ?_;refine jaa zRc (jaJ s.mach.conf) rfl rfl ?_) | refine zSk ?_
 iterate 8 all_goals first | refine zW ?_ | refine xG ?_ ?_<;>intro hg
 all_goals (
 refine xC ?_ ?_<;>intro hc
 ·(
 first
 | (exact xQ hc)
 |(
 have h33:wantS s=true:=by unfold wantS;first | (simp_all;done) | grind
 refine xB (jfk s.mach hSm (compN s.nom.confs).1) ?_;rintro _ _ ⟨rfl,rfl⟩;obtain ⟨p,hp⟩:∃ z9,z9=propV s.mach (compN s.nom.confs).1:=⟨_,rfl⟩;rw [← hp]
 refine xL fun b5=>?_
 refine xC ?_ ?_<;>intro hc
 rotate_left
 case' _ =>(
 have h42:¬ p.2=0:=qd hc
 have hm9:setM s=s.mach:=by unfold setM;rw [qe (fun h=>h42 (by rw [hp];exact h.2))]
 refine zW ?_)
 rotate_right
 case' _ =>(
 have h42:p.2=0:=qc hc
 have hm9:setM s=p.1:=by unfold setM;rw [qf ⟨h33,by rw [← hp];exact h42⟩,← hp]
 iterate 5 refine zW ?_)
 all_goals (
 iterate 5 refine zW ?_
 first | ((refine jaq zRc (jbI p.1 (by have:=((hp ▸ jbS hSm (hp ▸ h42):InvS p.1)).inv.sz;omega) (fun e he=>by have:=(((hp ▸ jbS hSm (hp ▸ h42):InvS p.1)).inv.hs e he).1;omega)) jaA rfl rfl ?_;rintro _ _ ⟨rfl,rfl⟩;obtain ⟨d,hd⟩:∃ z9,z9=dcdV p.1:=⟨_,rfl⟩;rw [← hd])) | ((refine jaq zRc (jbI s.mach (by have:=(hSm).inv.sz;omega) (fun e he=>by have:=((hSm).inv.hs e he).1;omega)) jaA rfl rfl ?_;rintro _ _ ⟨rfl,rfl⟩;obtain ⟨d,hd⟩:∃ z9,z9=dcdV s.mach:=⟨_,rfl⟩;rw [← hd]))
 refine xP ?_
 unfold setS;rw [hm9,← hd];rfl)))
 ·(
 first
 | (exact xQ hc)
 |(
 have h33:wantS s=false:=by unfold wantS;first | (simp_all;done) | grind
 have hm9:setM s=s.mach:=by unfold setM;rw [qe (fun h=>by rw [h33] at h;cases h.1)]
 iterate 6 refine zW ?_
 first | ((refine jaq zRc (jbI p.1 (by have:=((hp ▸ jbS hSm (hp ▸ h42):InvS p.1)).inv.sz;omega) (fun e he=>by have:=(((hp ▸ jbS hSm (hp ▸ h42):InvS p.1)).inv.hs e he).1;omega)) jaA rfl rfl ?_;rintro _ _ ⟨rfl,rfl⟩;obtain ⟨d,hd⟩:∃ z9,z9=dcdV p.1:=⟨_,rfl⟩;rw [← hd])) | ((refine jaq zRc (jbI s.mach (by have:=(hSm).inv.sz;omega) (fun e he=>by have:=((hSm).inv.hs e he).1;omega)) jaA rfl rfl ?_;rintro _ _ ⟨rfl,rfl⟩;obtain ⟨d,hd⟩:∃ z9,z9=dcdV s.mach:=⟨_,rfl⟩;rw [← hd]))
 refine xP ?_
 unfold setS;rw [hm9,← hd];rfl)))
theorem jxb {node number:Int} {t:Trust} {own:Str} {now:Int} {p:Mach × Int} {q:Nmr × Int} (ht:sizeT t≤100000) (hp:p=newV node number t) (hq:q=startN node number t own) (h1:p.2=0) (h2:q.2=0):SI ⟨q.1,p.1,⟨0,-1⟩,1,now+waitV 1,false,noS⟩ :=
 ⟨hq ▸ jjT ht (hq ▸ h2),hp ▸ jd9 ht (hp ▸ h1),by show (0:Int)≤1∧(1:Int)≤2000;omega⟩
theorem joK (node number:Int) (t:Trust) (ht:sizeT t≤100000) (own:Str) (now:Int):C0 146 [.i node,.i number,av t,.v (.string own),.i now] (.tup [slv (newS node number t own now).1,.i (newS node number t own now).2]):=by
 refine xI Tryz.func146 Tryz.call146 fun hcap=>?_
 have hw9:=jls 1
 refine xX fun b7=>?_
 refine zAl fun b10=>?_
 iterate 9 refine zW ?_
 iterate 3 all_goals first | refine zW ?_ | refine xG ?_ ?_<;>intro hg
 all_goals (
 refine xC ?_ ?_<;>intro hc
 ·(
 first
 | (exact xQ hc)
 |(
 have h20:now<0∨now>200:=by first | exact .inl (qc hg) | exact .inr (qc hc)
 iterate 2 refine zW ?_
 refine zP (AP.up (jah zKr rfl zRc jav) (d':=slv zSlt) xUp) ?_
 refine xP ?_
 unfold newS;rw [qf h20];rfl))
 ·(
 first
 | (exact xQ hc)
 |(
 have h20:¬ (now<0∨now>200):=by rintro (h | h);exact qd hg h;exact qd hc h
 refine xB (jsC node number t (by omega)) ?_;rintro _ _ ⟨rfl,rfl⟩;obtain ⟨p,hp⟩:∃ z9,z9=newV node number t:=⟨_,rfl⟩;rw [← hp]
 refine xL fun b12=>?_
 refine xC ?_ ?_<;>intro hc
 ·(
 have h30:¬ p.2=0:=jaf hc
 iterate 2 refine zW ?_
 refine zP (AP.up (jah zKr rfl zRc jav) (d':=slv zSlt) xUp) ?_
 refine xP ?_
 unfold newS;rw [qe h20,← hp,qf h30];rfl)
 ·(
 have h30:p.2=0:=jae hc
 refine xB (joE node number t ht own) ?_;rintro _ _ ⟨rfl,rfl⟩;obtain ⟨q,hq⟩:∃ z9,z9=startN node number t own:=⟨_,rfl⟩;rw [← hq]
 refine xL fun b14=>?_
 refine xC ?_ ?_<;>intro hc
 ·(
 have h42:¬ q.2=0:=jaf hc
 iterate 2 refine zW ?_
 refine zP (AP.up (jah zKr rfl zRc jav) (d':=slv zSlt) xUp) ?_
 refine xP ?_
 unfold newS;rw [qe h20,← hp,qe (fun h=>h h30),← hq,qf h42];rfl)
 ·(
 have h42:q.2=0:=jae hc
 iterate 3 refine zW ?_
 refine zDr [.box b10 _ _] ?_
 refine zT 0 ?_;refine zT 1 ?_;refine zT 2 ?_;refine zT 3 ?_;refine zOn 4 ?_
 refine xA (jf4 1 (by omega)) ?_
 refine zW ?_
 refine zT 5 ?_
 refine jan 6 rfl zGd zKr zKr zKr (AP.ar (AP.up (jah zKr rfl zRc jav) (d':=slv ⟨q.1,p.1,⟨0,-1⟩,1,now+waitV 1,false,noS⟩) xUp)) rfl rfl ?_
 refine zOn 7 ?_
 refine xA (jbh ⟨q.1,p.1,⟨0,-1⟩,1,now+waitV 1,false,noS⟩ (jxb ht hp hq h30 h42)) ?_
 refine zW ?_
 refine zOn 8 ?_
 iterate 2 refine zW ?_
 refine zT 9 ?_
 refine zW ?_
 all_goals (
 refine xP ?_
 unfold newS;rw [qe h20,← hp,qe (fun h=>h h30),← hq,qe (fun h=>h h42)];rfl))))))
theorem jbp (s:Slt) (hS:SI s):C0 139 [slv s] (.b (checkS s)):=by
 refine xI Tryz.func139 Tryz.call139 fun hcap=>?_
 have hSn:=hS.nom
 have hSm:=hS.mach
 have hSr:=hS.round
 have hcc:=hSn.nb.c
 have hsz1:=hSm.inv.sz
 have hhs9:∀ e∈s.mach.heard,sizeT e.t≤1000000000:=fun e he=>by have:=(hSm.inv.hs e he).1;omega
 refine xX fun b1=>?_
 refine xA (jcs s.mach (by omega) hhs9) ?_
 iterate 2 refine zW ?_
 iterate 2 all_goals first | refine zW ?_ | refine xG ?_ ?_<;>intro hg
 all_goals first | (refine zY ?_;refine jaa zRc (jeV s.nom hSn.nb) rfl rfl ?_) | refine zSk ?_
 iterate 27 all_goals first | refine zW ?_ | refine xG ?_ ?_<;>intro hg
 all_goals first | (refine zY ?_;refine jaa zRc (jb1 s.nom.t s.mach.t) rfl rfl ?_) | refine zSk ?_
 iterate 5 all_goals first | refine zW ?_ | refine xG ?_ ?_<;>intro hg
 all_goals first | (refine zY ?_;refine jaa zRc (jgP s.tm) rfl rfl ?_) | refine zSk ?_
 iterate 2 all_goals refine zW ?_
 all_goals (
 refine xC ?_ ?_<;>intro hc
 ·(
 first
 | (exact xQ hc)
 |(
 have h48:chk1S s=false:=by unfold chk1S;first | (simp_all;done) | grind
 refine xP ?_
 unfold checkS;rw [h48];rfl))
 ·(
 first
 | (exact xQ hc)
 |(
 have h48:chk1S s=true:=by unfold chk1S;first | (simp_all;done) | grind
 refine xB (jbI s.mach (by have:=(hSm).inv.sz;omega) (fun e he=>by have:=((hSm).inv.hs e he).1;omega)) ?_;rintro _ _ ⟨rfl,rfl⟩;obtain ⟨d,hd⟩:∃ z9,z9=dcdV s.mach:=⟨_,rfl⟩;rw [← hd]
 iterate 13 refine zW ?_
 iterate 27 all_goals first | refine zW ?_ | refine xG ?_ ?_<;>intro hg
 all_goals (
 refine xP ?_
 unfold checkS;rw [h48,qs];unfold chk2S;rw [← hd];first | (simp only [resD, *,qs,qv,Bool.and_true,qw];done) | (simp_all [resD];done) | grind [resD]))))
theorem jdA (s:Slt) (hS:SI s) (m:Nmn) (hm:MB m):C0 141 [slv s,nmv m] (.tup [slv (nomS s m).1,.i (nomS s m).2]):=by
 refine xI Tryz.func141 Tryz.call141 fun hcap=>?_
 have hSn:=hS.nom
 have hSm:=hS.mach
 have hSr:=hS.round
 have hcc:=hSn.nb.c
 have hsz1:=hSm.inv.sz
 have hhs9:∀ e∈s.mach.heard,sizeT e.t≤1000000000:=fun e he=>by have:=(hSm.inv.hs e he).1;omega
 refine xX fun b2=>?_
 refine zBx fun b3=>?_
 refine zAl fun b4=>?_
 refine xA (jbp s hS) ?_
 refine xC ?_ ?_<;>intro hc
 ·(
 have h10:checkS s=false:=jau hc
 iterate 2 refine zW ?_
 refine zP (AP.up (jah zKr rfl zRc jav) (d':=slv zSlt) xUp) ?_
 refine xP ?_
 unfold nomS;rw [qf h10];rfl)
 ·(
 have h10:checkS s=true:=jat hc
 refine xB (jpC s.nom hSn m hm) ?_;rintro _ _ ⟨rfl,rfl⟩;obtain ⟨p,hp⟩:∃ z9,z9=hearN s.nom m:=⟨_,rfl⟩;rw [← hp]
 refine xL fun b6=>?_
 refine xC ?_ ?_<;>intro hc
 ·(
 have h20:¬ p.2=0:=jaf hc
 iterate 2 refine zW ?_
 refine zP (AP.up (jah zKr rfl zRc jav) (d':=slv zSlt) xUp) ?_
 refine xP ?_
 unfold nomS;rw [qe (by rw [h10];decide),← hp,qf h20];rfl)
 ·(
 have h20:p.2=0:=jae hc
 refine xA (jbh { s with nom:=p.1 } ⟨hp ▸ jm7 hSn hm.sz (hp ▸ h20),hSm,hSr⟩) ?_
 refine xP ?_
 unfold nomS;rw [qe (by rw [h10];decide),← hp,qe (fun h=>h h20)];rfl))
theorem jeh (s:Slt) (hS:SI s) (e:Evp) (he:sizeT e.t≤100000):C0 142 [slv s,ev e] (.tup [slv (balS s e).1,.i (balS s e).2]):=by
 refine xI Tryz.func142 Tryz.call142 fun hcap=>?_
 have hSn:=hS.nom
 have hSm:=hS.mach
 have hSr:=hS.round
 have hcc:=hSn.nb.c
 have hsz1:=hSm.inv.sz
 have hhs9:∀ e∈s.mach.heard,sizeT e.t≤1000000000:=fun e he=>by have:=(hSm.inv.hs e he).1;omega
 refine xX fun b2=>?_
 refine zBx fun b3=>?_
 refine zAl fun b4=>?_
 refine xA (jbp s hS) ?_
 refine xC ?_ ?_<;>intro hc
 ·(
 have h10:checkS s=false:=jau hc
 iterate 2 refine zW ?_
 refine zP (AP.up (jah zKr rfl zRc jav) (d':=slv zSlt) xUp) ?_
 refine xP ?_
 unfold balS;rw [qf h10];rfl)
 ·(
 have h10:checkS s=true:=jat hc
 refine xB (jkH s.mach hSm e he) ?_;rintro _ _ ⟨rfl,rfl⟩;obtain ⟨p,hp⟩:∃ z9,z9=recV s.mach e:=⟨_,rfl⟩;rw [← hp]
 refine xL fun b6=>?_
 refine xC ?_ ?_<;>intro hc
 ·(
 have h20:¬ p.2=0:=jaf hc
 iterate 2 refine zW ?_
 refine zP (AP.up (jah zKr rfl zRc jav) (d':=slv zSlt) xUp) ?_
 refine xP ?_
 unfold balS;rw [qe (by rw [h10];decide),← hp,qf h20];rfl)
 ·(
 have h20:p.2=0:=jae hc
 refine xA (jbh { s with mach:=p.1 } ⟨hSn,hp ▸ jnR hSm he (hp ▸ h20),hSr⟩) ?_
 refine xP ?_
 unfold balS;rw [qe (by rw [h10];decide),← hp,qe (fun h=>h h20)];rfl))
theorem jjk (s:Slt) (hS:SI s) (v:Str):C0 112 [slv s,.v (.string v)] (.tup [slv (prefS' s v).1,.i (prefS' s v).2]):=by
 refine xI Tryz.func112 Tryz.call112 fun hcap=>?_
 have hSn:=hS.nom
 have hSm:=hS.mach
 have hSr:=hS.round
 have hcc:=hSn.nb.c
 have hsz1:=hSm.inv.sz
 have hhs9:∀ e∈s.mach.heard,sizeT e.t≤1000000000:=fun e he=>by have:=(hSm.inv.hs e he).1;omega
 refine xX fun b2=>?_
 refine zAl fun b4=>?_
 refine xA (jbp s hS) ?_
 refine xC ?_ ?_<;>intro hc
 ·(
 have h10:checkS s=false:=jau hc
 iterate 2 refine zW ?_
 refine zP (AP.up (jah zKr rfl zRc jav) (d':=slv zSlt) xUp) ?_
 refine xP ?_
 unfold prefS';rw [qf h10];rfl)
 ·(
 have h10:checkS s=true:=jat hc
 refine xB (jfk s.mach hSm v) ?_;rintro _ _ ⟨rfl,rfl⟩;obtain ⟨p,hp⟩:∃ z9,z9=propV s.mach v:=⟨_,rfl⟩;rw [← hp]
 refine xL fun b6=>?_
 refine xC ?_ ?_<;>intro hc
 ·(
 have h20:¬ p.2=0:=jaf hc
 iterate 2 refine zW ?_
 refine zP (AP.up (jah zKr rfl zRc jav) (d':=slv zSlt) xUp) ?_
 refine xP ?_
 unfold prefS';rw [qe (by rw [h10];decide),← hp,qf h20];rfl)
 ·(
 have h20:p.2=0:=jae hc
 refine xA (jbh { s with mach:=p.1 } ⟨hSn,hp ▸ jbS hSm (hp ▸ h20),hSr⟩) ?_
 refine xP ?_
 unfold prefS';rw [qe (by rw [h10];decide),← hp,qe (fun h=>h h20)];rfl))
theorem jx1 (h:SI s) (hn:NI n) {r k:Int} (hr:0≤r∧r≤2000):SI { s with nom:=n,round:=r,next:=k }:=⟨hn,h.mach,hr⟩
theorem jwS (h:SI s) {m:Mach} (hm:InvS m) {t:Tm}:SI { s with tm:=t,mach:=m }:=⟨h.nom,hm,h.round⟩
theorem jk4 (s:Slt) (hS:SI s) (now:Int) (r:Slt × Int) (hr0:tickSl s now=r):C0 143 [slv s,.i now] (.tup [slv r.1,.i r.2]):=by
 refine xI Tryz.func143 Tryz.call143 fun hcap=>?_
 have hSn:=hS.nom
 have hSm:=hS.mach
 have hSr:=hS.round
 have hcc:=hSn.nb.c
 have hsz1:=hSm.inv.sz
 have hhs9:∀ e∈s.mach.heard,sizeT e.t≤1000000000:=fun e he=>by have:=(hSm.inv.hs e he).1;omega
 have hwb:=jls (min (s.round+1) 1000)
 refine xX fun b2=>?_
 refine zAl fun b4=>?_
 refine xA (jbp s hS) ?_
 refine xC ?_ ?_<;>intro hc
 ·(
 have h10:checkS s=false:=jau hc
 iterate 2 refine zW ?_
 refine zP (AP.up (jah zKr rfl zRc jav) (d':=slv zSlt) xUp) ?_
 refine xP ?_
 rw [← hr0];unfold tickSl;rw [qf h10];rfl)
 ·(
 have h10:checkS s=true:=jat hc
 iterate 8 refine zW ?_
 iterate 3 all_goals first | refine zW ?_ | refine xG ?_ ?_<;>intro hg
 all_goals (
 refine xC ?_ ?_<;>intro hc
 ·(
 first
 | (exact xQ hc)
 |(
 have h21:now<0∨now>200:=by first | exact .inl (qc hg) | exact .inr (qc hc)
 iterate 2 refine zW ?_
 refine zP (AP.up (jah zKr rfl zRc jav) (d':=slv zSlt) xUp) ?_
 refine xP ?_
 rw [← hr0];unfold tickSl;rw [qe (by rw [h10];decide),qf h21];rfl))
 ·(
 first
 | (exact xQ hc)
 |(
 have h21:¬ (now<0∨now>200):=by rintro (h | h);exact qd hg h;exact qd hc h
 refine xN fun _=>?_
 iterate 2 refine zW ?_
 iterate 5 all_goals first | refine zW ?_ | refine xG ?_ ?_<;>intro hg
 all_goals (
 refine xC ?_ ?_<;>intro hc
 rotate_left
 case' _ =>(
 first
 | (exact xQ hc)
 |(
 have h33:¬ (s.nom.confs.length=0∧now≥s.next):=by rintro ⟨h1,h2⟩;have h3:(s.nom.confs.map strv).length=s.nom.confs.length:=(by simp);first | exact qd hc h2 | exact qd hg (by omega)
 obtain ⟨s1,hs1⟩:∃ x,x=s:=⟨_,rfl⟩
 have hk1:s1=tk1 s now:=by rw [hs1];unfold tk1;rw [qe h33]
 rw [← hs1]
 refine zW ?_))
 rotate_right
 case' _ =>(
 first
 | (exact xQ hc)
 |(
 have h33:s.nom.confs.length=0∧now≥s.next:=by have h1:=qc hg;have h2:=qc hc;have h3:(s.nom.confs.map strv).length=s.nom.confs.length:=(by simp);omega
 refine xB (jrS s.nom hSn) ?_;rintro _ _ ⟨rfl,rfl⟩;obtain ⟨p,hp⟩:∃ z9,z9=tickN s.nom:=⟨_,rfl⟩;rw [← hp]
 refine xL fun b6=>?_
 refine xC ?_ ?_<;>intro hc
 rotate_left
 case' _ =>(
 have h41:¬ p.2=0:=qd hc
 have hn9:tkN s=s.nom:=by unfold tkN;rw [← hp,qe h41]
 refine zW ?_)
 rotate_right
 case' _ =>(
 have h41:p.2=0:=qc hc
 have hn9:tkN s=p.1:=by unfold tkN;rw [← hp,qf h41]
 iterate 5 refine zW ?_)
 all_goals (
 refine xA (jf4 (min (s.round+1) 1000) (by omega)) ?_
 iterate 7 refine zW ?_
 first | ((refine jaq zRc (jbh { s with nom:=p.1,round:=min (s.round+1) 1000,next:=now+waitV (min (s.round+1) 1000) } (jx1 hS (hp ▸ jmB hSn (hp ▸ h41)) (by omega))) jaA rfl rfl ?_;rintro _ _ ⟨rfl,rfl⟩;obtain ⟨s1,hs1⟩:∃ x,x=setS { s with nom:=p.1,round:=min (s.round+1) 1000,next:=now+waitV (min (s.round+1) 1000) }:=⟨_,rfl⟩;rw [← hs1];have hk1:s1=tk1 s now:=by rw [hs1];unfold tk1;rw [qf h33,hn9])) | ((refine jaq zRc (jbh { s with nom:=s.nom,round:=min (s.round+1) 1000,next:=now+waitV (min (s.round+1) 1000) } (jx1 hS hSn (by omega))) jaA rfl rfl ?_;rintro _ _ ⟨rfl,rfl⟩;obtain ⟨s1,hs1⟩:∃ x,x=setS { s with nom:=s.nom,round:=min (s.round+1) 1000,next:=now+waitV (min (s.round+1) 1000) }:=⟨_,rfl⟩;rw [← hs1];have hk1:s1=tk1 s now:=by rw [hs1];unfold tk1;rw [qf h33,hn9]))
 iterate 2 refine zW ?_)))
 all_goals (
 have hS1:SI s1:=hk1 ▸ juH hS
 refine xB (jpr s1.tm s1.mach now (by have:=hS1.mach.inv.hl;omega) (by have:=hS1.mach.inv.sz;omega) (fun e he=>by have:=(hS1.mach.inv.hs e he).1;omega)) ?_;rintro _ _ ⟨rfl,rfl⟩;obtain ⟨p2,hp2⟩:∃ z9,z9=stepV s1.tm s1.mach now:=⟨_,rfl⟩;rw [← hp2]
 refine xL fun b8=>?_
 refine xC ?_ ?_<;>intro hc
 rotate_left
 case' _ =>(
 have h68:p2.2=false:=hc
 have hk2:{ s1 with tm:=p2.1 }=tk2 s1 now:=by unfold tk2;rw [← hp2,qe (by rw [h68];decide)]
 refine zW ?_)
 rotate_right
 case' _ =>(
 have h68:p2.2=true:=hc
 refine xB (jkT s1.mach hS1.mach) ?_;rintro _ _ ⟨rfl,rfl⟩;obtain ⟨p3,hp3⟩:∃ z9,z9=tmoV s1.mach:=⟨_,rfl⟩;rw [← hp3]
 refine xL fun b10=>?_
 refine xC ?_ ?_<;>intro hc
 rotate_left
 case' _ =>(
 have h76:¬ p3.2=0:=qd hc
 have hm9:tkM s1.mach=s1.mach:=by unfold tkM;rw [← hp3,qe h76]
 refine zW ?_)
 rotate_right
 case' _ =>(
 have h76:p3.2=0:=qc hc
 have hm9:tkM s1.mach=p3.1:=by unfold tkM;rw [← hp3,qf h76]
 iterate 5 refine zW ?_)
 all_goals (
 iterate 3 refine zW ?_
 first | ((refine jaq zRc (jbh { s1 with tm:=p2.1,mach:=p3.1 } (jwS hS1 (hp3 ▸ jmf hS1.mach (hp3 ▸ h76)))) jaA rfl rfl ?_;rintro _ _ ⟨rfl,rfl⟩;obtain ⟨s2,hs2⟩:∃ x,x=setS { s1 with tm:=p2.1,mach:=p3.1 }:=⟨_,rfl⟩;rw [← hs2];have hk2:s2=tk2 s1 now:=by rw [hs2];unfold tk2;rw [← hp2,qf h68,hm9])) | ((refine jaq zRc (jbh { s1 with tm:=p2.1,mach:=s1.mach } (jwS hS1 hS1.mach)) jaA rfl rfl ?_;rintro _ _ ⟨rfl,rfl⟩;obtain ⟨s2,hs2⟩:∃ x,x=setS { s1 with tm:=p2.1,mach:=s1.mach }:=⟨_,rfl⟩;rw [← hs2];have hk2:s2=tk2 s1 now:=by rw [hs2];unfold tk2;rw [← hp2,qf h68,hm9]))
 iterate 2 refine zW ?_))
 all_goals (
 refine xP ?_
 rw [← hr0];unfold tickSl;rw [qe (by rw [h10];decide),qe h21,← hk1,← hk2];rfl)))))))
theorem jlA (s:Slt) (hS:SI s) (now:Int):Con none Tryz.prog 143 [slv s,.i now] [] (Is (.tup [slv (tickSl s now).1,.i (tickSl s now).2]) []):=jk4 s hS now _ rfl
theorem juM {e:Evp} {b:Bool} (he:e=mesM s.mach) (hb:b=okMsg s.mach) (h:b=true):ltrE s=[⟨2,s.mach.slot,zNmn,e⟩]:=by
 rw [h] at hb
 have hb':(!zB s.mach.bal&&checkM s.mach)=true:=hb.symm
 unfold ltrE
 rw [qf (by rw [Bool.and_comm];exact hb'),he]
 unfold mesM
 rw [qf hb.symm]
theorem juQ {b:Bool} (hb:b=okMsg s.mach) (h:b=false):ltrE s=[]:=by
 rw [h] at hb
 have hb':(!zB s.mach.bal&&checkM s.mach)=false:=hb.symm
 unfold ltrE
 rw [qe (by rw [Bool.and_comm,hb'];decide)]
theorem jg3 (s:Slt) (hS:SI s):C0 144 [slv s] (.sl 24 ((lettersS s).map ltv)):=by
 refine xI Tryz.func144 Tryz.call144 fun hcap=>?_
 have hSn:=hS.nom
 have hSm:=hS.mach
 have hSr:=hS.round
 have hcc:=hSn.nb.c
 have hsz1:=hSm.inv.sz
 have hhs9:∀ e∈s.mach.heard,sizeT e.t≤1000000000:=fun e he=>by have:=(hSm.inv.hs e he).1;omega
 refine xX fun b1=>?_
 refine xA (jbp s hS) ?_
 refine xC ?_ ?_<;>intro hc
 ·(
 have h8:checkS s=false:=jau hc
 iterate 5 refine zW ?_
 refine jgO 57 24 rfl ?_
 refine zFz (.slice none 0 0) [2] ?_
 refine xP ?_
 unfold lettersS;rw [qf h8];rfl)
 ·(
 have h8:checkS s=true:=jat hc
 refine xC ?_ ?_<;>intro hc
 ·(
 have h11:s.done=false:=jau hc
 refine zDr [] ?_
 refine zT 0 ?_;refine zT 1 ?_;refine zT 2 ?_;refine zT 3 ?_;refine zT 4 ?_;refine zT 5 ?_;refine zOn 6 ?_
 refine xA (jmo s.nom) ?_
 refine zW ?_
 refine jan 7 rfl zGd zKr zKr zKr (AP.ar (AP.up (jah zKr rfl zRc jav) (d':=ltv ⟨1,s.mach.slot,sayN s.nom,zEvp⟩) xUp)) rfl rfl ?_
 refine zOn 8 ?_
 refine xLt 57 24 312 ?_
 refine zW ?_
 refine zOn 9 ?_
 refine xEn 57 24 312 (hb:=xLb) fun v21 hv21=>?_
 refine zW ?_
 refine zT 10 ?_
 refine zW ?_
 all_goals (
 refine xB (jcW s.mach (by omega) hhs9) ?_;rintro _ _ ⟨rfl,rfl⟩;obtain ⟨e,he⟩:∃ x,x=mesM s.mach:=⟨_,rfl⟩;obtain ⟨b,hb⟩:∃ x,x=okMsg s.mach:=⟨_,rfl⟩;rw [← he,← hb]
 refine xL fun b4=>?_
 refine xC ?_ ?_<;>intro hc
 ·(
 have h28:b=true:=hc
 iterate 6 refine zW ?_
 refine zP (AP.up (jah zKr rfl zRc jav) (d':=ltv ⟨2,s.mach.slot,zNmn,e⟩) xUp) ?_
 refine xLt 57 24 312 ?_
 refine xEa 57 24 312 (hb:=xLb) fun v36 hv36=>?_
 iterate 9 refine zW ?_
 refine zFz v36 [2] ?_
 refine xP ?_
 unfold lettersS ltrN;rw [qe (by rw [h8];decide),qe (by rw [h11];decide),juM he hb h28];rfl)
 ·(
 have h28:b=false:=hc
 iterate 8 refine zW ?_
 refine zFz v21 [2] ?_
 refine xP ?_
 unfold lettersS ltrN;rw [qe (by rw [h8];decide),qe (by rw [h11];decide),juQ hb h28];rfl)))
 ·(
 have h11:s.done=true:=jat hc
 refine xB (jcW s.mach (by omega) hhs9) ?_;rintro _ _ ⟨rfl,rfl⟩;obtain ⟨e,he⟩:∃ x,x=mesM s.mach:=⟨_,rfl⟩;obtain ⟨b,hb⟩:∃ x,x=okMsg s.mach:=⟨_,rfl⟩;rw [← he,← hb]
 refine xL fun b4=>?_
 refine xC ?_ ?_<;>intro hc
 ·(
 have h28:b=true:=hc
 iterate 6 refine zW ?_
 refine zP (AP.up (jah zKr rfl zRc jav) (d':=ltv ⟨2,s.mach.slot,zNmn,e⟩) xUp) ?_
 refine xLt 57 24 312 ?_
 refine xEn 57 24 312 (hb:=xLb) fun v36 hv36=>?_
 iterate 9 refine zW ?_
 refine zFz v36 [2] ?_
 refine xP ?_
 unfold lettersS ltrN;rw [qe (by rw [h8];decide),qf h11,juM he hb h28];rfl)
 ·(
 have h28:b=false:=hc
 iterate 8 refine zW ?_
 refine jgO 57 24 rfl ?_
 refine zFz (.slice none 0 0) [2] ?_
 refine xP ?_
 unfold lettersS ltrN;rw [qe (by rw [h8];decide),qf h11,juQ hb h28];rfl)))
def ptv (p:Ptc):D:=.agg [.i p.node,.b p.stopped,.i p.t.th,.sl 1 (p.t.nodes.map .i),.sl 3 (avs p.t.inner),.sl 37 (p.slots.map slv)]
theorem joB {number:Int} {own:Str} {now:Int} (h:PI p) (hl:p.slots.length≤8):(beginG p number own now).1.slots.length≤20:=by
 by_cases he:(beginG p number own now).2=0
 ·exact (jg1 h hl he).hl
 ·(
 have:(beginG p number own now).1=zPtc:=by
  unfold beginG at he ⊢
  split
  ·rfl
  ·rename_i h1
   rw [qe h1] at he
   split
   ·rfl
   ·rename_i h2
    rw [qe h2] at he
    split
    ·rfl
    ·rename_i h3
     rw [qe h3] at he
     exact qo rfl he
 rw [this];decide)
theorem jil (p:Ptc) (number:Int) (hl:p.slots.length≤1000):C0 117 [ptv p,.i number] (.tup [.i (atP p number:Nat),.b (thereP p number)]):=by
 refine xI Tryz.func117 Tryz.call117 fun hcap=>?_
 have hml:(p.slots.map slv).length=p.slots.length:=by simp
 refine xX fun b2=>?_
 iterate 11 refine zW ?_
 refine jaj [1,2] [.box b2 _ _] (fun (i:Nat) r=>(6,.i (i:Int))::r) (fun i r=>r) (fun i=>i≤p.slots.length∧posG (ltSl number) (p.slots.drop i)+i=atP p number) (fun i=>p.slots.length - i) (0) zRc ⟨by omega,by simp [atP]⟩ (zWk) ?_
 intro i ⟨hi,hI⟩
 obtain ⟨x,hx⟩:=jgt p.slots i zSlt
 refine xN fun _=>?_
 iterate 2 refine zW ?_
 iterate 3 all_goals first | refine zW ?_ | refine xG ?_ ?_<;>intro hg
 all_goals first | (refine zY ?_;(refine zP (jam (k:=i) rfl rfl rfl rfl (by decide) rfl (jad slv (hx (by have h9:decide ((i:Int)<((p.slots.map slv).length:Int))=true:=(by first | with_reducible assumption | exact hg | exact hc);have:=qc h9;simp only [qu] at this;omega)))) ?_)) | refine zSk ?_
 iterate 6 all_goals refine zW ?_
 all_goals (
 refine xC ?_ ?_<;>intro hc
 ·(
 first
 | (exact xQ hc)
 |(
 iterate 10 refine zW ?_
 have hlt:i<p.slots.length:=(by have h9:decide ((i:Int)<((p.slots.map slv).length:Int))=true:=(by first | with_reducible assumption | exact hg | exact hc);have:=qc h9;simp only [qu] at this;omega)
 rw [jeT (lt:=ltSl number) (hx hlt) (show ltSl number x=true by first | with_reducible assumption | exact hc)] at hI
 refine ⟨i+1,⟨by omega,by omega⟩,by omega,zWk⟩))
 ·(
 first
 | (exact xQ hc)
 |(
 have hat:atP p number=i:=by first | (have hge:=(show p.slots.length≤i by have h9:decide ((i:Int)<((p.slots.map slv).length:Int))=false:=(by first | with_reducible assumption | exact hg | exact hc);have:=qd h9;simp only [qu] at this;omega);rw [jdd hge] at hI;omega) | (rw [jcp (lt:=ltSl number) (hx (by have h9:decide ((i:Int)<((p.slots.map slv).length:Int))=true:=(by first | with_reducible assumption | exact hg | exact hc);have:=qc h9;simp only [qu] at this;omega)) (show ltSl number x=false by first | with_reducible assumption | exact hc)] at hI;omega)
 iterate 6 refine zW ?_
 refine zDr [] ?_
 refine zT 0 ?_;refine zT 1 ?_;refine zT 2 ?_;refine zT 3 ?_;refine zT 4 ?_;refine zT 5 ?_;refine zT 6 ?_
 refine jai 6 rfl (fun hg=>?_) fun hg=>?_
 rotate_left
 case' _ =>(
 refine zK 7 ?_;refine zK 8 ?_;refine zK 9 ?_;refine zK 10 ?_;refine zK 11 ?_;refine zK 12 ?_;refine zK 13 ?_;refine zK 14 ?_;refine zK 15 ?_;refine zT 16 ?_;refine zT 17 ?_;refine zT 18 ?_
 refine zW ?_)
 rotate_right
 case' _ =>(
 refine zT 7 ?_;refine zT 8 ?_;refine zT 9 ?_
 refine jan 10 rfl zGd zKr zKr zKr (AP.ar (jam (k:=i) rfl rfl rfl rfl (by decide) rfl (jad slv (hx (by have h9:decide ((i:Int)<((p.slots.map slv).length:Int))=true:=(by first | with_reducible assumption | exact hg | exact hc);have:=qc h9;simp only [qu] at this;omega))))) rfl rfl ?_
 refine zT 11 ?_;refine zT 12 ?_;refine zT 13 ?_;refine zT 14 ?_;refine zT 15 ?_;refine zT 16 ?_;refine zT 17 ?_;refine zT 18 ?_
 refine zW ?_)
 all_goals (
 refine xP ?_
 rw [hat]
 first
 | (have hlt:i<p.slots.length:=(by have h9:decide ((i:Int)<((p.slots.map slv).length:Int))=true:=(by first | with_reducible assumption | exact hg | exact hc);have:=qc h9;simp only [qu] at this;omega);rw [show thereP p number=decide (x.mach.slot=number) by unfold thereP;rw [hat,hx hlt]];rfl)
 | (have hge:p.slots.length≤i:=(by have h9:decide ((i:Int)<((p.slots.map slv).length:Int))=false:=(by first | with_reducible assumption | exact hg | exact hc);have:=qd h9;simp only [qu] at this;omega);rw [show thereP p number=false by unfold thereP;rw [hat,List.getElem?_eq_none hge]];rfl)))))
theorem jhC (p:Ptc) (hP:PI p) (hl:p.slots.length≤8) (number:Int) (own:Str) (now:Int):C0 110 [ptv p,.i number,.v (.string own),.i now] (.tup [ptv (beginG p number own now).1,.i (beginG p number own now).2]):=by
 refine xI Tryz.func110 Tryz.call110 fun hcap=>?_
 have hml:(p.slots.map slv).length=p.slots.length:=by simp
 have hsz:=hP.sz
 refine xX fun b4=>?_
 refine zAl fun b8=>?_
 refine xB (jil p number (by omega)) ?_;rintro _ _ ⟨rfl,rfl⟩;obtain ⟨k,hk⟩:∃ x,x=atP p number:=⟨_,rfl⟩;obtain ⟨g,hg0⟩:∃ x,x=thereP p number:=⟨_,rfl⟩;rw [← hk,← hg0];have hkl:k≤p.slots.length:=hk ▸ jeY (ltSl number) p.slots
 refine xC ?_ ?_<;>intro hc
 ·(
 have h20:thereP p number=true:=hg0 ▸ hc
 iterate 2 refine zW ?_
 refine zP (AP.up (jah zKr rfl zRc jav) (d':=ptv zPtc) xUp) ?_
 refine xP ?_
 unfold beginG;rw [qf h20];rfl)
 ·(
 have h20:thereP p number=false:=hg0 ▸ hc
 refine xN fun _=>?_
 refine xC ?_ ?_<;>intro hc
 ·(
 have h25:p.slots.length=8:=by have:=qc hc;omega
 iterate 2 refine zW ?_
 refine zP (AP.up (jah zKr rfl zRc jav) (d':=ptv zPtc) xUp) ?_
 refine xP ?_
 unfold beginG;rw [qe (by rw [h20];decide),qf h25];rfl)
 ·(
 have h25:¬ p.slots.length=8:=by have:=qd hc;omega
 refine xB (joK p.node number p.t hsz own now) ?_;rintro _ _ ⟨rfl,rfl⟩;obtain ⟨q,hq⟩:∃ z9,z9=newS p.node number p.t own now:=⟨_,rfl⟩;rw [← hq]
 refine xL fun b12=>?_
 refine xC ?_ ?_<;>intro hc
 ·(
 have h39:¬ q.2=0:=jaf hc
 iterate 2 refine zW ?_
 refine zP (AP.up (jah zKr rfl zRc jav) (d':=ptv zPtc) xUp) ?_
 refine xP ?_
 unfold beginG;rw [qe (by rw [h20];decide),qe h25,← hq,qf h39];rfl)
 ·(
 have h39:q.2=0:=jae hc
 iterate 3 refine zW ?_
 refine zDr [.box b4 _ _] ?_
 refine zT 0 ?_;refine zT 2 ?_;refine zT 5 ?_;refine zT 8 ?_;refine zT 10 ?_
 refine jdf 1 6 9 zKr (cho rfl zGd ?_) (cho rfl zGd ?_) (cho rfl zGd ?_)
 rotate_left 2
 case' _ =>(
 iterate 2 refine zW ?_
 refine zT 11 ?_
 refine zE2 1 6 ?_ ?_
 rotate_left
 case' _ =>(
 refine xLt 133 37 496 ?_
 refine zW ?_
 refine zOn 1 ?_
 iterate 2 refine zW ?_
 refine zT 3 ?_;refine zOn 4 ?_
 refine xEn 133 37 496 (hb:=xLb) fun v46 hv46=>?_
 refine zW ?_
 refine zOn 7 ?_
 refine xEa 133 37 496 (hb:=xLb) fun v49 hv49=>?_
 refine zW ?_
 refine zOn 12 ?_
 refine xEa 133 37 496 (hb:=xLb) fun v54 hv54=>?_
 refine zW ?_
 refine zT 13 ?_;refine zOn 14 ?_
 iterate 3 refine zW ?_)
 rotate_right
 case' _ =>(
 iterate 2 refine zW ?_
 refine zT 3 ?_
 refine zE2 4 6 ?_ ?_
 rotate_left
 case' _ =>(
 refine xLt 133 37 496 ?_
 refine zW ?_
 refine zOn 4 ?_
 refine xEn 133 37 496 (hb:=xLb) fun v46 hv46=>?_
 refine zW ?_
 refine zOn 7 ?_
 refine xEa 133 37 496 (hb:=xLb) fun v49 hv49=>?_
 refine zW ?_
 refine zOn 12 ?_
 refine xEa 133 37 496 (hb:=xLb) fun v54 hv54=>?_
 refine zW ?_
 refine zT 13 ?_;refine zOn 14 ?_
 iterate 3 refine zW ?_)
 rotate_right
 case' _ =>(
 refine xEn 133 37 496 (hb:=xLb) fun v46 hv46=>?_
 refine zW ?_
 refine zOn 6 ?_
 refine xLt 133 37 496 ?_
 refine zW ?_
 refine zOn 7 ?_
 refine xEa 133 37 496 (hb:=xLb) fun v49 hv49=>?_
 refine zW ?_
 refine zOn 12 ?_
 refine xEa 133 37 496 (hb:=xLb) fun v54 hv54=>?_
 refine zW ?_
 refine zT 13 ?_;refine zOn 14 ?_
 iterate 3 refine zW ?_)))
 rotate_right
 case' _ =>(
 refine xLt 133 37 496 ?_
 refine zW ?_
 refine zE2 1 9 ?_ ?_
 rotate_left
 case' _ =>(
 iterate 2 refine zW ?_
 refine zT 11 ?_;refine zOn 1 ?_
 iterate 2 refine zW ?_
 refine zT 3 ?_;refine zOn 4 ?_
 refine xEn 133 37 496 (hb:=xLb) fun v46 hv46=>?_
 refine zW ?_
 refine zOn 7 ?_
 refine xEa 133 37 496 (hb:=xLb) fun v49 hv49=>?_
 refine zW ?_
 refine zOn 12 ?_
 refine xEa 133 37 496 (hb:=xLb) fun v54 hv54=>?_
 refine zW ?_
 refine zT 13 ?_;refine zOn 14 ?_
 iterate 3 refine zW ?_)
 rotate_right
 case' _ =>(
 iterate 2 refine zW ?_
 refine zT 3 ?_
 refine zE2 4 9 ?_ ?_
 rotate_left
 case' _ =>(
 iterate 2 refine zW ?_
 refine zT 11 ?_;refine zOn 4 ?_
 refine xEn 133 37 496 (hb:=xLb) fun v46 hv46=>?_
 refine zW ?_
 refine zOn 7 ?_
 refine xEa 133 37 496 (hb:=xLb) fun v49 hv49=>?_
 refine zW ?_
 refine zOn 12 ?_
 refine xEa 133 37 496 (hb:=xLb) fun v54 hv54=>?_
 refine zW ?_
 refine zT 13 ?_;refine zOn 14 ?_
 iterate 3 refine zW ?_)
 rotate_right
 case' _ =>(
 refine xEn 133 37 496 (hb:=xLb) fun v46 hv46=>?_
 refine zW ?_
 refine zE2 7 9 ?_ ?_
 rotate_left
 case' _ =>(
 iterate 2 refine zW ?_
 refine zT 11 ?_;refine zOn 7 ?_
 refine xEa 133 37 496 (hb:=xLb) fun v49 hv49=>?_
 refine zW ?_
 refine zOn 12 ?_
 refine xEa 133 37 496 (hb:=xLb) fun v54 hv54=>?_
 refine zW ?_
 refine zT 13 ?_;refine zOn 14 ?_
 iterate 3 refine zW ?_)
 rotate_right
 case' _ =>(
 refine xEa 133 37 496 (hb:=xLb) fun v49 hv49=>?_
 refine zW ?_
 refine zOn 9 ?_
 iterate 2 refine zW ?_
 refine zT 11 ?_;refine zOn 12 ?_
 refine xEa 133 37 496 (hb:=xLb) fun v54 hv54=>?_
 refine zW ?_
 refine zT 13 ?_;refine zOn 14 ?_
 iterate 3 refine zW ?_))))
 rotate_right
 case' _ =>(
 iterate 2 refine zW ?_
 refine zT 3 ?_
 refine jdf 4 6 9 zKr (cho rfl zGd ?_) (cho rfl zGd ?_) (cho rfl zGd ?_)
 rotate_left 2
 case' _ =>(
 iterate 2 refine zW ?_
 refine zT 11 ?_
 refine zE2 4 6 ?_ ?_
 rotate_left
 case' _ =>(
 refine xLt 133 37 496 ?_
 refine zW ?_
 refine zOn 4 ?_
 refine xEn 133 37 496 (hb:=xLb) fun v46 hv46=>?_
 refine zW ?_
 refine zOn 7 ?_
 refine xEa 133 37 496 (hb:=xLb) fun v49 hv49=>?_
 refine zW ?_
 refine zOn 12 ?_
 refine xEa 133 37 496 (hb:=xLb) fun v54 hv54=>?_
 refine zW ?_
 refine zT 13 ?_;refine zOn 14 ?_
 iterate 3 refine zW ?_)
 rotate_right
 case' _ =>(
 refine xEn 133 37 496 (hb:=xLb) fun v46 hv46=>?_
 refine zW ?_
 refine zOn 6 ?_
 refine xLt 133 37 496 ?_
 refine zW ?_
 refine zOn 7 ?_
 refine xEa 133 37 496 (hb:=xLb) fun v49 hv49=>?_
 refine zW ?_
 refine zOn 12 ?_
 refine xEa 133 37 496 (hb:=xLb) fun v54 hv54=>?_
 refine zW ?_
 refine zT 13 ?_;refine zOn 14 ?_
 iterate 3 refine zW ?_))
 rotate_right
 case' _ =>(
 refine xLt 133 37 496 ?_
 refine zW ?_
 refine zE2 4 9 ?_ ?_
 rotate_left
 case' _ =>(
 iterate 2 refine zW ?_
 refine zT 11 ?_;refine zOn 4 ?_
 refine xEn 133 37 496 (hb:=xLb) fun v46 hv46=>?_
 refine zW ?_
 refine zOn 7 ?_
 refine xEa 133 37 496 (hb:=xLb) fun v49 hv49=>?_
 refine zW ?_
 refine zOn 12 ?_
 refine xEa 133 37 496 (hb:=xLb) fun v54 hv54=>?_
 refine zW ?_
 refine zT 13 ?_;refine zOn 14 ?_
 iterate 3 refine zW ?_)
 rotate_right
 case' _ =>(
 refine xEn 133 37 496 (hb:=xLb) fun v46 hv46=>?_
 refine zW ?_
 refine zE2 7 9 ?_ ?_
 rotate_left
 case' _ =>(
 iterate 2 refine zW ?_
 refine zT 11 ?_;refine zOn 7 ?_
 refine xEa 133 37 496 (hb:=xLb) fun v49 hv49=>?_
 refine zW ?_
 refine zOn 12 ?_
 refine xEa 133 37 496 (hb:=xLb) fun v54 hv54=>?_
 refine zW ?_
 refine zT 13 ?_;refine zOn 14 ?_
 iterate 3 refine zW ?_)
 rotate_right
 case' _ =>(
 refine xEa 133 37 496 (hb:=xLb) fun v49 hv49=>?_
 refine zW ?_
 refine zOn 9 ?_
 iterate 2 refine zW ?_
 refine zT 11 ?_;refine zOn 12 ?_
 refine xEa 133 37 496 (hb:=xLb) fun v54 hv54=>?_
 refine zW ?_
 refine zT 13 ?_;refine zOn 14 ?_
 iterate 3 refine zW ?_)))
 rotate_right
 case' _ =>(
 refine xEn 133 37 496 (hb:=xLb) fun v46 hv46=>?_
 refine zW ?_
 refine zE2 6 9 ?_ ?_
 rotate_left
 case' _ =>(
 iterate 2 refine zW ?_
 refine zT 11 ?_;refine zOn 6 ?_
 refine xLt 133 37 496 ?_
 refine zW ?_
 refine zOn 7 ?_
 refine xEa 133 37 496 (hb:=xLb) fun v49 hv49=>?_
 refine zW ?_
 refine zOn 12 ?_
 refine xEa 133 37 496 (hb:=xLb) fun v54 hv54=>?_
 refine zW ?_
 refine zT 13 ?_;refine zOn 14 ?_
 iterate 3 refine zW ?_)
 rotate_right
 case' _ =>(
 refine xLt 133 37 496 ?_
 refine zW ?_
 refine zE2 7 9 ?_ ?_
 rotate_left
 case' _ =>(
 iterate 2 refine zW ?_
 refine zT 11 ?_;refine zOn 7 ?_
 refine xEa 133 37 496 (hb:=xLb) fun v49 hv49=>?_
 refine zW ?_
 refine zOn 12 ?_
 refine xEa 133 37 496 (hb:=xLb) fun v54 hv54=>?_
 refine zW ?_
 refine zT 13 ?_;refine zOn 14 ?_
 iterate 3 refine zW ?_)
 rotate_right
 case' _ =>(
 refine xEa 133 37 496 (hb:=xLb) fun v49 hv49=>?_
 refine zW ?_
 refine zOn 9 ?_
 iterate 2 refine zW ?_
 refine zT 11 ?_;refine zOn 12 ?_
 refine xEa 133 37 496 (hb:=xLb) fun v54 hv54=>?_
 refine zW ?_
 refine zT 13 ?_;refine zOn 14 ?_
 iterate 3 refine zW ?_))))
 all_goals (
 iterate 2 refine zW ?_
 rw [show D.agg [.i q.1.nom.node,.i q.1.nom.slot,.i q.1.nom.round,.i q.1.nom.seq,.i q.1.nom.t.th,.sl 1 (q.1.nom.t.nodes.map .i),.sl 3 (avs q.1.nom.t.inner),.v (.string q.1.nom.own),.sl 1 (q.1.nom.votes.map strv),.sl 1 (q.1.nom.accs.map strv),.sl 1 (q.1.nom.confs.map strv),.sl 7 (q.1.nom.heard.map nmv),.i q.1.mach.node,.i q.1.mach.slot,.i q.1.mach.seq,.i q.1.mach.t.th,.sl 1 (q.1.mach.t.nodes.map .i),.sl 3 (avs q.1.mach.t.inner),.i q.1.mach.phase,.i q.1.mach.bal.n,.v (.string q.1.mach.bal.v),.i q.1.mach.prep.n,.v (.string q.1.mach.prep.v),.i q.1.mach.prime.n,.v (.string q.1.mach.prime.v),.i q.1.mach.conf.n,.v (.string q.1.mach.conf.v),.i q.1.mach.low,.i q.1.mach.high,.v (.string q.1.mach.prop),.sl 15 (q.1.mach.heard.map ev),.i q.1.tm.n,.i q.1.tm.due,.i q.1.round,.i q.1.next,.b q.1.done,.v (.string q.1.value)]=slv q.1 from rfl,jcF]
 refine zFz v54 [4,8] ?_
 refine xP ?_
 unfold beginG;rw [qe (by rw [h20];decide),qe h25,← hq,qe (fun h=>h h39),← hk];rfl))))
theorem jdU (p:Ptc) (i:Nat) (s:Slt) (e:Int) (hi:i<p.slots.length) (hl:p.slots.length≤1000):C0 113 [ptv p,.i (i:Int),slv s,.i e] (.tup [ptv (withP p i (s,e)).1,.i (withP p i (s,e)).2]):=by
 have hcap:=jbu
 have hml:(p.slots.map slv).length=p.slots.length:=by simp
 obtain ⟨y,hy⟩:∃ y,p.slots[i]?=some y:=⟨_,List.getElem?_eq_getElem hi⟩
 have hyy:=jad slv hy
 refine jar Tryz.func113 rfl Tryz.call113 rfl ?_
 refine xX fun b4=>?_
 refine zBx fun b6=>?_
 refine zAl fun b8=>?_
 refine xC ?_ ?_<;>intro hc
 ·(
 have h11:¬ e=0:=jaf hc
 iterate 2 refine zW ?_
 refine zP (AP.up (jah zKr rfl zRc jav) (d':=ptv zPtc) xUp) ?_
 refine xP ?_
 unfold withP;rw [qf h11];rfl)
 ·(
 have h11:e=0:=jae hc
 iterate 6 refine zW ?_
 refine xEn 133 37 496 (hb:=xLb) fun v16 hv16=>?_
 iterate 5 refine zW ?_
 refine jfh jct (by intro e;have h5:=congrArg List.length e;simp only [qt] at h5;omega) (fun g cap hv=>?_)
 subst hv
 iterate 6 refine zW ?_
 refine jaI (off:=0) rfl rfl jem jct rfl hyy zRc ?_
 iterate 3 refine zW ?_
 rw [show D.agg [.i s.nom.node,.i s.nom.slot,.i s.nom.round,.i s.nom.seq,.i s.nom.t.th,.sl 1 (s.nom.t.nodes.map .i),.sl 3 (avs s.nom.t.inner),.v (.string s.nom.own),.sl 1 (s.nom.votes.map strv),.sl 1 (s.nom.accs.map strv),.sl 1 (s.nom.confs.map strv),.sl 7 (s.nom.heard.map nmv),.i s.mach.node,.i s.mach.slot,.i s.mach.seq,.i s.mach.t.th,.sl 1 (s.mach.t.nodes.map .i),.sl 3 (avs s.mach.t.inner),.i s.mach.phase,.i s.mach.bal.n,.v (.string s.mach.bal.v),.i s.mach.prep.n,.v (.string s.mach.prep.v),.i s.mach.prime.n,.v (.string s.mach.prime.v),.i s.mach.conf.n,.v (.string s.mach.conf.v),.i s.mach.low,.i s.mach.high,.v (.string s.mach.prop),.sl 15 (s.mach.heard.map ev),.i s.tm.n,.i s.tm.due,.i s.round,.i s.next,.b s.done,.v (.string s.value)]=slv s from rfl,← List.map_set]
 refine zFz (.slice (some ⟨g,0,none⟩) _ cap) [4,8] ?_
 refine xP ?_
 unfold withP;rw [qe (fun h=>h h11)];rfl)
def okSp (q:Option Int) (s:Slt):Bool:=match q with | none=>true | some k=>decide (k<s.mach.slot)
def prevS (l:List Slt) (k:Nat):Option Int:=if k=0 then none else (l[k - 1]?).map fun s=>s.mach.slot
theorem jj9 (p:Ptc) (q:Option Int) (s:Slt) (r:List Slt):psGo p q (s::r)=((((checkS s&&decide (s.mach.node=p.node))&&same s.mach.t p.t)&&okSp q s)&&psGo p (some s.mach.slot) r):=by cases q<;>rfl
theorem joD {l:List Slt} (h:l[k]?=some x):prevS l (k+1)=some x.mach.slot:=by
 unfold prevS
 rw [qe (by omega),Nat.add_sub_cancel,h]
 rfl
theorem ju4 {l:List Slt} {y:Slt} (hy:0<k→l[k - 1]?=some y):okSp (prevS l k) x=if (0:Int)<(k:Int) then decide (y.mach.slot<x.mach.slot) else true:=by
 unfold prevS
 by_cases h:k=0
 ·rw [qf h,qe (by omega)];rfl
 ·rw [qe h,qf (by omega),hy (by omega)];rfl
theorem jsp {l:List Slt} (x:Slt) (h:k≤l.length):∃ y,0<k→l[k - 1]?=some y:=by
 rcases Nat.eq_zero_or_pos k with h0 | h0
 ·exact ⟨x,fun h1=>by omega⟩
 ·exact ⟨l[k - 1]'(by omega),fun _=>List.getElem?_eq_getElem _⟩
def badP (p:Ptc):Bool:=decide (p.node<0)||(decide (p.node>9)||(!decide (validT p.t=0)||decide ((p.slots.length:Int)>8)))
theorem jgJ (p:Ptc):checkP p=(!badP p&&psGo p none p.slots):=by
 have h:(((decide (p.node≥0)&&decide (p.node≤9))&&decide (validT p.t=0))&&decide (p.slots.length≤8))=!badP p:=by
  rw [Bool.eq_iff_iff]
  simp only [badP,qh,qm,Bool.not_eq_true',Bool.or_eq_false_iff,decide_eq_false_iff_not,Bool.not_eq_false',gt_iff_lt,ge_iff_le]
  omega
 unfold checkP;rw [h]
theorem ja0 (p:Ptc) (hP:PI p):C0 101 [ptv p] (.b (checkP p)):=by
 refine xI Tryz.func101 Tryz.call101 fun hcap=>?_
 have hsz:=hP.sz
 have hml:(p.slots.map slv).length=p.slots.length:=by simp
 have hpl:=hP.hl
 refine xX fun b1=>?_
 iterate 10 refine zW ?_
 iterate 7 all_goals first | refine zW ?_ | refine xG ?_ ?_<;>intro hg
 all_goals first | (refine zY ?_;refine jaa zRc (jaN p.t (by omega)) rfl rfl ?_) | refine zSk ?_
 iterate 5 all_goals first | refine zW ?_ | refine xG ?_ ?_<;>intro hg
 all_goals first | (refine zY ?_;(first | refine zLn fun _=>?_ | refine zW ?_)) | refine zSk ?_
 iterate 2 all_goals refine zW ?_
 all_goals (
 refine xC ?_ ?_<;>intro hc
 ·(
 first
 | (exact xQ hc)
 |(
 have h24:badP p=true:=by unfold badP;rw [← hml];first | (simp only [*,Bool.or_true,Bool.true_or,Bool.or_false,Bool.false_or,Bool.not_true,Bool.not_false];done) | (simp [*];done) | grind
 refine xP ?_
 rw [jgJ,h24];rfl))
 ·(
 first
 | (exact xQ hc)
 |(
 have h24:badP p=false:=by unfold badP;rw [← hml];first | (simp only [*,Bool.or_true,Bool.true_or,Bool.or_false,Bool.false_or,Bool.not_true,Bool.not_false];done) | (simp [*];done) | grind
 refine xN fun _=>?_
 iterate 4 refine zW ?_
 refine jaj [1,26,27] [.box b1 _ _] (fun (k:Nat) r=>(28,.i (k:Int))::r) (fun k r=>r) (fun k=>k≤p.slots.length∧psGo p (prevS p.slots k) (p.slots.drop k)=psGo p none p.slots) (fun k=>p.slots.length - k) (0) zRc ⟨by omega,rfl⟩ (zWk) ?_
 intro k ⟨hk,hI⟩
 refine xC ?_ ?_<;>intro hc
 ·(
 have hlt:=qc hc
 obtain ⟨x,hx,hd⟩:=jab (l:=p.slots) (k:=k) (by omega)
 have hx':=jad slv hx
 obtain ⟨y,hy⟩:=jsp x hk
 have hq:=ju4 (x:=x) hy
 refine xL fun b4=>?_
 iterate 5 refine zW ?_
 refine zDr [] ?_
 refine zT 0 ?_;refine zOn 1 ?_
 refine xA (jbp x (hP.hs x (qj hx))) ?_
 refine zW ?_
 refine zT 2 ?_;refine zT 3 ?_
 refine jai 3 rfl (fun hg=>?_) fun hg=>?_
 rotate_left
 case' _ =>(
 refine zT 4 ?_;refine zT 5 ?_;refine zT 6 ?_;refine zT 7 ?_;refine zT 8 ?_;refine zT 9 ?_;refine zT 10 ?_;refine zT 11 ?_
 refine jai 11 rfl (fun hg=>?_) fun hg=>?_
 rotate_left
 case' _ =>(
 refine zT 12 ?_;refine zT 13 ?_;refine zT 14 ?_;refine zT 15 ?_;refine zT 16 ?_;refine zOn 17 ?_
 refine xA (jb1 x.mach.t p.t) ?_
 refine zW ?_
 refine zT 18 ?_;refine zT 19 ?_;refine zT 20 ?_
 refine jai 20 rfl (fun hg=>?_) fun hg=>?_
 rotate_left
 case' _ =>(
 refine zT 21 ?_;refine zT 22 ?_;refine zT 23 ?_
 refine jai 23 rfl (fun hg=>?_) fun hg=>?_
 rotate_left
 case' _ =>(
 refine zK 24 ?_;refine zK 25 ?_;refine zK 26 ?_;refine zK 27 ?_;refine zK 28 ?_;refine zK 29 ?_;refine zK 30 ?_;refine zK 31 ?_;refine zK 32 ?_;refine zK 33 ?_;refine zK 34 ?_;refine zK 35 ?_;refine zT 36 ?_;refine zT 37 ?_
 refine zW ?_)
 rotate_right
 case' _ =>(
 refine zT 24 ?_;refine zT 25 ?_;refine zT 26 ?_;refine zT 27 ?_
 refine jan 28 rfl zGd zKr zKr zKr (AP.ar (jam (k:=k - 1) rfl rfl rfl rfl (by decide) (by have h9:decide ((k:Int)>0)=true:=(by first | with_reducible assumption | exact hg);have:=qc h9;omega) (jad slv (hy (by have h9:decide ((k:Int)>0)=true:=(by first | with_reducible assumption | exact hg);have:=qc h9;omega))))) rfl rfl ?_
 refine zT 29 ?_;refine zT 30 ?_;refine zT 31 ?_;refine zT 32 ?_;refine zT 33 ?_;refine zT 34 ?_;refine zT 35 ?_;refine zT 36 ?_;refine zT 37 ?_
 refine zW ?_))
 rotate_right
 case' _ =>(
 refine zK 21 ?_;refine zK 22 ?_;refine zKu 23 ?_;refine zK 24 ?_;refine zK 25 ?_;refine zK 26 ?_;refine zK 27 ?_;refine zK 28 ?_;refine zK 29 ?_;refine zK 30 ?_;refine zK 31 ?_;refine zK 32 ?_;refine zK 33 ?_;refine zK 34 ?_;refine zK 35 ?_;refine zK 36 ?_;refine zT 37 ?_
 refine zW ?_))
 rotate_right
 case' _ =>(
 refine zK 12 ?_;refine zK 13 ?_;refine zK 14 ?_;refine zK 15 ?_;refine zK 16 ?_;refine zK 17 ?_;refine zK 18 ?_;refine zT 19 ?_;refine zT 20 ?_;refine zK 21 ?_;refine zK 22 ?_;refine zKu 23 ?_;refine zK 24 ?_;refine zK 25 ?_;refine zK 26 ?_;refine zK 27 ?_;refine zK 28 ?_;refine zK 29 ?_;refine zK 30 ?_;refine zK 31 ?_;refine zK 32 ?_;refine zK 33 ?_;refine zK 34 ?_;refine zK 35 ?_;refine zK 36 ?_;refine zT 37 ?_
 refine zW ?_))
 rotate_right
 case' _ =>(
 refine zK 4 ?_;refine zK 5 ?_;refine zK 6 ?_;refine zK 7 ?_;refine zK 8 ?_;refine zK 9 ?_;refine zT 10 ?_;refine zT 11 ?_;refine zK 12 ?_;refine zK 13 ?_;refine zK 14 ?_;refine zK 15 ?_;refine zK 16 ?_;refine zK 17 ?_;refine zK 18 ?_;refine zT 19 ?_;refine zT 20 ?_;refine zK 21 ?_;refine zK 22 ?_;refine zKu 23 ?_;refine zK 24 ?_;refine zK 25 ?_;refine zK 26 ?_;refine zK 27 ?_;refine zK 28 ?_;refine zK 29 ?_;refine zK 30 ?_;refine zK 31 ?_;refine zK 32 ?_;refine zK 33 ?_;refine zK 34 ?_;refine zK 35 ?_;refine zK 36 ?_;refine zT 37 ?_
 refine zW ?_)
 all_goals (
 refine xC ?_ ?_<;>intro hc
 ·(
 first
 | (exact xQ hc)
 |(
 have hq0:(((checkS x&&decide (x.mach.node=p.node))&&same x.mach.t p.t)&&okSp (prevS p.slots k) x)=false:=by rw [hq];first | (simp [*];done) | grind
 refine xP ?_
 rw [hd,jj9,hq0,qv] at hI
 rw [jgJ,h24,← hI];rfl))
 ·(
 first
 | (exact xQ hc)
 |(
 have hq0:(((checkS x&&decide (x.mach.node=p.node))&&same x.mach.t p.t)&&okSp (prevS p.slots k) x)=true:=by rw [hq];first | (simp [*];done) | grind
 iterate 8 refine zW ?_
 rw [hd,jj9,hq0,qs,← joD hx] at hI
 refine ⟨k+1,⟨by omega,hI⟩,by omega,zWk⟩))))
 ·(
 have hge:=qd hc
 rw [jac (by omega)] at hI
 refine xP ?_
 rw [jgJ,h24,← hI];rfl))))
theorem jqe (p:Ptc) (hP:PI p):C0 61 [ptv p] (ptv (stopP p)):=by
 refine xI Tryz.func61 Tryz.call61 fun hcap=>?_
 refine xX fun b1=>?_
 refine zAl fun b2=>?_
 refine xA (ja0 p hP) ?_
 refine xC ?_ ?_<;>intro hc
 ·(
 have h5:checkP p=false:=jau hc
 refine xP ?_
 unfold stopP;rw [qf h5];rfl)
 ·(
 have h5:checkP p=true:=jat hc
 refine xP ?_
 unfold stopP;rw [qe (by rw [h5];decide)];rfl)
theorem jo7 (p:Ptc) (hP:PI p) (number:Int) (own:Str) (now:Int):C0 59 [ptv p,.i number,.v (.string own),.i now] (.tup [ptv (beginP p number own now).1,.i (beginP p number own now).2]):=by
 refine xI Tryz.func59 Tryz.call59 fun hcap=>?_
 refine xX fun b4=>?_
 refine zAl fun b8=>?_
 refine xA (ja0 p hP) ?_
 refine xC ?_ ?_<;>intro hc
 ·(
 have h10:checkP p=false:=jau hc
 iterate 2 refine zW ?_
 refine zP (AP.up (jah zKr rfl zRc jav) (d':=ptv zPtc) xUp) ?_
 refine xP ?_
 unfold beginP;rw [qf h10];rfl)
 ·(
 have h10:checkP p=true:=jat hc
 have hl8:=(jaZ h10).2.2.1
 refine xC ?_ ?_<;>intro hc
 ·(
 have h19:p.stopped=true:=hc
 refine xP ?_
 unfold beginP;rw [qe (by rw [h10];decide),qf h19];rfl)
 ·(
 have h19:p.stopped=false:=hc
 refine xA (jhC p hP hl8 number own now) ?_
 refine xP ?_
 unfold beginP;rw [qe (by rw [h10];decide),qe (by rw [h19];decide)];rfl))
theorem jhS (p:Ptc) (hP:PI p) (hl:p.slots.length≤8) (number:Int) (own:Str) (now:Int):C0 111 [ptv p,.i number,.v (.string own),.i now] (.tup [ptv (readyP p number own now).1,.i (atP (readyP p number own now).1 number:Nat),.i (readyP p number own now).2]):=by
 refine xI Tryz.func111 Tryz.call111 fun hcap=>?_
 refine xX fun b4=>?_
 refine zAl fun b8=>?_
 refine xB (jil p number (by omega)) ?_;rintro _ _ ⟨rfl,rfl⟩;obtain ⟨k,hk⟩:∃ x,x=atP p number:=⟨_,rfl⟩;obtain ⟨g,hg0⟩:∃ x,x=thereP p number:=⟨_,rfl⟩;rw [← hk,← hg0];have hkl:k≤p.slots.length:=hk ▸ jeY (ltSl number) p.slots
 refine xC ?_ ?_<;>intro hc
 ·(
 have h22:thereP p number=true:=hg0 ▸ hc
 have hr9:readyP p number own now=(p,0):=by unfold readyP;rw [qf h22]
 refine xP ?_
 rw [hr9,hk];rfl)
 ·(
 have h22:thereP p number=false:=hg0 ▸ hc
 refine xB (jhC p hP hl number own now) ?_;rintro _ _ ⟨rfl,rfl⟩;have hbl:=joB (number:=number) (own:=own) (now:=now) hP hl;obtain ⟨q,hq⟩:∃ x,x=beginG p number own now:=⟨_,rfl⟩;rw [← hq] at hbl ⊢
 refine xA (jil q.1 number (by omega)) ?_
 refine xP ?_
 rw [show readyP p number own now=q by unfold readyP;rw [qe (by rw [h22];decide),← hq]];rfl)
theorem jjn (p:Ptc) (hP:PI p) (number:Int) (v:Str) (now:Int):C0 60 [ptv p,.i number,.v (.string v),.i now] (.tup [ptv (prefP p number v now).1,.i (prefP p number v now).2]):=by
 refine xI Tryz.func60 Tryz.call60 fun hcap=>?_
 refine xX fun b4=>?_
 refine zAl fun b8=>?_
 refine xA (ja0 p hP) ?_
 refine xC ?_ ?_<;>intro hc
 ·(
 have h10:checkP p=false:=jau hc
 iterate 2 refine zW ?_
 refine zP (AP.up (jah zKr rfl zRc jav) (d':=ptv zPtc) xUp) ?_
 refine xP ?_
 unfold prefP;rw [qf h10];rfl)
 ·(
 have h10:checkP p=true:=jat hc
 have hl8:=(jaZ h10).2.2.1
 refine xC ?_ ?_<;>intro hc
 ·(
 have h19:p.stopped=true:=hc
 refine xP ?_
 unfold prefP;rw [qe (by rw [h10];decide),qf h19];rfl)
 ·(
 have h19:p.stopped=false:=hc
 refine xB (jhS p hP hl8 number v now) ?_;rintro _ _ ⟨rfl,rfl⟩;obtain ⟨q,hq⟩:∃ x,x=readyP p number v now:=⟨_,rfl⟩;rw [← hq];obtain ⟨k,hk⟩:∃ x,x=atP q.1 number:=⟨_,rfl⟩;rw [← hk]
 refine xL fun b10=>?_
 refine xC ?_ ?_<;>intro hc
 ·(
 have h31:¬ q.2=0:=jaf hc
 iterate 2 refine zW ?_
 refine zP (AP.up (jah zKr rfl zRc jav) (d':=ptv zPtc) xUp) ?_
 refine xP ?_
 unfold prefP;rw [qe (by rw [h10];decide),qe (by rw [h19];decide),← hq,qf h31];rfl)
 ·(
 have h31:q.2=0:=jae hc
 have hqp:=jeb hP hl8 (hq ▸ h31)
 rw [← hq] at hqp
 have hat:=jfJ hP.sz (hq ▸ h31)
 rw [← hq,← hk] at hat
 obtain ⟨s9,hs9⟩:=hat
 have hs9':=jad slv hs9
 have hks:=(List.getElem?_eq_some_iff.1 hs9).1
 have hqs:=hqp.1.hs s9 (qj hs9)
 have hql:=hqp.1.hl
 iterate 7 refine zW ?_
 refine zP (jam (k:=k) rfl rfl rfl rfl (by decide) rfl hs9') ?_
 refine xB (jjk s9 hqs v) ?_;rintro _ _ ⟨rfl,rfl⟩;obtain ⟨x,hx⟩:∃ z9,z9=prefS' s9 v:=⟨_,rfl⟩;rw [← hx]
 refine xL fun b13=>?_
 refine xA (jdU q.1 k x.1 x.2 hks (by omega)) ?_
 refine xP ?_
 unfold prefP;rw [qe (by rw [h10];decide),qe (by rw [h19];decide),← hq,qe (fun h=>h h31)];unfold onP;rw [← hk,hs9];simp only;rw [← hx];rfl)))
theorem jks (p:Ptc) (hP:PI p) (l:Ltr) (hL:LB l) (now:Int):C0 104 [ptv p,ltv l,.i now] (.tup [ptv (hearP p l now).1,.i (hearP p l now).2]):=by
 refine xI Tryz.func104 Tryz.call104 fun hcap=>?_
 refine xX fun b3=>?_
 refine zBx fun b4=>?_
 refine zAl fun b6=>?_
 refine xA (ja0 p hP) ?_
 refine xC ?_ ?_<;>intro hc
 ·(
 have h10:checkP p=false:=jau hc
 iterate 2 refine zW ?_
 refine zP (AP.up (jah zKr rfl zRc jav) (d':=ptv zPtc) xUp) ?_
 refine xP ?_
 unfold hearP;rw [qf h10];rfl)
 ·(
 have h10:checkP p=true:=jat hc
 have hl8:=(jaZ h10).2.2.1
 refine xC ?_ ?_<;>intro hc
 ·(
 have h19:p.stopped=true:=hc
 refine xP ?_
 unfold hearP;rw [qe (by rw [h10];decide),qf h19];rfl)
 ·(
 have h19:p.stopped=false:=hc
 iterate 9 refine zW ?_
 iterate 17 all_goals first | refine zW ?_ | refine xG ?_ ?_<;>intro hg
 all_goals (
 refine xC ?_ ?_<;>intro hc
 ·(
 first
 | (exact xQ hc)
 |(
 have h41:badL l=true:=by unfold badL;first | (simp_all;done) | grind
 iterate 2 refine zW ?_
 refine zP (AP.up (jah zKr rfl zRc jav) (d':=ptv zPtc) xUp) ?_
 refine xP ?_
 unfold hearP;rw [qe (by rw [h10];decide),qe (by rw [h19];decide),qf h41];rfl))
 ·(
 first
 | (exact xQ hc)
 |(
 have h41:badL l=false:=by unfold badL;first | (simp_all;done) | grind
 refine xB (jhS p hP hl8 l.slot sZ now) ?_;rintro _ _ ⟨rfl,rfl⟩;obtain ⟨q,hq⟩:∃ x,x=readyP p l.slot sZ now:=⟨_,rfl⟩;rw [← hq];obtain ⟨k,hk⟩:∃ x,x=atP q.1 l.slot:=⟨_,rfl⟩;rw [← hk]
 refine xL fun b8=>?_
 refine xC ?_ ?_<;>intro hc
 ·(
 have h31:¬ q.2=0:=jaf hc
 iterate 2 refine zW ?_
 refine zP (AP.up (jah zKr rfl zRc jav) (d':=ptv zPtc) xUp) ?_
 refine xP ?_
 unfold hearP;rw [qe (by rw [h10];decide),qe (by rw [h19];decide),qe (by rw [h41];decide),← hq,qf h31];rfl)
 ·(
 have h31:q.2=0:=jae hc
 have hqp:=jeb hP hl8 (hq ▸ h31)
 rw [← hq] at hqp
 have hat:=jfJ hP.sz (hq ▸ h31)
 rw [← hq,← hk] at hat
 obtain ⟨s9,hs9⟩:=hat
 have hs9':=jad slv hs9
 have hks:=(List.getElem?_eq_some_iff.1 hs9).1
 have hqs:=hqp.1.hs s9 (qj hs9)
 have hql:=hqp.1.hl
 refine xC ?_ ?_<;>intro hc
 ·(
 have h58:l.kind=1:=qc hc
 refine zW ?_
 refine zDr [] ?_
 refine zT 0 ?_;refine zT 1 ?_;refine zT 2 ?_
 refine jan 3 rfl zGd zKr zKr zKr (AP.ar (jam (k:=k) rfl rfl rfl rfl (by decide) rfl hs9')) rfl rfl ?_
 refine zT 4 ?_;refine zT 5 ?_;refine zT 6 ?_
 refine zE2 7 11 ?_ ?_
 rotate_left
 case' _ =>(
 refine zAl fun b11=>?_
 refine zW ?_
 refine zOn 7 ?_
 refine xB (jdA s9 hqs l.nom hL.nom) ?_;rintro _ _ ⟨rfl,rfl⟩;obtain ⟨x,hx⟩:∃ z9,z9=nomS s9 l.nom:=⟨_,rfl⟩;rw [← hx]
 refine zW ?_
 refine zT 8 ?_;refine zT 9 ?_;refine zT 10 ?_;refine zOn 12 ?_
 iterate 2 refine zW ?_
 refine zT 13 ?_
 refine zW ?_)
 rotate_right
 case' _ =>(
 refine xB (jdA s9 hqs l.nom hL.nom) ?_;rintro _ _ ⟨rfl,rfl⟩;obtain ⟨x,hx⟩:∃ z9,z9=nomS s9 l.nom:=⟨_,rfl⟩;rw [← hx]
 refine zW ?_
 refine zT 8 ?_;refine zT 9 ?_;refine zT 10 ?_;refine zOn 11 ?_
 refine zAl fun b11=>?_
 refine zW ?_
 refine zOn 12 ?_
 iterate 2 refine zW ?_
 refine zT 13 ?_
 refine zW ?_)
 all_goals (
 refine xA (jdU q.1 k x.1 x.2 hks (by omega)) ?_
 refine xP ?_
 unfold hearP;rw [qe (by rw [h10];decide),qe (by rw [h19];decide),qe (by rw [h41];decide),← hq,qe (fun h=>h h31)];unfold onP;rw [← hk,hs9];simp only;rw [qf h58,← hx];rfl))
 ·(
 have h58:¬ l.kind=1:=qd hc
 iterate 3 refine zW ?_
 refine zDr [] ?_
 refine zT 0 ?_;refine zT 1 ?_;refine zT 2 ?_
 refine jan 3 rfl zGd zKr zKr zKr (AP.ar (jam (k:=k) rfl rfl rfl rfl (by decide) rfl hs9')) rfl rfl ?_
 refine zT 4 ?_;refine zT 5 ?_;refine zT 6 ?_
 refine zE2 7 11 ?_ ?_
 rotate_left
 case' _ =>(
 refine zAl fun b13=>?_
 refine zW ?_
 refine zOn 7 ?_
 refine xB (jeh s9 hqs l.env hL.env) ?_;rintro _ _ ⟨rfl,rfl⟩;obtain ⟨x,hx⟩:∃ z9,z9=balS s9 l.env:=⟨_,rfl⟩;rw [← hx]
 refine zW ?_
 refine zT 8 ?_;refine zT 9 ?_;refine zT 10 ?_;refine zOn 12 ?_
 iterate 2 refine zW ?_
 refine zT 13 ?_
 refine zW ?_)
 rotate_right
 case' _ =>(
 refine xB (jeh s9 hqs l.env hL.env) ?_;rintro _ _ ⟨rfl,rfl⟩;obtain ⟨x,hx⟩:∃ z9,z9=balS s9 l.env:=⟨_,rfl⟩;rw [← hx]
 refine zW ?_
 refine zT 8 ?_;refine zT 9 ?_;refine zT 10 ?_;refine zOn 11 ?_
 refine zAl fun b13=>?_
 refine zW ?_
 refine zOn 12 ?_
 iterate 2 refine zW ?_
 refine zT 13 ?_
 refine zW ?_)
 all_goals (
 refine xA (jdU q.1 k x.1 x.2 hks (by omega)) ?_
 refine xP ?_
 unfold hearP;rw [qe (by rw [h10];decide),qe (by rw [h19];decide),qe (by rw [h41];decide),← hq,qe (fun h=>h h31)];unfold onP;rw [← hk,hs9];simp only;rw [qe h58,← hx];rfl))))))))
theorem jfD {s:Slt × Int} (h:¬ (withP p i s).2=0):¬ s.2=0∧(withP p i s).2=s.2:=by
 unfold withP at h ⊢
 split at h
 ·rename_i h1;rw [qf h1];exact ⟨h1,rfl⟩
 ·exact qo rfl h
theorem jfF {s:Slt × Int} (h:(withP p i s).2=0):s.2=0∧(withP p i s).1={ p with slots:=p.slots.set i s.1 }:=by
 unfold withP at h ⊢
 split at h
 ·rename_i h1;exact qo h h1
 ·rename_i h1;rw [qe h1];exact ⟨by simpa using h1,rfl⟩
theorem jvL {q r:List Slt} (h:q.length=i):(q++s::r).set i x=(q++[x])++r:=by
 subst h
 rw [List.set_append_right _ _ (Nat.le_refl _),Nat.sub_self,List.set_cons_zero,List.append_assoc];rfl
theorem jv6 {q r:List Slt} (h:q.length=i):(q++s::r)[i]?=some s:=by
 subst h
 rw [List.getElem?_append_right (Nat.le_refl _),Nat.sub_self];rfl
theorem jgI (p:Ptc) (hP:PI p) (now:Int):C0 105 [ptv p,.i now] (.tup [ptv (tickP p now).1,.i (tickP p now).2]):=by
 refine xI Tryz.func105 Tryz.call105 fun hcap=>?_
 have hml:(p.slots.map slv).length=p.slots.length:=by simp
 have hpl:=hP.hl
 refine xX fun b2=>?_
 refine zAl fun b4=>?_
 refine xA (ja0 p hP) ?_
 refine xC ?_ ?_<;>intro hc
 ·(
 have h10:checkP p=false:=jau hc
 iterate 2 refine zW ?_
 refine zP (AP.up (jah zKr rfl zRc jav) (d':=ptv zPtc) xUp) ?_
 refine xP ?_
 unfold tickP;rw [qf h10];rfl)
 ·(
 have h10:checkP p=true:=jat hc
 have hl8:=(jaZ h10).2.2.1
 refine xC ?_ ?_<;>intro hc
 ·(
 have h19:p.stopped=true:=hc
 refine xP ?_
 unfold tickP;rw [qe (by rw [h10];decide),qf h19];rfl)
 ·(
 have h19:p.stopped=false:=hc
 refine xN fun _=>?_
 iterate 4 refine zW ?_
 refine jag [1,2,4,19] [.box b4 _ _] (fun (i:Nat) (q:List Slt) r=>(20,.i (i:Int))::r) (fun i q r=>.box b2 107 [.i p.node,.b p.stopped,.i p.t.th,.sl 1 (p.t.nodes.map .i),.sl 3 (avs p.t.inner),.sl 37 ((q++p.slots.drop i).map slv)]::r) (fun i q=>(q.length=i∧i≤p.slots.length)∧tksGo now (p.slots.drop i) q=tksGo now p.slots []) (fun i q=>p.slots.length - i) (0) ([]) zRc ⟨⟨rfl,by omega⟩,rfl⟩ (zWk) ?_
 intro i q ⟨⟨hqi,hi⟩,hI⟩
 refine xC ?_ ?_<;>intro hc
 ·(
 have hlt:=qc hc
 obtain ⟨s9,hs0,hd⟩:=jab (l:=p.slots) (k:=i) (by omega)
 have hqs:=hP.hs s9 (qj hs0)
 have hs9:(q++p.slots.drop i)[i]?=some s9:=by rw [hd];exact jv6 hqi
 iterate 15 refine zW ?_
 refine zP (jam (k:=i) rfl rfl rfl rfl (by decide) rfl (jad slv hs9)) ?_
 refine xB (jlA s9 hqs now) ?_;rintro _ _ ⟨rfl,rfl⟩;obtain ⟨x,hx⟩:∃ z9,z9=tickSl s9 now:=⟨_,rfl⟩;rw [← hx]
 refine xL fun b7=>?_
 refine xB (jdU { p with slots:=q++p.slots.drop i } i x.1 x.2 (by show i<(q++p.slots.drop i).length;rw [qq,List.length_drop];omega) (by show (q++p.slots.drop i).length≤1000;rw [qq,List.length_drop];omega)) ?_;rintro _ _ ⟨rfl,rfl⟩;obtain ⟨y,hy⟩:∃ z9,z9=withP { p with slots:=q++p.slots.drop i } i (x.1,x.2):=⟨_,rfl⟩;rw [← hy]
 refine xL fun b9=>?_
 refine xC ?_ ?_<;>intro hc
 ·(
 have h42:¬ y.2=0:=jaf hc
 have hx0:=jfD (hy ▸ h42)
 rw [hd,tksGo,← hx,qf hx0.1] at hI
 rw [← hy] at hx0
 iterate 2 refine zW ?_
 refine zP (AP.up (jah zKr rfl zRc jav) (d':=ptv zPtc) xUp) ?_
 refine xP ?_
 rw [hx0.2];unfold tickP;rw [qe (by rw [h10];decide),qe (by rw [h19];decide),← hI,qf hx0.1];rfl)
 ·(
 have h42:y.2=0:=jae hc
 have hx1:=jfF (hy ▸ h42)
 have hx0:x.2=0:=hx1.1
 have hy1:y.1={ p with slots:=(q++[x.1])++p.slots.drop (i+1) }:=by rw [hy,hx1.2];show (⟨p.node,p.stopped,p.t,(q++p.slots.drop i).set i x.1⟩:Ptc)=_;rw [hd,jvL hqi]
 rw [hy1]
 iterate 13 refine zW ?_
 rw [hd,tksGo,← hx,qe (fun h=>h hx0)] at hI
 refine ⟨i+1,q++[x.1],⟨⟨by simp;omega,by omega⟩,hI⟩,by omega,zWk⟩))
 ·(
 have hge:=qd hc
 rw [jac (by omega),tksGo] at hI
 have ht9:tksGo now p.slots []=(q,0):=hI.symm
 have hdn:p.slots.drop i=[]:=jac (by omega)
 rw [hdn,List.append_nil]
 refine xP ?_
 unfold tickP;rw [qe (by rw [h10];decide),qe (by rw [h19];decide),ht9];rfl)))
end Go.Proofs.YtgmpjpaekpefdaaGreat
