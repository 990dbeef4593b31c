/- Walks: each says what one function of the program answers, for the arguments that its statement names. No condition beyond what each theorem says. -/
import Derived.Test.YtgmpjpaekpefdaaGreatAnalyserPlainW3
import Derived.Test.YtgmpjpaekpefdaaGreatProg
import Derived.KernelRfl
import Derived.Tactics
import Derived.Tactics2
import Derived.StillTactics
set_option linter.unusedVariables false
set_option linter.unusedSimpArgs false
set_option maxRecDepth 4000
set_option maxHeartbeats 8000000
namespace Go.Proofs.YtgmpjpaekpefdaaGreat
open Go Go.Av Go.Tq
variable {m:Mach} {k:Nat} {x e z:Evp} {l q r:List Evp} {t:Tm} {now:Int} {b:Bal}
theorem jaM (m:Mach):C0 207 [mcv m] (ev (envR m)):=by
 refine xI Tryz.func207 Tryz.call207 fun hcap=>?_
 refine xX fun b1=>?_
 refine zAl fun b2=>?_
 refine xL fun b3=>?_
 refine xC ?_ ?_<;>intro hc
 ·(
 have hp1:=qc hc
 refine zW ?_
 refine zDr [.box b3 _ _] ?_
 refine zT 0 ?_;refine zT 1 ?_;refine zT 2 ?_;refine zT 3 ?_;refine zT 4 ?_;refine zT 5 ?_;refine zT 6 ?_;refine zOn 7 ?_
 iterate 2 refine zW ?_
 refine zT 8 ?_;refine zOn 9 ?_
 iterate 2 refine zW ?_
 refine zT 10 ?_;refine zOn 11 ?_
 iterate 3 refine zW ?_
 all_goals (
 refine xA (jaJ m.conf) ?_
 iterate 2 refine zW ?_
 iterate 4 all_goals first | refine zW ?_ | refine xG ?_ ?_<;>intro hg
 all_goals first | (refine zY ?_;refine jaa zRc (ja2 m.conf m.bal) rfl rfl ?_) | refine zSk ?_
 all_goals refine zW ?_
 all_goals (
 refine xC ?_ ?_<;>intro hc
 ·(
 first
 | (exact xQ hc)
 |(
 iterate 16 refine zW ?_
 refine zPi ?_
 have h5:(!zB m.conf&&cB m.conf m.bal)=true:=(by simp [*];done);rw [jsb hp1 h5];rfl))
 ·(
 first
 | (exact xQ hc)
 |(
 iterate 10 refine zW ?_
 refine zPi ?_
 first | (rw [juj hp1 hp2];rfl) | (rw [juD hp1 hp2];rfl) | (have h5:(!zB m.conf&&cB m.conf m.bal)=true:=(by simp [*];done);rw [jsb hp1 h5];rfl) | (have h5:(!zB m.conf&&cB m.conf m.bal)=false:=(by simp [*];done);rw [jwu hp1 h5];rfl))))))
 ·(
 have hp1:=qd hc
 refine xC ?_ ?_<;>intro hc
 ·(
 have hp2:=qc hc
 refine zDr [.box b3 _ _] ?_
 refine zT 0 ?_;refine zT 1 ?_;refine zT 2 ?_;refine zT 3 ?_;refine zT 4 ?_;refine zT 5 ?_;refine zT 6 ?_;refine zOn 7 ?_
 iterate 2 refine zW ?_
 refine zT 8 ?_;refine zOn 9 ?_
 iterate 2 refine zW ?_
 refine zT 10 ?_;refine zOn 11 ?_
 iterate 3 refine zW ?_
 all_goals (
 refine xP ?_
 rw [juj hp1 hp2];rfl))
 ·(
 have hp2:=qd hc
 refine zDr [.box b3 _ _] ?_
 refine zT 0 ?_;refine zT 1 ?_;refine zT 2 ?_;refine zT 3 ?_;refine zT 4 ?_;refine zOn 5 ?_
 iterate 2 refine zW ?_
 refine zT 6 ?_;refine zOn 7 ?_
 iterate 3 refine zW ?_
 all_goals (
 refine xP ?_
 rw [juD hp1 hp2];rfl)))
theorem jbd (b:Bal):C0 258 [bv b] (bv (finB1 b)):=by
 refine xI Tryz.func258 Tryz.call258 fun hcap=>?_
 refine xX fun b1=>?_
 refine zAl fun b2=>?_
 refine xC ?_ ?_<;>intro hc
 ·(
 have h1:=qc hc
 refine xP ?_
 unfold finB1 bv
 rw [qf (by omega)];rfl)
 ·(
 have h1:=qd hc
 refine xP ?_
 unfold finB1 bv
 rw [qe (by omega)];rfl)
theorem jaw (a b:Mach):C0 244 [mcv a,mcv b] (.b (sameV a b)):=by
 refine xI Tryz.func244 Tryz.call244 fun hcap=>?_
 refine xX fun b2=>?_
 refine zBx fun b3=>?_
 iterate 11 refine zW ?_
 iterate 4 all_goals first | refine zW ?_ | refine xG ?_ ?_<;>intro hg
 all_goals first | (refine zY ?_;refine zP (jd7 rfl zRc rfl zRc (jsz _ _ _ _)) ?_) | refine zSk ?_
 iterate 6 all_goals first | refine zW ?_ | refine xG ?_ ?_<;>intro hg
 all_goals first | (refine zY ?_;refine zP (jd7 rfl zRc rfl zRc (jsz _ _ _ _)) ?_) | refine zSk ?_
 iterate 6 all_goals first | refine zW ?_ | refine xG ?_ ?_<;>intro hg
 all_goals first | (refine zY ?_;refine zP (jd7 rfl zRc rfl zRc (jsz _ _ _ _)) ?_) | refine zSk ?_
 iterate 6 all_goals first | refine zW ?_ | refine xG ?_ ?_<;>intro hg
 all_goals first | (refine zY ?_;refine zP (jd7 rfl zRc rfl zRc (jsz _ _ _ _)) ?_) | refine zSk ?_
 iterate 16 all_goals first | refine zW ?_ | refine xG ?_ ?_<;>intro hg
 all_goals (
 refine xP ?_;refine (bcl ?_)
 first | rfl | (simp only [sameV];simp [*];done))
theorem jeI (m:Mach) (hlen:m.heard.length≤100):C0 184 [mcv m] (.v (.string (valM m))):=by
 refine xI Tryz.func184 Tryz.call184 fun hcap=>?_
 have hmlen:(m.heard.map ev).length=m.heard.length:=by simp
 refine xX fun b1=>?_
 refine xA (jaJ m.conf) ?_
 refine xC ?_ ?_<;>intro hc
 ·(
 have h1:(!zB m.conf)=true:=hc
 refine xP ?_
 unfold valM;rw [qf h1];rfl)
 ·(
 have h1:(!zB m.conf)=false:=hc
 refine xC ?_ ?_<;>intro hc
 ·(
 have h2:(!decide (m.phase=1))=true:=hc
 refine xP ?_
 unfold valM;rw [qe (by rw [h1];decide),qf h2];rfl)
 ·(
 have h2:(!decide (m.phase=1))=false:=hc
 refine xC ?_ ?_<;>intro hc
 ·(
 have h3:(!decide (m.prop=noS))=true:=hc
 refine xP ?_
 unfold valM;rw [qe (by rw [h1];decide),qe (by rw [h2];decide),qf h3];rfl)
 ·(
 have h3:(!decide (m.prop=noS))=false:=hc
 refine xN fun _=>?_
 iterate 4 refine zW ?_
 refine jaP [25,26] [] (fun (k:Nat) (v:Value) (q:List Bal) r=>(3,.v v)::(27,.i (k:Int))::r) (fun k v q r=>.arr v 53 2 (q.map bv)::r) (fun k v q=>k≤m.heard.length∧q.length=k∧q=(m.heard.take k).map Evp.bal) (fun k v q=>m.heard.length - k) (0) (.slice none 0 0) ([]) zRc ⟨by omega,rfl,by simp⟩ ((jaO 53 2 rfl).trans (zWk)) ?_
 intro k v q ⟨hk,hql,hI⟩
 have hqm:(q.map bv).length=q.length:=by simp
 refine xC ?_ ?_<;>intro hc
 ·(
 have hlt:=qc hc
 obtain ⟨x,hx,hd⟩:=jab (l:=m.heard) (k:=k) (by omega)
 have hx':=jad ev hx
 refine xL fun b5=>?_
 iterate 7 refine zW ?_
 refine xLt 53 2 24 ?_
 refine xEa 53 2 24 fun v35 hv35=>?_
 iterate 9 refine zW ?_
 rw [show List.map bv q++[D.agg [.i x.bal.n,.v (.string x.bal.v)]]=(q++[x.bal]).map bv from by rw [List.map_append];rfl]
 refine ⟨k+1,_,q++[x.bal],⟨by omega,by simp;omega,by rw [List.take_add_one,hx,hI];simp⟩,by omega,zWk⟩)
 ·(
 have hge:=qd hc
 refine zFz v [3] ?_
 have hF:q=m.heard.map Evp.bal:=by rw [hI,qA (by omega)]
 refine xA (juf q (by omega)) ?_
 refine xP ?_
 unfold valM;rw [qe (by rw [h1];decide),qe (by rw [h2];decide),qe (by rw [h3];decide),← hF];rfl))))
theorem jmj (e:Evp):∀ l:List Evp,(insE e l).length=l.length+1
 | []=>rfl
 | x::r=>by
  simp only [insE]
  split
  ·simp
  ·simp [jmj e r]
theorem jet {p:Evp→Prop} {e:Evp}:∀ {l:List Evp},(∀ x∈l,p x)→p e→∀ x∈insE e l,p x
 | [],h,he,x,hx=>by simp only [insE,List.mem_cons,qp,or_false] at hx;rw [hx];exact he
 | y::r,h,he,x,hx=>by
  simp only [insE] at hx
  split at hx
  ·rcases List.mem_cons.1 hx with rfl | hx
   ·exact he
   ·exact h x hx
  ·rcases List.mem_cons.1 hx with rfl | hx
   ·exact h _ (List.mem_cons_self ..)
   ·exact jet (fun z hz=>h z (qi _ hz)) he x hx
theorem jgF (m:Mach):(allM m).length≤m.heard.length+1:=by
 unfold allM
 split
 ·omega
 ·rw [jmj];omega
theorem jdj (hs:sizeT m.t≤k) (hh:∀ e∈m.heard,sizeT e.t≤k):∀ e∈allM m,sizeT e.t≤k:=by
 unfold allM
 split
 ·exact hh
 ·exact jet hh hs
def allQ (p:Bool) (q:List Evp) (z:Evp) (r:List Evp):List Evp:=if p=true then q++r else q++insE z r
theorem juh (h:x.node>z.node):allQ false q z (x::r)=allQ true ((q++[z])++[x]) z r:=by
 simp only [allQ,insE]
 rw [qf h];simp
theorem jwV (h:¬ x.node>z.node):allQ false q z (x::r)=allQ false (q++[x]) z r:=by
 simp only [allQ,insE]
 rw [qe h];simp
theorem jxS:allQ true q z (x::r)=allQ true (q++[x]) z r:=by
 simp [allQ]
theorem ja7 (m:Mach) (hlen:m.heard.length≤40):C0 260 [mcv m] (.sl 15 ((allM m).map ev)):=by
 refine xI Tryz.func260 Tryz.call260 fun hcap=>?_
 have hmlen:(m.heard.map ev).length=m.heard.length:=by simp
 refine xX fun b1=>?_
 refine xA (jaJ m.bal) ?_
 refine xC ?_ ?_<;>intro hc
 ·(
 have hbz:zB m.bal=true:=hc
 refine xP ?_
 unfold allM;rw [qf hbz];rfl)
 ·(
 have hbz:zB m.bal=false:=hc
 refine xA (jaM m) ?_
 refine zAl fun b3=>?_
 iterate 10 refine zW ?_
 obtain ⟨z,hz⟩:∃ z:Evp,z=sayR m:=⟨_,rfl⟩
 rw [show [D.i (envR m).node,.i (envR m).slot,.i (max (envR m).seq 1),.i (envR m).t.th,.sl 1 ((envR m).t.nodes.map .i),.sl 3 (avs (envR m).t.inner),.i (envR m).kind,.i (envR m).bal.n,.v (.string (envR m).bal.v),.i (envR m).prep.n,.v (.string (envR m).prep.v),.i (envR m).prime.n,.v (.string (envR m).prime.v),.i (envR m).low,.i (envR m).high]=[D.i z.node,.i z.slot,.i z.seq,.i z.t.th,.sl 1 (z.t.nodes.map .i),.sl 3 (avs z.t.inner),.i z.kind,.i z.bal.n,.v (.string z.bal.v),.i z.prep.n,.v (.string z.prep.v),.i z.prime.n,.v (.string z.prime.v),.i z.low,.i z.high] from by rw [hz];rfl]
 refine xN fun _=>?_
 iterate 4 refine zW ?_
 refine jbt [3,20,21] [.box b3 _ _] (fun (k:Nat) (v:Value) (q:List Evp) (p:Bool) r=>(4,.v v)::(5,.b p)::(22,.i (k:Int))::r) (fun k v q p r=>.arr v 55 15 (q.map ev)::r) (fun k v q p=>k≤m.heard.length∧q.length≤2 * k∧allQ p q z (m.heard.drop k)=allM m) (fun k v q p=>m.heard.length - k) (0) (.slice none 0 0) ([]) (false) zRc ⟨by omega,by simp,by unfold allM;rw [qe (by rw [hbz];decide),← hz];simp [allQ]⟩ ((jaO 55 15 rfl).trans (zWk)) ?_
 intro k v q p ⟨hk,hql,hI⟩
 have hqm:(q.map ev).length=q.length:=by simp
 refine xC ?_ ?_<;>intro hc
 ·(
 have hlt:=qc hc
 obtain ⟨x,hx,hd⟩:=jab (l:=m.heard) (k:=k) (by omega)
 have hx':=jad ev hx
 refine xL fun b7=>?_
 iterate 9 refine zW ?_
 iterate 6 all_goals first | refine zW ?_ | refine xG ?_ ?_<;>intro hg
 all_goals (
 refine xC ?_ ?_<;>intro hc
 ·(
 first
 | (exact xQ hc)
 |(
 have hgt:x.node>z.node:=qc hc
 have hpf:p=false:=by first | with_reducible assumption | exact jau hg
 iterate 3 refine zW ?_
 refine xLt 55 15 176 ?_
 refine xEa 55 15 176 (hb:=xLb) fun v38 hv38=>?_
 iterate 7 refine zW ?_
 refine xLt 55 15 176 ?_
 refine xEa 55 15 176 (hb:=xLb) fun v42 hv42=>?_
 iterate 9 refine zW ?_
 rw [hd] at hI
 have h38:Value:=v38;have hp:p=false:=hpf;subst hp;rw [juh hgt] at hI;rw [show D.agg [.i z.node,.i z.slot,.i z.seq,.i z.t.th,.sl 1 (z.t.nodes.map .i),.sl 3 (avs z.t.inner),.i z.kind,.i z.bal.n,.v (.string z.bal.v),.i z.prep.n,.v (.string z.prep.v),.i z.prime.n,.v (.string z.prime.v),.i z.low,.i z.high]=ev z from rfl,show D.agg [.i x.node,.i x.slot,.i x.seq,.i x.t.th,.sl 1 (x.t.nodes.map .i),.sl 3 (avs x.t.inner),.i x.kind,.i x.bal.n,.v (.string x.bal.v),.i x.prep.n,.v (.string x.prep.v),.i x.prime.n,.v (.string x.prime.v),.i x.low,.i x.high]=ev x from rfl,jdM,jdM];refine ⟨k+1,_,(q++[z])++[x],true,⟨by omega,by simp;omega,hI⟩,by omega,zWk⟩))
 ·(
 first
 | (exact xQ hc)
 |(
 first | (have hp9:p=false:=jau hg) | (have hp9:p=true:=jat hg) | skip
 iterate 5 refine zW ?_
 refine xLt 55 15 176 ?_
 refine xEa 55 15 176 (hb:=xLb) fun v42 hv42=>?_
 iterate 9 refine zW ?_
 rw [hd] at hI
 first
 | (have h38:Value:=v38;have hp:p=false:=hpf;subst hp;rw [juh hgt] at hI;rw [show D.agg [.i z.node,.i z.slot,.i z.seq,.i z.t.th,.sl 1 (z.t.nodes.map .i),.sl 3 (avs z.t.inner),.i z.kind,.i z.bal.n,.v (.string z.bal.v),.i z.prep.n,.v (.string z.prep.v),.i z.prime.n,.v (.string z.prime.v),.i z.low,.i z.high]=ev z from rfl,show D.agg [.i x.node,.i x.slot,.i x.seq,.i x.t.th,.sl 1 (x.t.nodes.map .i),.sl 3 (avs x.t.inner),.i x.kind,.i x.bal.n,.v (.string x.bal.v),.i x.prep.n,.v (.string x.prep.v),.i x.prime.n,.v (.string x.prime.v),.i x.low,.i x.high]=ev x from rfl,jdM,jdM];refine ⟨k+1,_,(q++[z])++[x],true,⟨by omega,by simp;omega,hI⟩,by omega,zWk⟩)
 | (have hp:p=true:=(by with_reducible assumption);subst hp;rw [jxS] at hI;rw [show D.agg [.i x.node,.i x.slot,.i x.seq,.i x.t.th,.sl 1 (x.t.nodes.map .i),.sl 3 (avs x.t.inner),.i x.kind,.i x.bal.n,.v (.string x.bal.v),.i x.prep.n,.v (.string x.prep.v),.i x.prime.n,.v (.string x.prime.v),.i x.low,.i x.high]=ev x from rfl,jdM];refine ⟨k+1,_,q++[x],true,⟨by omega,by simp;omega,hI⟩,by omega,zWk⟩)
 | (have hp:p=false:=(by with_reducible assumption);subst hp;rw [jwV (qd hc)] at hI;rw [show D.agg [.i x.node,.i x.slot,.i x.seq,.i x.t.th,.sl 1 (x.t.nodes.map .i),.sl 3 (avs x.t.inner),.i x.kind,.i x.bal.n,.v (.string x.bal.v),.i x.prep.n,.v (.string x.prep.v),.i x.prime.n,.v (.string x.prime.v),.i x.low,.i x.high]=ev x from rfl,jdM];refine ⟨k+1,_,q++[x],false,⟨by omega,by simp;omega,hI⟩,by omega,zWk⟩)))))
 ·(
 have hge:=qd hc
 rw [jac (by omega)] at hI
 refine xC ?_ ?_<;>intro hc
 ·(
 have hpf:p=false:=jau hc
 iterate 3 refine zW ?_
 refine xLt 55 15 176 ?_
 refine xEa 55 15 176 (hb:=xLb) fun v49 hv49=>?_
 iterate 9 refine zW ?_
 rw [show D.agg [.i z.node,.i z.slot,.i z.seq,.i z.t.th,.sl 1 (z.t.nodes.map .i),.sl 3 (avs z.t.inner),.i z.kind,.i z.bal.n,.v (.string z.bal.v),.i z.prep.n,.v (.string z.prep.v),.i z.prime.n,.v (.string z.prime.v),.i z.low,.i z.high]=ev z from rfl,jdM];refine zFz v49 [2] ?_
 refine xP ?_
 rw [← hI,hpf];first | rfl | (simp [allQ,resD];done))
 ·(
 have hpf:p=true:=jat hc
 iterate 8 refine zW ?_
 refine zFz v [2] ?_
 refine xP ?_
 rw [← hI,hpf];first | rfl | (simp [allQ,resD];done))))
theorem jic (m:Mach) (hlen:m.heard.length≤40) (hs:sizeT m.t≤200000) (hh:∀ e∈m.heard,sizeT e.t≤200000) (n:Int):C0 267 [mcv m,.i n] (.b (aheadV m n)):=by
 refine xI Tryz.func267 Tryz.call267 fun hcap=>?_
 have hmlen:(m.heard.map ev).length=m.heard.length:=by simp
 refine xX fun b2=>?_
 refine xN fun _=>?_
 iterate 4 refine zW ?_
 refine jag [1,2,9,10] [.box b2 _ _] (fun (k:Nat) (v:Value) r=>(5,.v v)::(11,.i (k:Int))::r) (fun k v r=>.arr v 4 1 (((m.heard.take k).map (fun e=>decide (cntR e>n))).map bV)::r) (fun k v=>k≤m.heard.length) (fun k v=>m.heard.length - k) (0) (.slice none 0 0) zRc (by omega) ((jaO 4 1 rfl).trans (zWk)) ?_
 intro k v hk
 have hqm:(((m.heard.take k).map (fun e=>decide (cntR e>n))).map bV).length=k:=by simp;omega
 refine xC ?_ ?_<;>intro hc
 ·(
 have hlt:=qc hc
 obtain ⟨x,hx,hd⟩:=jab (l:=m.heard) (k:=k) (by omega)
 have hx':=jad ev hx
 have hxs:=hh x (qj hx)
 refine xL fun b7=>?_
 refine xA (jdn x (by omega)) ?_
 iterate 2 refine zW ?_
 refine xLt 4 1 1 ?_
 refine xEa 4 1 1 (hb:=xLb) fun v21 hv21=>?_
 iterate 9 refine zW ?_
 rw [bsn,← jbL (fun e=>decide (cntR e>n)) hx]
 refine ⟨k+1,_,by omega,by omega,zWk⟩)
 ·(
 have hge:=qd hc
 rw [qA (show m.heard.length≤k by omega)]
 refine zFz v [2,5] ?_
 iterate 6 refine zW ?_
 refine zDr [] ?_
 refine zT 0 ?_;refine zT 1 ?_;refine zT 2 ?_;refine zT 3 ?_;refine zT 4 ?_;refine zT 7 ?_;refine zT 8 ?_;refine zT 9 ?_;refine zT 10 ?_;refine zT 11 ?_;refine zOn 5 ?_
 refine xA (ja7 m hlen) ?_
 refine zW ?_
 refine zOn 6 ?_
 refine xA (jco m.node m.t (allM m) (fun e he=>by have:=jdj hs hh e he;omega)) ?_
 refine zW ?_
 refine zOn 12 ?_
 refine xB (jdv m.heard (m.heard.map (fun e=>decide (cntR e>n))) (by simp)) ?_;rintro _ _ ⟨rfl,rfl⟩;rw [jgn]
 refine zW ?_
 refine zOn 13 ?_
 refine xA (jek _ _ _) ?_
 refine zW ?_
 refine zT 14 ?_
 refine zW ?_
 all_goals (
 refine xP ?_;exact rfl))
def okP (p:Option Int) (e:Evp):Bool:=match p with | none=>true | some q=>decide (q<e.node)
def prevE (l:List Evp) (k:Nat):Option Int:=if k=0 then none else (l[k - 1]?).map Evp.node
theorem jcP (m:Mach) (p:Option Int) (e:Evp) (r:List Evp):heardGo m p (e::r)=((vE e&&(decide (e.slot=m.slot)&&(!decide (e.node=m.node)&&okP p e)))&&heardGo m (some e.node) r):=by cases p<;>rfl
theorem jn6 (h:l[k]?=some x):prevE l (k+1)=some x.node:=by
 unfold prevE
 rw [qe (by omega),Nat.add_sub_cancel,h]
 rfl
theorem jxF {y:Evp} (hy:0<k→l[k - 1]?=some y):okP (prevE l k) x=if (0:Int)<(k:Int) then decide (y.node<x.node) else true:=by
 unfold prevE
 by_cases h:k=0
 ·rw [qf h,qe (by omega)];rfl
 ·rw [qe h,qf (by omega),hy (by omega)];rfl
theorem jwJ (x:Evp) (h:k≤l.length):∃ y,0<k→l[k - 1]?=some y:=by
 rcases Nat.eq_zero_or_pos k with h0 | h0
 ·exact ⟨x,fun h1=>by omega⟩
 ·exact ⟨l[k - 1]'(by omega),fun _=>List.getElem?_eq_getElem _⟩
def headN (m:Mach):Bool:=decide (0≤m.node)&&(decide (m.node<10)&&(decide (1≤m.slot)&&(decide (m.slot≤1000000)&&(decide (0≤m.seq)&&(decide (m.seq≤1000000)&&(decide (validT m.t=0)&&decide (m.prop.size≤200)))))))
def headRb (m:Mach):Bool:=decide (m.node<0)||(decide (m.node>9)||(decide (m.slot<1)||(decide (m.slot>1000000)||(decide (m.seq<0)||(decide (m.seq>1000000)||(!decide (validT m.t=0)||decide ((m.prop.size:Int)>200)))))))
theorem jmg (m:Mach):headN m=!headRb m:=by
 rw [Bool.eq_iff_iff]
 simp only [headN,headRb,qh,qm,Bool.not_eq_true',Bool.or_eq_false_iff,decide_eq_false_iff_not,Bool.not_eq_false',gt_iff_lt]
 omega
theorem jfu (m:Mach):headM m=(headN m&&heardM m):=by
 simp only [headM,headN,Bool.and_assoc]
def bad2 (m:Mach):Bool:=(!decide (m.phase=2)&&!decide (m.phase=3))&&!decide (m.high=0)
def bad3 (m:Mach):Bool:=(decide (m.phase=3)&&(!zB m.prep||!zB m.prime))||(decide (m.phase=2)&&!zB m.prime)
def bad4 (m:Mach):Bool:=!vB m.conf||decide (m.conf.n>1000)
theorem jvj (h:headRb m=true):checkM m=false:=by
 unfold checkM;rw [jfu,jmg,h];rfl
theorem jvq (h:heardM m=false):checkM m=false:=by
 unfold checkM;rw [jfu,h,qw];rfl
theorem jvW (h:headRb m=false) (h2:heardM m=true):headM m=true:=by
 rw [jfu,jmg,h,h2];rfl
theorem jv4 (h:headM m=true) (hz:zB m.bal=true):checkM m=freshM m:=by
 unfold checkM;rw [h,qf hz,qs]
theorem jeM (h:headM m=true) (hz:zB m.bal=false):checkM m=(vE (msgM m)&&(confM m&&((!decide (m.phase=1)||decide (m.high=0))&&((decide (m.phase=1)||zB m.prime)&&(!decide (m.phase=3)||zB m.prep))))):=by
 unfold checkM;rw [h,hz];rfl
theorem jeD (h:vE e=true):kindE e=true:=by
 unfold vE at h;exact (qh _ _ ▸ h).2
theorem jnN (h:kindE e=true):e.kind=1∨e.kind=2∨e.kind=3:=by
 unfold kindE at h
 by_cases h1:e.kind=1
 ·exact .inl h1
 ·(
 rw [qe h1] at h
 by_cases h2:e.kind=2
 ·exact .inr (.inl h2)
 ·(
 rw [qe h2] at h
 by_cases h3:e.kind=3
 ·exact .inr (.inr h3)
 ·rw [qe h3] at h;cases h))
theorem jax (h:zB b=true):b=Bal.none:=by
 cases b;simp only [zB,qh,qm] at h
 rw [h.1,h.2];rfl
theorem ji5 (h1:(decide (m.phase=1)||zB m.prime)=true) (h2:(!decide (m.phase=3)||zB m.prep)=true) (h3:m.phase=1∨m.phase=2∨m.phase=3):envR m=msgM m:=by
 rcases h3 with h | h | h
 ·simp [envR,msgM,h]
 ·(
 have:m.prime=Bal.none:=jax (by simpa [h] using h1)
 simp [envR,msgM,h,this])
 ·(
 have e1:m.prime=Bal.none:=jax (by simpa [h] using h1)
 have e2:m.prep=Bal.none:=jax (by simpa [h] using h2)
 simp [envR,msgM,h,e1,e2])
theorem jvJ (h:headM m=true) (hz:zB m.bal=false) (hv:vE (envR m)=false):checkM m=false:=by
 rw [jeM h hz]
 apply Bool.eq_false_iff.2
 intro hx
 simp only [qh] at hx
 obtain ⟨q1,_,_,q4,q5⟩:=hx
 rw [ji5 q4 q5 (jnN (jeD q1)),q1] at hv
 cases hv
theorem jvn (h:headM m=true) (hz:zB m.bal=false) (hb:bad2 m=true):checkM m=false:=by
 rw [jeM h hz]
 apply Bool.eq_false_iff.2
 intro hx
 simp only [qh] at hx
 obtain ⟨q1,_,q3,_,_⟩:=hx
 have hk:m.phase=1∨m.phase=2∨m.phase=3:=jnN (e:=msgM m) (jeD q1)
 simp only [bad2,qh,Bool.not_eq_true',decide_eq_false_iff_not] at hb
 have h1:m.phase=1:=by omega
 simp [h1] at q3
 exact hb.2 q3
theorem jvs (h:headM m=true) (hz:zB m.bal=false) (hb:bad3 m=true):checkM m=false:=by
 rw [jeM h hz]
 apply Bool.eq_false_iff.2
 intro hx
 simp only [qh] at hx
 obtain ⟨_,_,_,q4,q5⟩:=hx
 unfold bad3 at hb
 by_cases h3:m.phase=3
 ·(
 simp [h3] at hb q4 q5
 rcases hb with hb | hb
 ·rw [hb] at q5;cases q5
 ·rw [hb] at q4;cases q4)
 ·(
 by_cases h2:m.phase=2
 ·(
 simp [h2] at hb q4
 rw [hb] at q4;cases q4)
 ·simp [h3,h2] at hb)
theorem jx3 (hv:vE (envR m)=true) (hb:bad3 m=false):(m.phase=1∨m.phase=2∨m.phase=3)∧(decide (m.phase=1)||zB m.prime)=true∧(!decide (m.phase=3)||zB m.prep)=true:=by
 have hk:m.phase=1∨m.phase=2∨m.phase=3:=jnN (e:=envR m) (jeD hv)
 refine ⟨hk,?_⟩
 unfold bad3 at hb
 rcases hk with h | h | h<;>simp [h] at hb ⊢
 ·exact hb
 ·exact ⟨hb.2,hb.1⟩
theorem ji0 (h:headM m=true) (hz:zB m.bal=false) (hv:vE (envR m)=true) (h2:bad2 m=false) (h3:bad3 m=false):checkM m=confM m:=by
 obtain ⟨hk,q4,q5⟩:=jx3 hv h3
 rw [jeM h hz,← ji5 q4 q5 hk,hv,q4,q5,qs]
 have q3:(!decide (m.phase=1)||decide (m.high=0))=true:=by
  unfold bad2 at h2
  rcases hk with h | h | h<;>simp [h] at h2 ⊢
  exact h2
 rw [q3]
 simp
theorem jnQ (h:zB m.conf=true):confM m=true:=by unfold confM;rw [qf h]
theorem jrq (m:Mach):(!vB m.conf||decide (1000<m.conf.n))=bad4 m:=rfl
theorem jro (h:zB m.conf=false) (hb:bad4 m=true):confM m=false:=by unfold confM;rw [qe (by rw [h];decide),qf (by rw [jrq];exact hb)]
theorem juA (h:zB m.conf=false) (hb:bad4 m=false):confM m=(prB m.prep m.prime m.conf||(!decide (m.phase=1)&&cB m.conf m.bal)):=by unfold confM;rw [qe (by rw [h];decide),qe (by rw [jrq,hb];decide)]
theorem juE (h:zB m.conf=false) (hb:bad4 m=false) (h1:m.phase=1):confM m=prB m.prep m.prime m.conf:=by
 rw [juA h hb];simp [h1]
theorem pr_z {p q:Bal} (hq:zB q=true):prB p q b=covB p b:=by simp [prB,covB,hq]
theorem jxj (h:zB m.conf=false) (hb:bad4 m=false) (h1:¬ m.phase=1) (hv:vE (envR m)=true) (h3:bad3 m=false):confM m=cB m.conf m.bal:=by
 obtain ⟨hk,q4,q5⟩:=jx3 hv h3
 rw [juA h hb]
 have hp:zB m.prime=true:=by simpa [h1] using q4
 rw [pr_z hp]
 have hx:covB m.prep m.conf=true→cB m.conf m.bal=true:=by
  intro hc
  simp only [covB,qh,Bool.not_eq_true',cB,qm] at hc
  by_cases h2:m.phase=2
  ·have hk2:=jeD hv
   rw [ji5 q4 q5 hk] at hk2
   unfold kindE at hk2
   rw [qe (show ¬ (msgM m).kind=1 from h1),qf (show (msgM m).kind=2 from h2)] at hk2
   simp only [msgM,qh,cB,qm] at hk2
   simp only [cB,qm]
   rw [← hc.2.1,hk2.2.2.1]
  ·have h4:m.phase=3:=by omega
   have:zB m.prep=true:=by simpa [h4] using q5
   rw [this] at hc;cases hc.1
 cases hcb:cB m.conf m.bal with
 | true=>simp [h1]
 | false =>
  have:covB m.prep m.conf=false:=by
   apply Bool.eq_false_iff.2;intro hc;rw [hx hc] at hcb;cases hcb
  rw [this];simp
theorem jcs (m:Mach) (hs:sizeT m.t≤1000000000) (hh:∀ e∈m.heard,sizeT e.t≤1000000000):C0 167 [mcv m] (.b (checkM m)):=by
 refine xI Tryz.func167 Tryz.call167 fun hcap=>?_
 have hmlen:(m.heard.map ev).length=m.heard.length:=by simp
 refine xX fun b1=>?_
 iterate 10 refine zW ?_
 iterate 27 all_goals first | refine zW ?_ | refine xG ?_ ?_<;>intro hg
 all_goals first | (refine zY ?_;refine jaa zRc (jaN m.t hs) rfl rfl ?_) | refine zSk ?_
 iterate 8 all_goals first | refine zW ?_ | refine xG ?_ ?_<;>intro hg
 all_goals (
 refine xC ?_ ?_<;>intro hc
 ·(
 first
 | (exact xQ hc)
 |(
 have hd1:headRb m=true:=by first | (simp only [headRb, *,Bool.or_true,Bool.true_or,Bool.or_false,Bool.false_or,Bool.and_true,qs,qw,qv,Bool.not_true,Bool.not_false];done) | (simp only [headRb];simp [*];done) | grind [headRb]
 refine xP ?_;refine (bcl ?_)
 rw [jvj hd1]))
 ·(
 first
 | (exact xQ hc)
 |(
 have hd1:headRb m=false:=by first | (simp only [headRb, *,Bool.or_true,Bool.true_or,Bool.or_false,Bool.false_or,Bool.and_true,qs,qw,qv,Bool.not_true,Bool.not_false];done) | (simp only [headRb];simp [*];done) | grind [headRb]
 refine xN fun _=>?_
 iterate 4 refine zW ?_
 refine jaj [1,46,47] [.box b1 _ _] (fun (k:Nat) r=>(48,.i (k:Int))::r) (fun k r=>r) (fun k=>k≤m.heard.length∧heardGo m (prevE m.heard k) (m.heard.drop k)=heardM m) (fun k=>m.heard.length - k) (0) zRc ⟨by omega,rfl⟩ (zWk) ?_
 intro k ⟨hk,hI⟩
 refine xC ?_ ?_<;>intro hc
 ·(
 have hlt:=qc hc
 obtain ⟨x,hx,hd⟩:=jab (l:=m.heard) (k:=k) (by omega)
 have hx':=jad ev hx
 obtain ⟨y,hy⟩:=jwJ x hk
 have hq:=jxF (x:=x) hy
 have hxs:=hh x (qj hx)
 refine xL fun b4=>?_
 iterate 5 refine zW ?_
 refine zDr [] ?_
 refine zT 0 ?_;refine zOn 1 ?_
 refine xA (jay x hxs) ?_
 refine zW ?_
 refine zT 2 ?_;refine zT 3 ?_
 refine jai 3 rfl (fun hg=>?_) fun hg=>?_
 rotate_left
 case' _ =>(
 refine zT 4 ?_;refine zT 5 ?_;refine zT 6 ?_;refine zT 7 ?_;refine zT 8 ?_;refine zT 9 ?_;refine zT 10 ?_
 refine jai 10 rfl (fun hg=>?_) fun hg=>?_
 rotate_left
 case' _ =>(
 refine zT 11 ?_;refine zT 12 ?_;refine zT 13 ?_;refine zT 14 ?_;refine zT 15 ?_;refine zT 16 ?_;refine zT 17 ?_
 refine jai 17 rfl (fun hg=>?_) fun hg=>?_
 rotate_left
 case' _ =>(
 refine zT 18 ?_;refine zT 19 ?_;refine zT 20 ?_
 refine jai 20 rfl (fun hg=>?_) fun hg=>?_
 rotate_left
 case' _ =>(
 refine zK 21 ?_;refine zK 22 ?_;refine zK 23 ?_;refine zK 24 ?_;refine zK 25 ?_;refine zK 26 ?_;refine zK 27 ?_;refine zK 28 ?_;refine zK 29 ?_;refine zK 30 ?_;refine zT 31 ?_;refine zT 32 ?_
 refine zW ?_)
 rotate_right
 case' _ =>(
 refine zT 21 ?_;refine zT 22 ?_;refine zT 23 ?_;refine zT 24 ?_
 refine jan 25 rfl zGd zKr zKr zKr (AP.ar (jam (k:=k - 1) rfl rfl rfl rfl (by decide) (by have h9:decide ((k:Int)>0)=true:=(by first | with_reducible assumption | exact hg);have:=qc h9;omega) (jad ev (hy (by have h9:decide ((k:Int)>0)=true:=(by first | with_reducible assumption | exact hg);have:=qc h9;omega))))) rfl rfl ?_
 refine zT 26 ?_;refine zT 27 ?_;refine zT 28 ?_;refine zT 29 ?_;refine zT 30 ?_;refine zT 31 ?_;refine zT 32 ?_
 refine zW ?_))
 rotate_right
 case' _ =>(
 refine zK 18 ?_;refine zK 19 ?_;refine zKu 20 ?_;refine zK 21 ?_;refine zK 22 ?_;refine zK 23 ?_;refine zK 24 ?_;refine zK 25 ?_;refine zK 26 ?_;refine zK 27 ?_;refine zK 28 ?_;refine zK 29 ?_;refine zK 30 ?_;refine zK 31 ?_;refine zT 32 ?_
 refine zW ?_))
 rotate_right
 case' _ =>(
 refine zK 11 ?_;refine zK 12 ?_;refine zK 13 ?_;refine zK 14 ?_;refine zK 15 ?_;refine zT 16 ?_;refine zT 17 ?_;refine zK 18 ?_;refine zK 19 ?_;refine zKu 20 ?_;refine zK 21 ?_;refine zK 22 ?_;refine zK 23 ?_;refine zK 24 ?_;refine zK 25 ?_;refine zK 26 ?_;refine zK 27 ?_;refine zK 28 ?_;refine zK 29 ?_;refine zK 30 ?_;refine zK 31 ?_;refine zT 32 ?_
 refine zW ?_))
 rotate_right
 case' _ =>(
 refine zK 4 ?_;refine zK 5 ?_;refine zK 6 ?_;refine zK 7 ?_;refine zK 8 ?_;refine zT 9 ?_;refine zT 10 ?_;refine zK 11 ?_;refine zK 12 ?_;refine zK 13 ?_;refine zK 14 ?_;refine zK 15 ?_;refine zT 16 ?_;refine zT 17 ?_;refine zK 18 ?_;refine zK 19 ?_;refine zKu 20 ?_;refine zK 21 ?_;refine zK 22 ?_;refine zK 23 ?_;refine zK 24 ?_;refine zK 25 ?_;refine zK 26 ?_;refine zK 27 ?_;refine zK 28 ?_;refine zK 29 ?_;refine zK 30 ?_;refine zK 31 ?_;refine zT 32 ?_
 refine zW ?_)
 all_goals (
 refine xC ?_ ?_<;>intro hc
 ·(
 first
 | (exact xQ hc)
 |(
 have hq0:(vE x&&(decide (x.slot=m.slot)&&(!decide (x.node=m.node)&&okP (prevE m.heard k) x)))=false:=by rw [hq];first | (simp [*];done) | grind
 refine xP ?_;refine (bcl ?_)
 rw [hd,jcP,hq0,qv] at hI
 rw [jvq hI.symm]))
 ·(
 first
 | (exact xQ hc)
 |(
 have hq0:(vE x&&(decide (x.slot=m.slot)&&(!decide (x.node=m.node)&&okP (prevE m.heard k) x)))=true:=by rw [hq];first | (simp [*];done) | grind
 iterate 8 refine zW ?_
 rw [hd,jcP,hq0,qs,← jn6 hx] at hI
 refine ⟨k+1,⟨by omega,hI⟩,by omega,zWk⟩))))
 ·(
 have hge:=qd hc
 rw [jac (by omega)] at hI
 have hhd:headM m=true:=jvW hd1 hI.symm
 refine xA (jaJ m.bal) ?_
 refine xC ?_ ?_<;>intro hc
 ·(
 have hz:zB m.bal=true:=hc
 iterate 6 refine zW ?_
 iterate 7 all_goals first | refine zW ?_ | refine xG ?_ ?_<;>intro hg
 all_goals first | (refine zY ?_;refine jaa zRc (jaJ m.prep) rfl rfl ?_) | refine zSk ?_
 iterate 4 all_goals first | refine zW ?_ | refine xG ?_ ?_<;>intro hg
 all_goals first | (refine zY ?_;refine jaa zRc (jaJ m.prime) rfl rfl ?_) | refine zSk ?_
 iterate 4 all_goals first | refine zW ?_ | refine xG ?_ ?_<;>intro hg
 all_goals first | (refine zY ?_;refine jaa zRc (jaJ m.conf) rfl rfl ?_) | refine zSk ?_
 iterate 12 all_goals first | refine zW ?_ | refine xG ?_ ?_<;>intro hg
 all_goals (
 refine xP ?_;refine (bcl ?_)
 rw [jv4 hhd hz]
 simp only [freshM, *,Bool.and_true,qs,qw,qv];done))
 ·(
 have hz:zB m.bal=false:=hc
 refine xA (jaM m) ?_
 refine xA (jay (envR m) hs) ?_
 refine xC ?_ ?_<;>intro hc
 ·(
 have hv:vE (envR m)=false:=jau hc
 refine xP ?_;refine (bcl ?_)
 rw [jvJ hhd hz hv])
 ·(
 have hv:vE (envR m)=true:=jat hc
 iterate 9 refine zW ?_
 iterate 9 all_goals first | refine zW ?_ | refine xG ?_ ?_<;>intro hg
 all_goals (
 refine xC ?_ ?_<;>intro hc
 ·(
 first
 | (exact xQ hc)
 |(
 have hb2:bad2 m=true:=by first | (simp only [bad2, *,Bool.or_true,Bool.true_or,Bool.or_false,Bool.false_or,Bool.and_true,qs,qw,qv,Bool.not_true,Bool.not_false];done) | (simp only [bad2];simp [*];done) | grind [bad2]
 refine xP ?_;refine (bcl ?_)
 rw [jvn hhd hz hb2]))
 ·(
 first
 | (exact xQ hc)
 |(
 have hb2:bad2 m=false:=by first | (simp only [bad2, *,Bool.or_true,Bool.true_or,Bool.or_false,Bool.false_or,Bool.and_true,qs,qw,qv,Bool.not_true,Bool.not_false];done) | (simp only [bad2];simp [*];done) | grind [bad2]
 iterate 9 refine zW ?_
 iterate 2 all_goals first | refine zW ?_ | refine xG ?_ ?_<;>intro hg
 all_goals first | (refine zY ?_;refine jaa zRc (jaJ m.prep) rfl rfl ?_) | refine zSk ?_
 iterate 4 all_goals first | refine zW ?_ | refine xG ?_ ?_<;>intro hg
 all_goals first | (refine zY ?_;refine jaa zRc (jaJ m.prime) rfl rfl ?_) | refine zSk ?_
 iterate 10 all_goals first | refine zW ?_ | refine xG ?_ ?_<;>intro hg
 all_goals first | (refine zY ?_;refine jaa zRc (jaJ m.prime) rfl rfl ?_) | refine zSk ?_
 iterate 3 all_goals refine zW ?_
 all_goals (
 refine xC ?_ ?_<;>intro hc
 ·(
 first
 | (exact xQ hc)
 |(
 have hb3:bad3 m=true:=by first | (simp only [bad3, *,Bool.or_true,Bool.true_or,Bool.or_false,Bool.false_or,Bool.and_true,qs,qw,qv,Bool.not_true,Bool.not_false];done) | (simp only [bad3];simp [*];done) | grind [bad3]
 refine xP ?_;refine (bcl ?_)
 rw [jvs hhd hz hb3]))
 ·(
 first
 | (exact xQ hc)
 |(
 have hb3:bad3 m=false:=by first | (simp only [bad3, *,Bool.or_true,Bool.true_or,Bool.or_false,Bool.false_or,Bool.and_true,qs,qw,qv,Bool.not_true,Bool.not_false];done) | (simp only [bad3];simp [*];done) | grind [bad3]
 refine xA (jaJ m.conf) ?_
 refine xC ?_ ?_<;>intro hc
 ·(
 have hcz:zB m.conf=true:=hc
 refine xP ?_;refine (bcl ?_)
 rw [ji0 hhd hz hv hb2 hb3]
 rw [jnQ hcz])
 ·(
 have hcz:zB m.conf=false:=hc
 refine xA (jdh m.conf) ?_
 iterate 2 refine zW ?_
 iterate 5 all_goals first | refine zW ?_ | refine xG ?_ ?_<;>intro hg
 all_goals (
 refine xC ?_ ?_<;>intro hc
 ·(
 first
 | (exact xQ hc)
 |(
 have hb4:bad4 m=true:=by first | (simp only [bad4, *,Bool.or_true,Bool.true_or,Bool.or_false,Bool.false_or,Bool.and_true,qs,qw,qv,Bool.not_true,Bool.not_false];done) | (simp only [bad4];simp [*];done) | grind [bad4]
 refine xP ?_;refine (bcl ?_)
 rw [ji0 hhd hz hv hb2 hb3]
 first | rw [jnQ hcz] | rw [jro hcz hb4]))
 ·(
 first
 | (exact xQ hc)
 |(
 have hb4:bad4 m=false:=by first | (simp only [bad4, *,Bool.or_true,Bool.true_or,Bool.or_false,Bool.false_or,Bool.and_true,qs,qw,qv,Bool.not_true,Bool.not_false];done) | (simp only [bad4];simp [*];done) | grind [bad4]
 refine xC ?_ ?_<;>intro hc
 ·(
 have hp1:=qc hc
 refine xA (jgl m.prep m.prime m.conf) ?_
 refine xP ?_;refine (bcl ?_)
 rw [ji0 hhd hz hv hb2 hb3]
 first | rw [jnQ hcz] | rw [jro hcz hb4] | rw [juE hcz hb4 hp1])
 ·(
 have hp1:=qd hc
 refine xA (ja2 m.conf m.bal) ?_
 refine xP ?_;refine (bcl ?_)
 rw [ji0 hhd hz hv hb2 hb3]
 first | rw [jnQ hcz] | rw [jro hcz hb4] | rw [juE hcz hb4 hp1] | rw [jxj hcz hb4 hp1 hv hb3])))))))))))))))))
def noEvp:Evp:=⟨0,0,0,Trust.none,0,Bal.none,Bal.none,Bal.none,0,0⟩
def okMsg (m:Mach):Bool:=!zB m.bal&&checkM m
def mesM (m:Mach):Evp:=if okMsg m=true then msgM m else noEvp
theorem ju6 (h:okMsg m=true):mesM m=msgM m:=by unfold mesM;rw [qf h]
theorem jxD (h:okMsg m=false):togM m=false:=by unfold togM;rw [qf (by show (!okMsg m)=true;rw [h];rfl)]
theorem jxZ (h:m.phase=3):togM m=false:=by
 unfold togM
 split
 ·rfl
 ·simp [h]
theorem jyn (h:okMsg m=true) (h2:¬ m.phase=3):togM m=has (great (viewE m.node m.t (m.heard++[msgM m])) (whoE (fun e=>decide (m.bal.n≤cntE e)) (rights (m.heard++[msgM m])):Nat)) m.node:=by unfold togM;rw [qe (by show ¬ (!okMsg m)=true;rw [h];decide),qe h2]
theorem jri (h:okMsg m=true):envR m=msgM m:=by
 have hz:zB m.bal=false:=by unfold okMsg at h;simp at h;exact h.1
 have hc:checkM m=true:=by unfold okMsg at h;simp at h;exact h.2
 have hh:headM m=true:=by unfold checkM at hc;simp at hc;exact hc.1
 rw [jeM hh hz] at hc
 simp only [qh] at hc
 obtain ⟨q1,_,_,q4,q5⟩:=hc
 exact ji5 q4 q5 (jnN (e:=msgM m) (jeD q1))
theorem jiy (h:okMsg m=true):heardM m=true∧vE (msgM m)=true∧(0≤m.node∧m.node<10):=by
 have hz:zB m.bal=false:=by unfold okMsg at h;simp at h;exact h.1
 have hc:checkM m=true:=by unfold okMsg at h;simp at h;exact h.2
 have hh:headM m=true:=by unfold checkM at hc;simp at hc;exact hc.1
 rw [jeM hh hz] at hc
 simp only [qh] at hc
 refine ⟨?_,hc.1,jcC hc.1⟩
 rw [jfu] at hh
 simp at hh;exact hh.2
theorem jgi {m:Mach}:∀ (l:List Evp) (p:Option Int),heardGo m p l=true→∀ e∈l,vE e=true∧e.node≠m.node
 | [],_,_,e,he=>qo he qp
 | x::r,p,h,e,he=>by
  rw [jcP] at h
  simp only [qh,Bool.not_eq_true',decide_eq_false_iff_not] at h
  rcases List.mem_cons.1 he with rfl | he
  ·exact ⟨h.1.1,h.1.2.2.1⟩
  ·exact jgi r _ h.2 e he
theorem jmr {c:List Mem} (h:∀ x,c[e.node.toNat]?=some x→x.decl=true):putE c e=c:=by
 unfold putE
 split
 ·(
 split
 ·(
 rename_i m hm
 rw [qf (h m hm)])
 ·rfl)
 ·rfl
theorem jt7 {c:List Mem} (h:vE e=true→e.node.toNat≠k):(putE c e)[k]?=c[k]?:=by
 unfold putE
 split
 ·(
 rename_i hv
 split
 ·(
 split
 ·rfl
 ·rw [List.getElem?_set_ne (h hv)])
 ·rfl)
 ·rfl
theorem jjX {k:Nat}:∀ (l:List Evp) (c:List Mem),(∀ e∈l,vE e=true→e.node.toNat≠k)→(putsE l c)[k]?=c[k]?
 | [],_,_=>rfl
 | e::r,c,h=>by
  show (putsE r (putE c e))[k]?=_
  rw [jjX r _ (fun x hx=>h x (qi _ hx)),jt7 (h e (List.mem_cons_self ..))]
theorem jkX:∀ (a b:List Evp) (c:List Mem),putsE (a++b) c=putsE b (putsE a c)
 | [],_,_=>rfl
 | e::r,b,c=>by show putsE (r++b) (putE c e)=putsE b (putsE r (putE c e));exact jkX r b _
theorem jnE {node:Int} {t:Trust} {o:Evp} (ho:o.node=node) (hn:0≤node∧node<10) (hl:∀ e∈l,vE e=true∧e.node≠node):viewE node t (o::l)=viewE node t (l++[o]):=by
 unfold viewE
 rw [qe (by omega),qe (by omega)]
 have hi:∀ x,(nobody.set node.toNat ⟨true,t⟩)[node.toNat]?=some x→x.decl=true:=by
  intro x hx
  rw [List.getElem?_set_self (by show _<10;omega)] at hx
  cases hx;rfl
 show putsE l (putE _ o)=_
 rw [jmr (by rw [ho];exact hi),jkX]
 show _=putE (putsE l _) o
 rw [jmr]
 rw [ho,jjX l _ (fun e he hv=>by
  have h1:=jcC hv
  have h2:=(hl e he).2
  omega)]
 exact hi
theorem jiO (p:Evp→Bool):∀ (l:List Evp) (s b:Nat),whoGo p l (s|||b)=whoGo p l s|||b
 | [],_,_=>rfl
 | e::r,s,b=>by
  simp only [whoGo]
  split
  ·rw [← jiO p r,Nat.or_assoc,Nat.or_comm b,← Nat.or_assoc]
  ·exact jiO p r s b
theorem jjG (p:Evp→Bool):∀ (a b:List Evp) (s:Nat),whoGo p (a++b) s=whoGo p b (whoGo p a s)
 | [],_,_=>rfl
 | e::r,b,s=>by simp only [List.cons_append,whoGo];exact jjG p r b _
theorem jvD (p:Evp→Bool) (o:Evp) (l:List Evp):whoE p (l++[o])=whoE p (o::l):=by
 unfold whoE
 rw [jjG]
 simp only [whoGo]
 split
 ·rw [jiO]
 ·rfl
theorem jqm (p:Evp→Bool):∀ (l:List Evp) (s:Nat),(∀ e∈l,vE e=true)→setR s l (l.map p)=whoGo p l s
 | [],_,_=>rfl
 | e::r,s,h=>by
  have hn:=jcC (h e (List.mem_cons_self ..))
  have h9:(decide (0≤e.node)&&decide (e.node≤9))=true:=by simp;omega
  simp only [List.map_cons,setR,whoGo,h9,Bool.and_true]
  exact jqm p r _ (fun x hx=>h x (qi _ hx))
theorem jpj (h:∀ e∈l,vE e=true):rights l=l:=List.filter_eq_self.2 h
theorem jvB (h:okMsg m=true) (h3:¬ m.phase=3) {o:Evp} (ho:o=msgM m):togM m=has (great (viewE m.node m.t (o::m.heard)) (setR 0 (o::m.heard) ((o::m.heard).map fun e=>decide (cntR e≥cntR o)):Nat)) m.node:=by
 obtain ⟨hh,hv,hn⟩:=jiy h
 have hl:=jgi m.heard none hh
 have hal:∀ e∈o::m.heard,vE e=true:=by
  intro e he
  rcases List.mem_cons.1 he with rfl | he
  ·rw [ho];exact hv
  ·exact (hl e he).1
 have hc:∀ e∈o::m.heard,decide (cntR e≥cntR o)=decide (m.bal.n≤cntE e):=by
  intro e he
  have e1:cntR e=cntE e:=qf (hal e he)
  have e2:cntR o=m.bal.n:=by
   have:cntR o=cntE o:=qf (hal o (List.mem_cons_self ..))
   rw [this,ho]
   exact qe h3
  rw [e1,e2]
 rw [jyn h h3,← ho]
 have hal2:∀ e∈m.heard++[o],vE e=true:=by
  intro e he
  rcases List.mem_append.1 he with he | he
  ·exact hal e (qi _ he)
  ·exact hal e (by rw [List.mem_singleton.1 he];exact List.mem_cons_self ..)
 rw [jpj hal2,← jnE (by rw [ho];rfl) hn hl,jvD]
 rw [List.map_congr_left hc,jqm _ _ _ hal]
 rfl
theorem jcW (m:Mach) (hs:sizeT m.t≤1000000000) (hh:∀ e∈m.heard,sizeT e.t≤1000000000):C0 180 [mcv m] (.tup [ev (mesM m),.b (okMsg m)]):=by
 refine xI Tryz.func180 Tryz.call180 fun hcap=>?_
 have hmlen:(m.heard.map ev).length=m.heard.length:=by simp
 refine xX fun b1=>?_
 refine zAl fun b2=>?_
 refine xA (jcs m hs hh) ?_
 iterate 2 refine zW ?_
 iterate 2 all_goals first | refine zW ?_ | refine xG ?_ ?_<;>intro hg
 all_goals first | (refine zY ?_;refine jaa zRc (jaJ m.bal) rfl rfl ?_) | refine zSk ?_
 all_goals refine zW ?_
 all_goals (
 refine xC ?_ ?_<;>intro hc
 ·(
 first
 | (exact xQ hc)
 |(
 have hok:okMsg m=false:=by unfold okMsg;first | (simp [*];done) | grind
 iterate 7 refine zW ?_
 refine jal [2,3] 1 rfl xSe (by apply HeapA.box (xc4 (CvL.cons Cv.fz (xc4 (xc4 (CvL.cons Cv.same (CvL.cons Cv.same CvL.nil))))));exact xHb) ?_
 refine jal [2,3] 3 rfl xSe (by apply HeapA.box (xc4 (CvL.cons Cv.same (CvL.cons Cv.fz (xc4 (xc4 (CvL.cons Cv.same CvL.nil))))));exact xHb) ?_
 refine xP ?_
 unfold mesM;first | (rw [qe (by rw [hok];decide),hok];rfl) | (rw [qf hok,hok,← jri hok];rfl)))
 ·(
 first
 | (exact xQ hc)
 |(
 have hok:okMsg m=true:=by unfold okMsg;first | (simp [*];done) | grind
 refine xA (jaM m) ?_
 refine xP ?_
 unfold mesM;first | (rw [qe (by rw [hok];decide),hok];rfl) | (rw [qf hok,hok,← jri hok];rfl))))
theorem jt6 (m:Mach) (hlen:m.heard.length≤900000) (hs:sizeT m.t≤200000) (hh:∀ e∈m.heard,sizeT e.t≤200000):C0 213 [mcv m] (.b (togM m)):=by
 refine xI Tryz.func213 Tryz.call213 fun hcap=>?_
 have hmlen:(m.heard.map ev).length=m.heard.length:=by simp
 refine xX fun b1=>?_
 refine xA (jcW m (by omega) (fun e he=>by have:=hh e he;omega)) ?_
 refine xL fun b3=>?_
 iterate 10 refine zW ?_
 iterate 4 all_goals first | refine zW ?_ | refine xG ?_ ?_<;>intro hg
 all_goals (
 refine xC ?_ ?_<;>intro hc
 ·(
 first
 | (exact xQ hc)
 |(
 have htog:togM m=false:=by first | exact jxD (jau (by first | with_reducible assumption | exact hg)) | exact jxZ (qc (by first | with_reducible assumption | exact hc))
 refine xP ?_;refine (bcl ?_)
 exact htog.symm))
 ·(
 first
 | (exact xQ hc)
 |(
 have hok:okMsg m=true:=jat (by first | with_reducible assumption | exact hg)
 have hph:¬ m.phase=3:=qd hc
 have hmes:=ju6 hok
 obtain ⟨o,ho⟩:∃ o,o=msgM m:=⟨_,rfl⟩
 have htog:=jvB hok hph ho
 rw [hmes,← ho]
 have hnode:=(jiy hok).2.2
 have hot:o.t=m.t:=by rw [ho];rfl
 have hlo:∀ e∈o::m.heard,sizeT e.t≤200000:=List.forall_mem_cons.2 ⟨by rw [hot];exact hs,hh⟩
 have hos:=hlo o (List.mem_cons_self ..)
 have hml2:((o::m.heard).map ev).length=m.heard.length+1:=by simp
 iterate 5 refine zW ?_
 refine jno (e:=55) (sz:=15) (by_:=176) rfl rfl zRc rfl rfl rfl rfl (fun v23 hv23=>?_)
 iterate 2 refine zW ?_
 refine xEa 55 15 176 (hb:=by simp only [qk,qt,qq,qu];omega) fun v26 hv26=>?_
 iterate 4 refine zW ?_
 rw [show [D.agg [.i o.node,.i o.slot,.i o.seq,.i o.t.th,.sl 1 (o.t.nodes.map .i),.sl 3 (avs o.t.inner),.i o.kind,.i o.bal.n,.v (.string o.bal.v),.i o.prep.n,.v (.string o.prep.v),.i o.prime.n,.v (.string o.prime.v),.i o.low,.i o.high]]++m.heard.map ev=(o::m.heard).map ev from rfl]
 refine zFz v26 [1,2,3,5] ?_
 refine xN fun _=>?_
 iterate 4 refine zW ?_
 refine jaP [1,3,5,27,28] [.box b3 _ _,.box b1 _ _] (fun (k:Nat) (v:Value) (q:List Bool) r=>(6,.v v)::(29,.i (k:Int))::r) (fun k v q r=>.arr v 4 1 (q.map bV)::r) (fun k v q=>k≤m.heard.length+1∧q=((o::m.heard).take k).map (fun e=>decide (cntR e≥cntR o))) (fun k v q=>m.heard.length+1 - k) (0) (.slice none 0 0) ([]) zRc ⟨by omega,rfl⟩ ((jaO 4 1 rfl).trans (zWk)) ?_
 intro k v q ⟨hk,hI⟩
 have hql:q.length=k:=by rw [hI];simp;omega
 have hqm:(q.map bV).length=q.length:=by simp
 refine xC ?_ ?_<;>intro hc
 ·(
 have hlt:=qc hc
 obtain ⟨x,hx,hd⟩:=jab (l:=o::m.heard) (k:=k) (by simp;omega)
 have hx':=jad ev hx
 have hxs:=hlo x (qj hx)
 refine xL fun b8=>?_
 iterate 3 refine zW ?_
 refine zDr [.arr v _ _ _] ?_
 refine zT 0 ?_;refine zT 1 ?_;refine zT 3 ?_;refine zOn 2 ?_
 refine xA (jdn x (by omega)) ?_
 refine zW ?_
 refine zOn 4 ?_
 refine xA (jdn o (by omega)) ?_
 refine zW ?_
 refine zT 5 ?_;refine zOn 6 ?_
 refine xLt 4 1 1 ?_
 refine zW ?_
 refine zOn 7 ?_
 refine xEa 4 1 1 (hb:=by simp only [qk,qt,qq,qu];omega) fun v40 hv40=>?_
 refine zW ?_
 refine zT 8 ?_
 refine zW ?_
 all_goals (
 iterate 7 refine zW ?_
 rw [bsn q]
 refine ⟨k+1,_,q++[decide (cntR x≥cntR o)],⟨by omega,by rw [hI,List.take_add_one,hx];simp⟩,by omega,zWk⟩))
 ·(
 have hge:=qd hc
 obtain rfl:k=m.heard.length+1:=by omega
 refine zFz v [1,3,5,6] ?_
 refine xA (jco m.node m.t (o::m.heard) (fun e he=>by have:=hlo e he;omega)) ?_
 refine xA (jdv (o::m.heard) q (by simp;omega)) ?_
 refine xA (jdi _ _) ?_
 iterate 4 refine zW ?_
 obtain ⟨qn,hqn⟩:=qz hnode.1
 obtain ⟨g,hgd⟩:∃ g:Nat,g=great (viewE m.node m.t (o::m.heard)) (setR 0 (o::m.heard) q:Nat):=⟨_,rfl⟩
 have hgl:g<1024:=by rw [hgd];exact jcG _ _
 have hgv:valid (g:Int)=true:=by unfold valid;rw [qg (show (0:Int)≤(g:Int) by omega),qg (show (g:Int)<1024 by omega)];rfl
 have hpow:=jaH (k:=qn) (by omega)
 have hdiv:g / 2^qn≤g:=Nat.div_le_self _ _
 rw [← hgd,hqn]
 iterate 4 refine zW ?_
 refine zP (jfM rfl rfl rfl) ?_;rw [jp4 (n:=qn) (by omega)]
 refine zP (jff rfl rfl (by omega)) ?_
 refine zP (jcH (q:=1) rfl rfl rfl (by omega) (by omega)) ?_
 refine xP ?_;refine (bcl ?_)
 have hq2:q=(o::m.heard).map (fun e=>decide (cntR e≥cntR o)):=by rw [hI,qA (by simp)]
 rw [htog,← hq2,← hgd,hqn]
 exact jnt hgv (by omega)))))
theorem jwy {k:Int} (h:12≤k):waitV k=12:=by unfold waitV;omega
theorem jvS {k:Int} (h:¬ 12≤k):waitV k=max (k+1) 1:=by unfold waitV;omega
theorem jls (k:Int):1≤waitV k∧waitV k≤12:=by unfold waitV;omega
theorem juR (h:stepBad t now=true):stepV t m now=(⟨0,-1⟩,false):=by unfold stepV;rw [qf h]
theorem jux (h:stepBad t now=false) (h2:togM m=false):stepV t m now=(⟨m.bal.n,-1⟩,false):=by unfold stepV;rw [qe (by rw [h];decide),qf h2]
theorem jqM (h:stepBad t now=false) (h2:togM m=true) (h3:stepNew t m=true):stepV t m now=(⟨m.bal.n,now+waitV m.bal.n⟩,false):=by unfold stepV;rw [qe (by rw [h];decide),qe (by rw [h2];decide),qf h3]
theorem jw5 (h:stepBad t now=false) (h2:togM m=true) (h3:stepNew t m=false) (h4:t.due≤now):stepV t m now=(⟨m.bal.n,-1⟩,true):=by unfold stepV;rw [qe (by rw [h];decide),qe (by rw [h2];decide),qe (by rw [h3];decide),qf h4]
theorem jxw (h:stepBad t now=false) (h2:togM m=true) (h3:stepNew t m=false) (h4:¬ t.due≤now):stepV t m now=(t,false):=by unfold stepV;rw [qe (by rw [h];decide),qe (by rw [h2];decide),qe (by rw [h3];decide),qe h4]
theorem jv1 (h:togM m=true):0≤m.bal.n:=by
 have hok:okMsg m=true:=by
  cases h1:okMsg m with
  | true=>rfl
  | false=>rw [jxD h1] at h;cases h
 have h3:¬ m.phase=3:=fun h3=>by rw [jxZ h3] at h;cases h
 have hv:=jeD (jiy hok).2.1
 unfold kindE at hv
 have e1:(msgM m).bal=m.bal:=rfl
 have fin:finB m.bal=true→0≤m.bal.n:=by
  intro hf
  simp only [finB,vB,qh,Bool.or_eq_true,qm] at hf
  omega
 split at hv
 ·(
 unfold prepE at hv
 simp only [qh] at hv
 exact fin hv.1.1)
 ·(
 split at hv
 ·(
 simp only [qh] at hv
 exact fin hv.1)
 ·(
 split at hv
 ·rename_i h9;exact qo h9 h3
 ·cases hv))
theorem jf4 (k:Int) (hk:-9223372036854775808≤k):C0 176 [.i k] (.i (waitV k)):=by
 refine xI Tryz.func176 Tryz.call176 fun hcap=>?_
 refine xC ?_ ?_<;>intro hc
 ·(
 have h4:=qc hc
 refine xP ?_;refine (icl ?_)
 rw [jwy h4])
 ·(
 have h4:=qd hc
 refine xP ?_;refine (icl ?_)
 rw [jvS h4])
theorem jgP (t:Tm):C0 169 [tmv t] (.b (vTm t)):=by
 refine xI Tryz.func169 Tryz.call169 fun hcap=>?_
 refine xX fun b1=>?_
 iterate 9 refine zW ?_
 iterate 15 all_goals first | refine zW ?_ | refine xG ?_ ?_<;>intro hg
 all_goals (
 refine xP ?_;refine (bcl ?_)
 first | rfl | (simp only [vTm];simp [*];done))
theorem jpr (t:Tm) (m:Mach) (now:Int) (hlen:m.heard.length≤900000) (hs:sizeT m.t≤200000) (hh:∀ e∈m.heard,sizeT e.t≤200000):C0 177 [tmv t,mcv m,.i now] (.tup [tmv (stepV t m now).1,.b (stepV t m now).2]):=by
 refine xI Tryz.func177 Tryz.call177 fun hcap=>?_
 have hw:=jls m.bal.n
 refine xX fun b3=>?_
 refine zBx fun b4=>?_
 refine zAl fun b6=>?_
 refine xA (jgP t) ?_
 iterate 2 refine zW ?_
 iterate 7 all_goals first | refine zW ?_ | refine xG ?_ ?_<;>intro hg
 all_goals (
 refine xC ?_ ?_<;>intro hc
 ·(
 first
 | (exact xQ hc)
 |(
 have hbad:stepBad t now=true:=by first | (simp only [stepBad];simp [*];done) | grind [stepBad]
 refine xP ?_
 rw [juR hbad];rfl))
 ·(
 first
 | (exact xQ hc)
 |(
 have hbad:stepBad t now=false:=by first | (simp only [stepBad];simp [*];done) | grind [stepBad]
 have hnow:0≤now∧now≤200:=by simp only [stepBad,Bool.or_eq_false_iff,decide_eq_false_iff_not] at hbad;omega
 have hdv:-1≤t.due:=by simp only [stepBad,Bool.or_eq_false_iff,Bool.not_eq_false',vTm,qh,qm] at hbad;omega
 refine xA (jt6 m hlen hs hh) ?_
 refine xC ?_ ?_<;>intro hc
 ·(
 have htg:togM m=false:=jau hc
 refine xP ?_
 rw [jux hbad htg];rfl)
 ·(
 have htg:togM m=true:=jat hc
 iterate 6 refine zW ?_
 iterate 6 all_goals first | refine zW ?_ | refine xG ?_ ?_<;>intro hg
 all_goals (
 refine xC ?_ ?_<;>intro hc
 ·(
 first
 | (exact xQ hc)
 |(
 have hnew:stepNew t m=true:=by simp only [stepNew];grind
 refine xA (jf4 m.bal.n (by have:=jv1 htg;omega)) ?_
 refine xP ?_
 first | (rw [juR hbad];rfl) | (rw [jux hbad htg];rfl) | (rw [jqM hbad htg hnew];rfl)))
 ·(
 first
 | (exact xQ hc)
 |(
 have hnew:stepNew t m=false:=by simp only [stepNew];grind
 refine xC ?_ ?_<;>intro hc
 ·(
 have hdue:t.due≤now:=qc hc
 refine xP ?_
 rw [jw5 hbad htg hnew hdue];rfl)
 ·(
 have hdue:¬ t.due≤now:=qd hc
 refine xP ?_
 rw [jxw hbad htg hnew hdue];rfl))))))))
theorem jxd (h:m.phase=3∨zB m.bal=true):prepM m=m:=qf h
theorem juq (h:¬ (m.phase=3∨zB m.bal=true)) (h2:¬ (m.phase=1∧¬ m.low=0)):prepM m=prep1 m:=by
 unfold prepM;rw [qe h,qe h2]
theorem jnk (h:¬ (m.phase=3∨zB m.bal=true)) (h2:m.phase=1∧¬ m.low=0) (h3:prepL m>(envR (prep1 m)).high):prepM m={ prep1 m with low:=0 }:=by
 unfold prepM;rw [qe h,qf h2,qf h3]
theorem jpU (h:¬ (m.phase=3∨zB m.bal=true)) (h2:m.phase=1∧¬ m.low=0) (h3:¬ prepL m>(envR (prep1 m)).high):prepM m={ prep1 m with low:=prepL m }:=by
 unfold prepM;rw [qe h,qf h2,qe h3]
theorem jik (m:Mach) (hI:InvM m):C0 243 [mcv m] (mcv (prepM m)):=by
 refine xI Tryz.func243 Tryz.call243 fun hcap=>?_
 have hsz1:=hI.sz
 have hhl:=hI.hl
 have hhs:∀ e∈m.heard,sizeT e.t≤200000:=fun e he=>by have:=(hI.hs e he).1;omega
 have hal:(allM m).length≤100:=by have:=jgF m;omega
 have has9:∀ e∈allM m,sizeT e.t≤1000000000:=fun e he=>by have:=jdj (k:=200000) (by omega) hhs e he;omega
 have hbn:=hI.baln
 have hbn0:=hI.bal.n0
 have hlw:=hI.low
 have hhg:=hI.high
 have hmlen:(m.heard.map ev).length=m.heard.length:=by simp
 refine xX fun b1=>?_
 refine zAl fun b2=>?_
 iterate 9 refine zW ?_
 iterate 2 all_goals first | refine zW ?_ | refine xG ?_ ?_<;>intro hg
 all_goals first | (refine zY ?_;refine jaa zRc (jaJ m.bal) rfl rfl ?_) | refine zSk ?_
 all_goals refine zW ?_
 all_goals (
 refine xC ?_ ?_<;>intro hc
 ·(
 first
 | (exact xQ hc)
 |(
 have h13:m.phase=3∨zB m.bal=true:=by first | exact .inr (by with_reducible assumption) | exact .inl (qc (by with_reducible assumption))
 refine xP ?_;rw [jxd h13];rfl))
 ·(
 first
 | (exact xQ hc)
 |(
 have h13:¬ (m.phase=3∨zB m.bal=true):=by have h8:¬ m.phase=3:=qd (by first | with_reducible assumption | exact hg);have h9:zB m.bal=false:=hc;rw [h9];rintro (h | h);exact h8 h;cases h
 refine xC ?_ ?_<;>intro hc
 ·(
 have hp2:m.phase=2:=qc hc
 iterate 8 refine zW ?_
 refine zDr [] ?_
 refine zT 0 ?_;refine zT 1 ?_;refine zT 2 ?_;refine zT 3 ?_;refine zT 4 ?_;refine zT 6 ?_;refine zT 7 ?_;refine zT 8 ?_;refine zT 9 ?_;refine zT 10 ?_
 refine zE2 5 13 ?_ ?_
 rotate_left
 case' _ =>(
 refine zAl fun b4=>?_
 refine zW ?_
 refine zOn 5 ?_
 refine xA (ja7 m (by omega)) ?_
 refine zW ?_
 refine zOn 11 ?_
 have h7:m.phase=2:=hp2;refine jaq zRc (jcc m.node m.t (allM m) hal has9 m.prep m.prime m.bal.v) jaA rfl rfl ?_;rintro _ _ ⟨rfl,rfl⟩;obtain ⟨nb,hnb⟩:∃ nb,nb=nextV m.node m.t (allM m) m.prep m.prime (if m.phase=2 then m.bal.v else noS):=⟨_,rfl⟩;rw [show nextV m.node m.t (allM m) m.prep m.prime m.bal.v=nb from by rw [hnb,qf h7]]
 refine zW ?_
 refine zOn 12 ?_
 refine xB (jbd nb) ?_;rintro _ _ ⟨rfl,rfl⟩;obtain ⟨fb,hfb⟩:∃ b,b=finB1 nb:=⟨_,rfl⟩;rw [← hfb];have hpb:prepB m=fb:=(by rw [hfb,hnb];rfl)
 refine zW ?_
 refine zOn 14 ?_
 iterate 3 refine zW ?_)
 rotate_right
 case' _ =>(
 refine xA (ja7 m (by omega)) ?_
 refine zW ?_
 refine zE2 11 13 ?_ ?_
 rotate_left
 case' _ =>(
 refine zAl fun b4=>?_
 refine zW ?_
 refine zOn 11 ?_
 have h7:m.phase=2:=hp2;refine jaq zRc (jcc m.node m.t (allM m) hal has9 m.prep m.prime m.bal.v) jaA rfl rfl ?_;rintro _ _ ⟨rfl,rfl⟩;obtain ⟨nb,hnb⟩:∃ nb,nb=nextV m.node m.t (allM m) m.prep m.prime (if m.phase=2 then m.bal.v else noS):=⟨_,rfl⟩;rw [show nextV m.node m.t (allM m) m.prep m.prime m.bal.v=nb from by rw [hnb,qf h7]]
 refine zW ?_
 refine zOn 12 ?_
 refine xB (jbd nb) ?_;rintro _ _ ⟨rfl,rfl⟩;obtain ⟨fb,hfb⟩:∃ b,b=finB1 nb:=⟨_,rfl⟩;rw [← hfb];have hpb:prepB m=fb:=(by rw [hfb,hnb];rfl)
 refine zW ?_
 refine zOn 14 ?_
 iterate 3 refine zW ?_)
 rotate_right
 case' _ =>(
 have h7:m.phase=2:=hp2;refine jaq zRc (jcc m.node m.t (allM m) hal has9 m.prep m.prime m.bal.v) jaA rfl rfl ?_;rintro _ _ ⟨rfl,rfl⟩;obtain ⟨nb,hnb⟩:∃ nb,nb=nextV m.node m.t (allM m) m.prep m.prime (if m.phase=2 then m.bal.v else noS):=⟨_,rfl⟩;rw [show nextV m.node m.t (allM m) m.prep m.prime m.bal.v=nb from by rw [hnb,qf h7]]
 refine zW ?_
 refine zE2 12 13 ?_ ?_
 rotate_left
 case' _ =>(
 refine zAl fun b4=>?_
 refine zW ?_
 refine zOn 12 ?_
 refine xB (jbd nb) ?_;rintro _ _ ⟨rfl,rfl⟩;obtain ⟨fb,hfb⟩:∃ b,b=finB1 nb:=⟨_,rfl⟩;rw [← hfb];have hpb:prepB m=fb:=(by rw [hfb,hnb];rfl)
 refine zW ?_
 refine zOn 14 ?_
 iterate 3 refine zW ?_)
 rotate_right
 case' _ =>(
 refine xB (jbd nb) ?_;rintro _ _ ⟨rfl,rfl⟩;obtain ⟨fb,hfb⟩:∃ b,b=finB1 nb:=⟨_,rfl⟩;rw [← hfb];have hpb:prepB m=fb:=(by rw [hfb,hnb];rfl)
 refine zW ?_
 refine zOn 13 ?_
 refine zAl fun b4=>?_
 refine zW ?_
 refine zOn 14 ?_
 iterate 3 refine zW ?_)))
 all_goals (
 refine xA (jlc m.prep m.prime fb) ?_
 iterate 16 refine zW ?_
 iterate 4 all_goals refine zW ?_
 all_goals (
 refine xC ?_ ?_<;>intro hc
 ·exact xQ hc
 ·(
 first
 | (exact xQ hc)
 |(
 have h52:¬ (m.phase=1∧¬ m.low=0):=by
  first
  | (have h8:¬ m.phase=1:=qd hg;exact fun h=>h8 h.1)
  | (exact fun h=>by have:=h.1;omega)
 have mk52f:True:=trivial
 iterate 9 refine zW ?_
 first
 | (have:=mk70t;rw [← hpb] at h70;refine zPi ?_;rw [jnk h13 h52 h70,← hpb];rfl)
 | (have:=mk70f;rw [← hpb] at h70;refine zPi ?_;rw [jpU h13 h52 h70,← hpb];rfl)
 | (have:=mk52f;refine zPi ?_;rw [juq h13 h52,← hpb];rfl))))))
 ·(
 have hp2:¬ m.phase=2:=qd hc
 iterate 3 refine zW ?_
 refine zDr [] ?_
 refine zT 0 ?_;refine zT 1 ?_;refine zT 2 ?_;refine zT 3 ?_;refine zT 4 ?_;refine zT 6 ?_;refine zT 7 ?_;refine zT 8 ?_;refine zT 9 ?_;refine zT 10 ?_
 refine zE2 5 13 ?_ ?_
 rotate_left
 case' _ =>(
 refine zAl fun b4=>?_
 refine zW ?_
 refine zOn 5 ?_
 refine xA (ja7 m (by omega)) ?_
 refine zW ?_
 refine zOn 11 ?_
 have h7:¬ m.phase=2:=hp2;refine jaq zRc (jcc m.node m.t (allM m) hal has9 m.prep m.prime noS) jaA rfl rfl ?_;rintro _ _ ⟨rfl,rfl⟩;obtain ⟨nb,hnb⟩:∃ nb,nb=nextV m.node m.t (allM m) m.prep m.prime (if m.phase=2 then m.bal.v else noS):=⟨_,rfl⟩;rw [show nextV m.node m.t (allM m) m.prep m.prime noS=nb from by rw [hnb,qe h7]]
 refine zW ?_
 refine zOn 12 ?_
 refine xB (jbd nb) ?_;rintro _ _ ⟨rfl,rfl⟩;obtain ⟨fb,hfb⟩:∃ b,b=finB1 nb:=⟨_,rfl⟩;rw [← hfb];have hpb:prepB m=fb:=(by rw [hfb,hnb];rfl)
 refine zW ?_
 refine zOn 14 ?_
 iterate 3 refine zW ?_)
 rotate_right
 case' _ =>(
 refine xA (ja7 m (by omega)) ?_
 refine zW ?_
 refine zE2 11 13 ?_ ?_
 rotate_left
 case' _ =>(
 refine zAl fun b4=>?_
 refine zW ?_
 refine zOn 11 ?_
 have h7:¬ m.phase=2:=hp2;refine jaq zRc (jcc m.node m.t (allM m) hal has9 m.prep m.prime noS) jaA rfl rfl ?_;rintro _ _ ⟨rfl,rfl⟩;obtain ⟨nb,hnb⟩:∃ nb,nb=nextV m.node m.t (allM m) m.prep m.prime (if m.phase=2 then m.bal.v else noS):=⟨_,rfl⟩;rw [show nextV m.node m.t (allM m) m.prep m.prime noS=nb from by rw [hnb,qe h7]]
 refine zW ?_
 refine zOn 12 ?_
 refine xB (jbd nb) ?_;rintro _ _ ⟨rfl,rfl⟩;obtain ⟨fb,hfb⟩:∃ b,b=finB1 nb:=⟨_,rfl⟩;rw [← hfb];have hpb:prepB m=fb:=(by rw [hfb,hnb];rfl)
 refine zW ?_
 refine zOn 14 ?_
 iterate 3 refine zW ?_)
 rotate_right
 case' _ =>(
 have h7:¬ m.phase=2:=hp2;refine jaq zRc (jcc m.node m.t (allM m) hal has9 m.prep m.prime noS) jaA rfl rfl ?_;rintro _ _ ⟨rfl,rfl⟩;obtain ⟨nb,hnb⟩:∃ nb,nb=nextV m.node m.t (allM m) m.prep m.prime (if m.phase=2 then m.bal.v else noS):=⟨_,rfl⟩;rw [show nextV m.node m.t (allM m) m.prep m.prime noS=nb from by rw [hnb,qe h7]]
 refine zW ?_
 refine zE2 12 13 ?_ ?_
 rotate_left
 case' _ =>(
 refine zAl fun b4=>?_
 refine zW ?_
 refine zOn 12 ?_
 refine xB (jbd nb) ?_;rintro _ _ ⟨rfl,rfl⟩;obtain ⟨fb,hfb⟩:∃ b,b=finB1 nb:=⟨_,rfl⟩;rw [← hfb];have hpb:prepB m=fb:=(by rw [hfb,hnb];rfl)
 refine zW ?_
 refine zOn 14 ?_
 iterate 3 refine zW ?_)
 rotate_right
 case' _ =>(
 refine xB (jbd nb) ?_;rintro _ _ ⟨rfl,rfl⟩;obtain ⟨fb,hfb⟩:∃ b,b=finB1 nb:=⟨_,rfl⟩;rw [← hfb];have hpb:prepB m=fb:=(by rw [hfb,hnb];rfl)
 refine zW ?_
 refine zOn 13 ?_
 refine zAl fun b4=>?_
 refine zW ?_
 refine zOn 14 ?_
 iterate 3 refine zW ?_)))
 all_goals (
 refine xA (jlc m.prep m.prime fb) ?_
 iterate 16 refine zW ?_
 iterate 4 all_goals first | refine zW ?_ | refine xG ?_ ?_<;>intro hg
 all_goals (
 refine xC ?_ ?_<;>intro hc
 ·(
 first
 | (exact xQ hc)
 |(
 have h52:m.phase=1∧¬ m.low=0:=⟨qc (by first | with_reducible assumption | exact hg),jaf hc⟩
 refine xA (jaM { m with prep:=(joinV m.prep m.prime fb).1,prime:=(joinV m.prep m.prime fb).2 }) ?_
 refine xA (jcw m.bal.v m.low (joinV m.prep m.prime fb).1 (joinV m.prep m.prime fb).2) ?_
 refine xC ?_ ?_<;>intro hc
 ·(
 have h70:=qc hc
 have mk70t:True:=trivial
 iterate 12 refine zW ?_
 rw [← hpb] at h70;refine zPi ?_;rw [jnk h13 h52 h70,← hpb];rfl)
 ·(
 have h70:=qd hc
 have mk70f:True:=trivial
 iterate 9 refine zW ?_
 first
 | (have:=mk70t;rw [← hpb] at h70;refine zPi ?_;rw [jnk h13 h52 h70,← hpb];rfl)
 | (have:=mk70f;rw [← hpb] at h70;refine zPi ?_;rw [jpU h13 h52 h70,← hpb];rfl))))
 ·(
 first
 | (exact xQ hc)
 |(
 have h52:¬ (m.phase=1∧¬ m.low=0):=by
  first
  | (have h8:¬ m.phase=1:=qd hg;exact fun h=>h8 h.1)
  | (exact fun h=>by have:=h.1;omega)
  | (have h8:=jae hc;exact fun h=>h.2 h8)
 have mk52f:True:=trivial
 iterate 9 refine zW ?_
 first
 | (have:=mk70t;rw [← hpb] at h70;refine zPi ?_;rw [jnk h13 h52 h70,← hpb];rfl)
 | (have:=mk70f;rw [← hpb] at h70;refine zPi ?_;rw [jpU h13 h52 h70,← hpb];rfl)
 | (have:=mk52f;refine zPi ?_;rw [juq h13 h52,← hpb];rfl)))))))))
theorem jvE (h:¬ m.phase=1∨zB m.bal=true):confS m=m:=qf h
theorem jwH (h:¬ (¬ m.phase=1∨zB m.bal=true)) (h2:zB (confB m)=true):confS m=m:=by unfold confS;rw [qe h,qf h2]
theorem jak (h:¬ (¬ m.phase=1∨zB m.bal=true)) (h2:zB (confB m)=false):confS m=conf2 m (conf1 m):=by unfold confS;rw [qe h,qe (by rw [h2];decide)]
theorem jba (h:lB m.bal (confB m)=true) (h2:cB m.bal (confB m)=false):conf1 m={ m with conf:=confB m,low:=0,bal:=confB m }:=by unfold conf1;rw [qf h,qe (by rw [h2];decide)]
theorem jaF (h:lB m.bal (confB m)=true) (h2:cB m.bal (confB m)=true):conf1 m={ m with conf:=confB m,low:=m.low,bal:=confB m }:=by unfold conf1;rw [qf h,qf h2]
theorem jaG (h:lB m.bal (confB m)=false):conf1 m={ m with conf:=confB m }:=by unfold conf1;rw [qe (by rw [h];decide)]
theorem jbm (b:Bal):cB b b=true:=qg rfl
theorem jpv {a b:Str} (h:(!decide (a=b))=true):¬ a=b:=by
 intro e
 rw [qg e] at h
 cases h
theorem jrU {a b:Str} (h:(!decide (a=b))=false):a=b:=by
 by_cases e:a=b
 ·exact e
 ·rw [qx e] at h;cases h
theorem jg4 (m:Mach) (hI:InvM m):C0 245 [mcv m] (mcv (confS m)):=by
 refine xI Tryz.func245 Tryz.call245 fun hcap=>?_
 have hsz1:=hI.sz
 have hhl:=hI.hl
 have hhs:∀ e∈m.heard,sizeT e.t≤200000:=fun e he=>by have:=(hI.hs e he).1;omega
 have hal:(allM m).length≤100:=by have:=jgF m;omega
 have has9:∀ e∈allM m,sizeT e.t≤1000000000:=fun e he=>by have:=jdj (k:=200000) (by omega) hhs e he;omega
 have hbn:=hI.baln
 have hbn0:=hI.bal.n0
 have hlw:=hI.low
 have hhg:=hI.high
 have hmlen:(m.heard.map ev).length=m.heard.length:=by simp
 refine xX fun b1=>?_
 refine zAl fun b2=>?_
 iterate 9 refine zW ?_
 iterate 2 all_goals first | refine zW ?_ | refine xG ?_ ?_<;>intro hg
 all_goals first | (refine zY ?_;refine jaa zRc (jaJ m.bal) rfl rfl ?_) | refine zSk ?_ | (refine zG (fun hg=>?_) fun hg=>?_;case' _=>refine jaa zRc (jaJ m.bal) rfl rfl ?_)
 all_goals refine zW ?_
 all_goals (
 refine xC ?_ ?_<;>intro hc
 ·(
 first
 | (exact xQ hc)
 |(
 have h12:¬ m.phase=1∨zB m.bal=true:=by first | exact .inr (by with_reducible assumption) | exact .inl (jaf (by first | with_reducible assumption | exact hg))
 refine xP ?_;rw [jvE h12];rfl))
 ·(
 first
 | (exact xQ hc)
 |(
 have hp1:m.phase=1:=jae (by first | with_reducible assumption | exact hg)
 have h12:¬ (¬ m.phase=1∨zB m.bal=true):=by have h9:zB m.bal=false:=hc;rw [h9];rintro (h | h);exact h hp1;cases h
 iterate 3 refine zW ?_
 refine zDr [] ?_
 refine zT 0 ?_;refine zT 1 ?_;refine zT 2 ?_;refine zT 3 ?_;refine zT 4 ?_;refine zT 6 ?_;refine zT 7 ?_
 refine zE2 5 9 ?_ ?_
 rotate_left
 case' _ =>(
 refine zAl fun b3=>?_
 refine zW ?_
 refine zOn 5 ?_
 refine xA (ja7 m (by omega)) ?_
 refine zW ?_
 refine zOn 8 ?_
 refine xB (jgk m.node m.t (allM m) hal has9 m.conf) ?_;rintro _ _ ⟨rfl,rfl⟩;obtain ⟨b,hb⟩:∃ b,b=confB m:=⟨_,rfl⟩;rw [show highV m.node m.t (allM m) m.conf=b from hb.symm]
 refine zW ?_
 refine zOn 10 ?_
 iterate 3 refine zW ?_)
 rotate_right
 case' _ =>(
 refine xA (ja7 m (by omega)) ?_
 refine zW ?_
 refine zE2 8 9 ?_ ?_
 rotate_left
 case' _ =>(
 refine zAl fun b3=>?_
 refine zW ?_
 refine zOn 8 ?_
 refine xB (jgk m.node m.t (allM m) hal has9 m.conf) ?_;rintro _ _ ⟨rfl,rfl⟩;obtain ⟨b,hb⟩:∃ b,b=confB m:=⟨_,rfl⟩;rw [show highV m.node m.t (allM m) m.conf=b from hb.symm]
 refine zW ?_
 refine zOn 10 ?_
 iterate 3 refine zW ?_)
 rotate_right
 case' _ =>(
 refine xB (jgk m.node m.t (allM m) hal has9 m.conf) ?_;rintro _ _ ⟨rfl,rfl⟩;obtain ⟨b,hb⟩:∃ b,b=confB m:=⟨_,rfl⟩;rw [show highV m.node m.t (allM m) m.conf=b from hb.symm]
 refine zW ?_
 refine zOn 9 ?_
 refine zAl fun b3=>?_
 refine zW ?_
 refine zOn 10 ?_
 iterate 3 refine zW ?_))
 all_goals (
 refine xA (jaJ b) ?_
 refine xC ?_ ?_<;>intro hc
 ·(
 have hz9:zB (confB m)=true:=by rw [← hb];exact hc
 refine xP ?_;rw [jwH h12 hz9];rfl)
 ·(
 have hz9:zB (confB m)=false:=by rw [← hb];exact hc
 refine xA (jcJ m.bal b) ?_
 refine xC ?_ ?_<;>intro hc
 ·(
 have h31:lB m.bal (confB m)=true:=by rw [← hb];exact hc
 have mk31t:True:=trivial
 refine xA (ja2 m.bal b) ?_
 refine xC ?_ ?_<;>intro hc
 ·(
 have h36:cB m.bal (confB m)=false:=by rw [← hb];exact jau hc
 have mk36t:True:=trivial
 iterate 18 refine zW ?_
 iterate 3 all_goals first | refine zW ?_ | refine xG ?_ ?_<;>intro hg
 all_goals first | (refine zY ?_;(refine jaq zRc (ja2 _ b) jaA rfl rfl ?_;rintro _ _ ⟨rfl,rfl⟩)) | refine zSk ?_ | (refine zG (fun hg=>?_) fun hg=>?_;case' _=>(refine jaq zRc (ja2 _ b) jaA rfl rfl ?_;rintro _ _ ⟨rfl,rfl⟩))
 all_goals refine zW ?_
 all_goals (
 refine xC ?_ ?_<;>intro hc
 ·(
 first
 | (exact xQ hc)
 | (have:=mk36t;have h9:cB b b=false:=hc;exact qo h9 (by rw [jbm];decide))
 |(
 first | (have:=mk36t;have h48:(0:Int)=0∧cB (confB m) (confB m)=true:=⟨rfl,jbm _⟩) | (have:=mk36f;have h48:m.low=0∧cB (confB m) (confB m)=true:=⟨qc (by first | with_reducible assumption | exact hg),jbm _⟩) | (have h48:m.low=0∧cB m.bal (confB m)=true:=⟨qc (by first | with_reducible assumption | exact hg),by rw [← hb];exact hc⟩)
 have mk48t:True:=trivial
 iterate 11 refine zW ?_
 first | (have:=mk31t;(refine jaa zRc (jcw b.v b.n m.prep m.prime) rfl rfl ?_)) | (refine jaa zRc (jcw b.v m.bal.n m.prep m.prime) rfl rfl ?_)
 refine xC ?_ ?_<;>intro hc
 ·(
 first | (have:=mk31t;have h62:lowestV (confB m).v (confB m).n m.prep m.prime≤(confB m).n:=(by rw [← hb];exact qc hc)) | (have h62:lowestV (confB m).v m.bal.n m.prep m.prime≤(confB m).n:=(by rw [← hb];exact qc hc))
 have mk62t:True:=trivial
 iterate 13 refine zW ?_
 first
 | (have:=mk36t;have:=mk62t;refine zPi ?_;rw [jak h12 hz9,jba h31 h36];unfold conf2;rw [qf (And.intro h48 h62)];rw [← hb];rfl)
 | (have:=mk36t;have:=mk62f;refine zPi ?_;rw [jak h12 hz9,jba h31 h36];unfold conf2;rw [qe (fun h=>h62 h.2)];rw [← hb];rfl)
 | (have:=mk36f;have:=mk48f;refine zPi ?_;rw [jak h12 hz9,jaF h31 h36];unfold conf2;rw [qe (fun h=>h48 h.1)];rw [← hb];rfl)
 | (have:=mk36f;have:=mk62t;refine zPi ?_;rw [jak h12 hz9,jaF h31 h36];unfold conf2;rw [qf (And.intro h48 h62)];rw [← hb];rfl)
 | (have:=mk36f;have:=mk62f;refine zPi ?_;rw [jak h12 hz9,jaF h31 h36];unfold conf2;rw [qe (fun h=>h62 h.2)];rw [← hb];rfl)
 | (have:=mk31f;have:=mk48f;refine zPi ?_;rw [jak h12 hz9,jaG h31];unfold conf2;rw [qe (fun h=>h48 h.1)];rw [← hb];rfl)
 | (have:=mk31f;have:=mk62t;refine zPi ?_;rw [jak h12 hz9,jaG h31];unfold conf2;rw [qf (And.intro h48 h62)];rw [← hb];rfl)
 | (have:=mk31f;have:=mk62f;refine zPi ?_;rw [jak h12 hz9,jaG h31];unfold conf2;rw [qe (fun h=>h62 h.2)];rw [← hb];rfl))
 ·(
 first | (have:=mk31t;have h62:¬ lowestV (confB m).v (confB m).n m.prep m.prime≤(confB m).n:=(by rw [← hb];exact qd hc)) | (have h62:¬ lowestV (confB m).v m.bal.n m.prep m.prime≤(confB m).n:=(by rw [← hb];exact qd hc))
 have mk62f:True:=trivial
 iterate 9 refine zW ?_
 first
 | (have:=mk36t;have:=mk62t;refine zPi ?_;rw [jak h12 hz9,jba h31 h36];unfold conf2;rw [qf (And.intro h48 h62)];rw [← hb];rfl)
 | (have:=mk36t;have:=mk62f;refine zPi ?_;rw [jak h12 hz9,jba h31 h36];unfold conf2;rw [qe (fun h=>h62 h.2)];rw [← hb];rfl)
 | (have:=mk36f;have:=mk48f;refine zPi ?_;rw [jak h12 hz9,jaF h31 h36];unfold conf2;rw [qe (fun h=>h48 h.1)];rw [← hb];rfl)
 | (have:=mk36f;have:=mk62t;refine zPi ?_;rw [jak h12 hz9,jaF h31 h36];unfold conf2;rw [qf (And.intro h48 h62)];rw [← hb];rfl)
 | (have:=mk36f;have:=mk62f;refine zPi ?_;rw [jak h12 hz9,jaF h31 h36];unfold conf2;rw [qe (fun h=>h62 h.2)];rw [← hb];rfl)
 | (have:=mk31f;have:=mk48f;refine zPi ?_;rw [jak h12 hz9,jaG h31];unfold conf2;rw [qe (fun h=>h48 h.1)];rw [← hb];rfl)
 | (have:=mk31f;have:=mk62t;refine zPi ?_;rw [jak h12 hz9,jaG h31];unfold conf2;rw [qf (And.intro h48 h62)];rw [← hb];rfl)
 | (have:=mk31f;have:=mk62f;refine zPi ?_;rw [jak h12 hz9,jaG h31];unfold conf2;rw [qe (fun h=>h62 h.2)];rw [← hb];rfl))))
 ·(
 first
 | (exact xQ hc)
 | (have:=mk36t;have h9:cB b b=false:=hc;exact qo h9 (by rw [jbm];decide))
 |(
 first | (have:=mk36f;have h48:¬ (m.low=0∧cB (confB m) (confB m)=true):=(by first | (have h8:¬ m.low=0:=qd hg;exact fun h=>h8 h.1) | (exact qo (hc.symm.trans (jbm b)) (by decide)))) | (have h48:¬ (m.low=0∧cB m.bal (confB m)=true):=(by first | (have h8:¬ m.low=0:=qd hg;exact fun h=>h8 h.1) | (have h8:cB m.bal b=false:=hc;rw [← hb,h8];exact fun h=>by cases h.2)))
 have mk48f:True:=trivial
 iterate 9 refine zW ?_
 first
 | (have:=mk36t;have:=mk62t;refine zPi ?_;rw [jak h12 hz9,jba h31 h36];unfold conf2;rw [qf (And.intro h48 h62)];rw [← hb];rfl)
 | (have:=mk36t;have:=mk62f;refine zPi ?_;rw [jak h12 hz9,jba h31 h36];unfold conf2;rw [qe (fun h=>h62 h.2)];rw [← hb];rfl)
 | (have:=mk36f;have:=mk48f;refine zPi ?_;rw [jak h12 hz9,jaF h31 h36];unfold conf2;rw [qe (fun h=>h48 h.1)];rw [← hb];rfl)
 | (have:=mk36f;have:=mk62t;refine zPi ?_;rw [jak h12 hz9,jaF h31 h36];unfold conf2;rw [qf (And.intro h48 h62)];rw [← hb];rfl)
 | (have:=mk36f;have:=mk62f;refine zPi ?_;rw [jak h12 hz9,jaF h31 h36];unfold conf2;rw [qe (fun h=>h62 h.2)];rw [← hb];rfl)
 | (have:=mk31f;have:=mk48f;refine zPi ?_;rw [jak h12 hz9,jaG h31];unfold conf2;rw [qe (fun h=>h48 h.1)];rw [← hb];rfl)
 | (have:=mk31f;have:=mk62t;refine zPi ?_;rw [jak h12 hz9,jaG h31];unfold conf2;rw [qf (And.intro h48 h62)];rw [← hb];rfl)
 | (have:=mk31f;have:=mk62f;refine zPi ?_;rw [jak h12 hz9,jaG h31];unfold conf2;rw [qe (fun h=>h62 h.2)];rw [← hb];rfl)))))
 ·(
 have h36:cB m.bal (confB m)=true:=by rw [← hb];exact jat hc
 have mk36f:True:=trivial
 iterate 15 refine zW ?_
 iterate 3 all_goals first | refine zW ?_ | refine xG ?_ ?_<;>intro hg
 all_goals first | (refine zY ?_;(refine jaq zRc (ja2 _ b) jaA rfl rfl ?_;rintro _ _ ⟨rfl,rfl⟩)) | refine zSk ?_ | (refine zG (fun hg=>?_) fun hg=>?_;case' _=>(refine jaq zRc (ja2 _ b) jaA rfl rfl ?_;rintro _ _ ⟨rfl,rfl⟩))
 all_goals refine zW ?_
 all_goals (
 refine xC ?_ ?_<;>intro hc
 ·(
 first
 | (exact xQ hc)
 | (have:=mk36t;have h9:cB b b=false:=hc;exact qo h9 (by rw [jbm];decide))
 |(
 first | (have:=mk36t;have h48:(0:Int)=0∧cB (confB m) (confB m)=true:=⟨rfl,jbm _⟩) | (have:=mk36f;have h48:m.low=0∧cB (confB m) (confB m)=true:=⟨qc (by first | with_reducible assumption | exact hg),jbm _⟩) | (have h48:m.low=0∧cB m.bal (confB m)=true:=⟨qc (by first | with_reducible assumption | exact hg),by rw [← hb];exact hc⟩)
 have mk48t:True:=trivial
 iterate 11 refine zW ?_
 first | (have:=mk31t;(refine jaa zRc (jcw b.v b.n m.prep m.prime) rfl rfl ?_)) | (refine jaa zRc (jcw b.v m.bal.n m.prep m.prime) rfl rfl ?_)
 refine xC ?_ ?_<;>intro hc
 ·(
 first | (have:=mk31t;have h62:lowestV (confB m).v (confB m).n m.prep m.prime≤(confB m).n:=(by rw [← hb];exact qc hc)) | (have h62:lowestV (confB m).v m.bal.n m.prep m.prime≤(confB m).n:=(by rw [← hb];exact qc hc))
 have mk62t:True:=trivial
 iterate 13 refine zW ?_
 first
 | (have:=mk36t;have:=mk62t;refine zPi ?_;rw [jak h12 hz9,jba h31 h36];unfold conf2;rw [qf (And.intro h48 h62)];rw [← hb];rfl)
 | (have:=mk36t;have:=mk62f;refine zPi ?_;rw [jak h12 hz9,jba h31 h36];unfold conf2;rw [qe (fun h=>h62 h.2)];rw [← hb];rfl)
 | (have:=mk36f;have:=mk48f;refine zPi ?_;rw [jak h12 hz9,jaF h31 h36];unfold conf2;rw [qe (fun h=>h48 h.1)];rw [← hb];rfl)
 | (have:=mk36f;have:=mk62t;refine zPi ?_;rw [jak h12 hz9,jaF h31 h36];unfold conf2;rw [qf (And.intro h48 h62)];rw [← hb];rfl)
 | (have:=mk36f;have:=mk62f;refine zPi ?_;rw [jak h12 hz9,jaF h31 h36];unfold conf2;rw [qe (fun h=>h62 h.2)];rw [← hb];rfl)
 | (have:=mk31f;have:=mk48f;refine zPi ?_;rw [jak h12 hz9,jaG h31];unfold conf2;rw [qe (fun h=>h48 h.1)];rw [← hb];rfl)
 | (have:=mk31f;have:=mk62t;refine zPi ?_;rw [jak h12 hz9,jaG h31];unfold conf2;rw [qf (And.intro h48 h62)];rw [← hb];rfl)
 | (have:=mk31f;have:=mk62f;refine zPi ?_;rw [jak h12 hz9,jaG h31];unfold conf2;rw [qe (fun h=>h62 h.2)];rw [← hb];rfl))
 ·(
 first | (have:=mk31t;have h62:¬ lowestV (confB m).v (confB m).n m.prep m.prime≤(confB m).n:=(by rw [← hb];exact qd hc)) | (have h62:¬ lowestV (confB m).v m.bal.n m.prep m.prime≤(confB m).n:=(by rw [← hb];exact qd hc))
 have mk62f:True:=trivial
 iterate 9 refine zW ?_
 first
 | (have:=mk36t;have:=mk62t;refine zPi ?_;rw [jak h12 hz9,jba h31 h36];unfold conf2;rw [qf (And.intro h48 h62)];rw [← hb];rfl)
 | (have:=mk36t;have:=mk62f;refine zPi ?_;rw [jak h12 hz9,jba h31 h36];unfold conf2;rw [qe (fun h=>h62 h.2)];rw [← hb];rfl)
 | (have:=mk36f;have:=mk48f;refine zPi ?_;rw [jak h12 hz9,jaF h31 h36];unfold conf2;rw [qe (fun h=>h48 h.1)];rw [← hb];rfl)
 | (have:=mk36f;have:=mk62t;refine zPi ?_;rw [jak h12 hz9,jaF h31 h36];unfold conf2;rw [qf (And.intro h48 h62)];rw [← hb];rfl)
 | (have:=mk36f;have:=mk62f;refine zPi ?_;rw [jak h12 hz9,jaF h31 h36];unfold conf2;rw [qe (fun h=>h62 h.2)];rw [← hb];rfl)
 | (have:=mk31f;have:=mk48f;refine zPi ?_;rw [jak h12 hz9,jaG h31];unfold conf2;rw [qe (fun h=>h48 h.1)];rw [← hb];rfl)
 | (have:=mk31f;have:=mk62t;refine zPi ?_;rw [jak h12 hz9,jaG h31];unfold conf2;rw [qf (And.intro h48 h62)];rw [← hb];rfl)
 | (have:=mk31f;have:=mk62f;refine zPi ?_;rw [jak h12 hz9,jaG h31];unfold conf2;rw [qe (fun h=>h62 h.2)];rw [← hb];rfl))))
 ·(
 first
 | (exact xQ hc)
 | (have:=mk36t;have h9:cB b b=false:=hc;exact qo h9 (by rw [jbm];decide))
 |(
 first | (have:=mk36f;have h48:¬ (m.low=0∧cB (confB m) (confB m)=true):=(by first | (have h8:¬ m.low=0:=qd hg;exact fun h=>h8 h.1) | (exact qo (hc.symm.trans (jbm b)) (by decide)))) | (have h48:¬ (m.low=0∧cB m.bal (confB m)=true):=(by first | (have h8:¬ m.low=0:=qd hg;exact fun h=>h8 h.1) | (have h8:cB m.bal b=false:=hc;rw [← hb,h8];exact fun h=>by cases h.2)))
 have mk48f:True:=trivial
 iterate 9 refine zW ?_
 first
 | (have:=mk36t;have:=mk62t;refine zPi ?_;rw [jak h12 hz9,jba h31 h36];unfold conf2;rw [qf (And.intro h48 h62)];rw [← hb];rfl)
 | (have:=mk36t;have:=mk62f;refine zPi ?_;rw [jak h12 hz9,jba h31 h36];unfold conf2;rw [qe (fun h=>h62 h.2)];rw [← hb];rfl)
 | (have:=mk36f;have:=mk48f;refine zPi ?_;rw [jak h12 hz9,jaF h31 h36];unfold conf2;rw [qe (fun h=>h48 h.1)];rw [← hb];rfl)
 | (have:=mk36f;have:=mk62t;refine zPi ?_;rw [jak h12 hz9,jaF h31 h36];unfold conf2;rw [qf (And.intro h48 h62)];rw [← hb];rfl)
 | (have:=mk36f;have:=mk62f;refine zPi ?_;rw [jak h12 hz9,jaF h31 h36];unfold conf2;rw [qe (fun h=>h62 h.2)];rw [← hb];rfl)
 | (have:=mk31f;have:=mk48f;refine zPi ?_;rw [jak h12 hz9,jaG h31];unfold conf2;rw [qe (fun h=>h48 h.1)];rw [← hb];rfl)
 | (have:=mk31f;have:=mk62t;refine zPi ?_;rw [jak h12 hz9,jaG h31];unfold conf2;rw [qf (And.intro h48 h62)];rw [← hb];rfl)
 | (have:=mk31f;have:=mk62f;refine zPi ?_;rw [jak h12 hz9,jaG h31];unfold conf2;rw [qe (fun h=>h62 h.2)];rw [← hb];rfl))))))
 ·(
 have h31:lB m.bal (confB m)=false:=by rw [← hb];exact hc
 have mk31f:True:=trivial
 iterate 9 refine zW ?_
 iterate 3 all_goals first | refine zW ?_ | refine xG ?_ ?_<;>intro hg
 all_goals first | (refine zY ?_;(refine jaq zRc (ja2 _ b) jaA rfl rfl ?_;rintro _ _ ⟨rfl,rfl⟩)) | refine zSk ?_ | (refine zG (fun hg=>?_) fun hg=>?_;case' _=>(refine jaq zRc (ja2 _ b) jaA rfl rfl ?_;rintro _ _ ⟨rfl,rfl⟩))
 all_goals refine zW ?_
 all_goals (
 refine xC ?_ ?_<;>intro hc
 ·(
 first
 | (exact xQ hc)
 | (have:=mk36t;have h9:cB b b=false:=hc;exact qo h9 (by rw [jbm];decide))
 |(
 first | (have:=mk36t;have h48:(0:Int)=0∧cB (confB m) (confB m)=true:=⟨rfl,jbm _⟩) | (have:=mk36f;have h48:m.low=0∧cB (confB m) (confB m)=true:=⟨qc (by first | with_reducible assumption | exact hg),jbm _⟩) | (have h48:m.low=0∧cB m.bal (confB m)=true:=⟨qc (by first | with_reducible assumption | exact hg),by rw [← hb];exact hc⟩)
 have mk48t:True:=trivial
 iterate 11 refine zW ?_
 first | (have:=mk31t;(refine jaa zRc (jcw b.v b.n m.prep m.prime) rfl rfl ?_)) | (refine jaa zRc (jcw b.v m.bal.n m.prep m.prime) rfl rfl ?_)
 refine xC ?_ ?_<;>intro hc
 ·(
 first | (have:=mk31t;have h62:lowestV (confB m).v (confB m).n m.prep m.prime≤(confB m).n:=(by rw [← hb];exact qc hc)) | (have h62:lowestV (confB m).v m.bal.n m.prep m.prime≤(confB m).n:=(by rw [← hb];exact qc hc))
 have mk62t:True:=trivial
 iterate 13 refine zW ?_
 first
 | (have:=mk36t;have:=mk62t;refine zPi ?_;rw [jak h12 hz9,jba h31 h36];unfold conf2;rw [qf (And.intro h48 h62)];rw [← hb];rfl)
 | (have:=mk36t;have:=mk62f;refine zPi ?_;rw [jak h12 hz9,jba h31 h36];unfold conf2;rw [qe (fun h=>h62 h.2)];rw [← hb];rfl)
 | (have:=mk36f;have:=mk48f;refine zPi ?_;rw [jak h12 hz9,jaF h31 h36];unfold conf2;rw [qe (fun h=>h48 h.1)];rw [← hb];rfl)
 | (have:=mk36f;have:=mk62t;refine zPi ?_;rw [jak h12 hz9,jaF h31 h36];unfold conf2;rw [qf (And.intro h48 h62)];rw [← hb];rfl)
 | (have:=mk36f;have:=mk62f;refine zPi ?_;rw [jak h12 hz9,jaF h31 h36];unfold conf2;rw [qe (fun h=>h62 h.2)];rw [← hb];rfl)
 | (have:=mk31f;have:=mk48f;refine zPi ?_;rw [jak h12 hz9,jaG h31];unfold conf2;rw [qe (fun h=>h48 h.1)];rw [← hb];rfl)
 | (have:=mk31f;have:=mk62t;refine zPi ?_;rw [jak h12 hz9,jaG h31];unfold conf2;rw [qf (And.intro h48 h62)];rw [← hb];rfl)
 | (have:=mk31f;have:=mk62f;refine zPi ?_;rw [jak h12 hz9,jaG h31];unfold conf2;rw [qe (fun h=>h62 h.2)];rw [← hb];rfl))
 ·(
 first | (have:=mk31t;have h62:¬ lowestV (confB m).v (confB m).n m.prep m.prime≤(confB m).n:=(by rw [← hb];exact qd hc)) | (have h62:¬ lowestV (confB m).v m.bal.n m.prep m.prime≤(confB m).n:=(by rw [← hb];exact qd hc))
 have mk62f:True:=trivial
 iterate 9 refine zW ?_
 first
 | (have:=mk36t;have:=mk62t;refine zPi ?_;rw [jak h12 hz9,jba h31 h36];unfold conf2;rw [qf (And.intro h48 h62)];rw [← hb];rfl)
 | (have:=mk36t;have:=mk62f;refine zPi ?_;rw [jak h12 hz9,jba h31 h36];unfold conf2;rw [qe (fun h=>h62 h.2)];rw [← hb];rfl)
 | (have:=mk36f;have:=mk48f;refine zPi ?_;rw [jak h12 hz9,jaF h31 h36];unfold conf2;rw [qe (fun h=>h48 h.1)];rw [← hb];rfl)
 | (have:=mk36f;have:=mk62t;refine zPi ?_;rw [jak h12 hz9,jaF h31 h36];unfold conf2;rw [qf (And.intro h48 h62)];rw [← hb];rfl)
 | (have:=mk36f;have:=mk62f;refine zPi ?_;rw [jak h12 hz9,jaF h31 h36];unfold conf2;rw [qe (fun h=>h62 h.2)];rw [← hb];rfl)
 | (have:=mk31f;have:=mk48f;refine zPi ?_;rw [jak h12 hz9,jaG h31];unfold conf2;rw [qe (fun h=>h48 h.1)];rw [← hb];rfl)
 | (have:=mk31f;have:=mk62t;refine zPi ?_;rw [jak h12 hz9,jaG h31];unfold conf2;rw [qf (And.intro h48 h62)];rw [← hb];rfl)
 | (have:=mk31f;have:=mk62f;refine zPi ?_;rw [jak h12 hz9,jaG h31];unfold conf2;rw [qe (fun h=>h62 h.2)];rw [← hb];rfl))))
 ·(
 first
 | (exact xQ hc)
 | (have:=mk36t;have h9:cB b b=false:=hc;exact qo h9 (by rw [jbm];decide))
 |(
 first | (have:=mk36f;have h48:¬ (m.low=0∧cB (confB m) (confB m)=true):=(by first | (have h8:¬ m.low=0:=qd hg;exact fun h=>h8 h.1) | (exact qo (hc.symm.trans (jbm b)) (by decide)))) | (have h48:¬ (m.low=0∧cB m.bal (confB m)=true):=(by first | (have h8:¬ m.low=0:=qd hg;exact fun h=>h8 h.1) | (have h8:cB m.bal b=false:=hc;rw [← hb,h8];exact fun h=>by cases h.2)))
 have mk48f:True:=trivial
 iterate 9 refine zW ?_
 first
 | (have:=mk36t;have:=mk62t;refine zPi ?_;rw [jak h12 hz9,jba h31 h36];unfold conf2;rw [qf (And.intro h48 h62)];rw [← hb];rfl)
 | (have:=mk36t;have:=mk62f;refine zPi ?_;rw [jak h12 hz9,jba h31 h36];unfold conf2;rw [qe (fun h=>h62 h.2)];rw [← hb];rfl)
 | (have:=mk36f;have:=mk48f;refine zPi ?_;rw [jak h12 hz9,jaF h31 h36];unfold conf2;rw [qe (fun h=>h48 h.1)];rw [← hb];rfl)
 | (have:=mk36f;have:=mk62t;refine zPi ?_;rw [jak h12 hz9,jaF h31 h36];unfold conf2;rw [qf (And.intro h48 h62)];rw [← hb];rfl)
 | (have:=mk36f;have:=mk62f;refine zPi ?_;rw [jak h12 hz9,jaF h31 h36];unfold conf2;rw [qe (fun h=>h62 h.2)];rw [← hb];rfl)
 | (have:=mk31f;have:=mk48f;refine zPi ?_;rw [jak h12 hz9,jaG h31];unfold conf2;rw [qe (fun h=>h48 h.1)];rw [← hb];rfl)
 | (have:=mk31f;have:=mk62t;refine zPi ?_;rw [jak h12 hz9,jaG h31];unfold conf2;rw [qf (And.intro h48 h62)];rw [← hb];rfl)
 | (have:=mk31f;have:=mk62f;refine zPi ?_;rw [jak h12 hz9,jaG h31];unfold conf2;rw [qe (fun h=>h62 h.2)];rw [← hb];rfl))))))))))
theorem jl5 (m:Mach) (hI:InvM m):C0 247 [mcv m] (mcv (finM m)):=by
 refine xI Tryz.func247 Tryz.call247 fun hcap=>?_
 have hsz1:=hI.sz
 have hhl:=hI.hl
 have hhs:∀ e∈m.heard,sizeT e.t≤200000:=fun e he=>by have:=(hI.hs e he).1;omega
 have hal:(allM m).length≤100:=by have:=jgF m;omega
 have has9:∀ e∈allM m,sizeT e.t≤1000000000:=fun e he=>by have:=jdj (k:=200000) (by omega) hhs e he;omega
 have hbn:=hI.baln
 have hbn0:=hI.bal.n0
 have hlw:=hI.low
 have hhg:=hI.high
 have hmlen:(m.heard.map ev).length=m.heard.length:=by simp
 refine xX fun b1=>?_
 refine zAl fun b2=>?_
 refine xC ?_ ?_<;>intro hc
 ·(
 have hp2:¬ m.phase=2:=jaf hc
 refine xP ?_;unfold finM;rw [qf hp2];rfl)
 ·(
 have hp2:m.phase=2:=jae hc
 iterate 3 refine zW ?_
 refine zDr [] ?_
 refine zT 0 ?_;refine zT 1 ?_;refine zT 2 ?_;refine zT 3 ?_;refine zT 4 ?_;refine zT 6 ?_;refine zT 7 ?_;refine zT 8 ?_;refine zOn 5 ?_
 refine xA (ja7 m (by omega)) ?_
 refine zW ?_
 refine zOn 9 ?_
 refine xB (jn5 m.node m.t (allM m) hal has9 m.bal.v) ?_;rintro _ _ ⟨rfl,rfl⟩;obtain ⟨f,hf⟩:∃ f,f=finF m:=⟨_,rfl⟩;rw [show finalB m.node m.t (allM m) m.bal.v=f from hf.symm]
 refine zW ?_
 refine zT 10 ?_;refine zT 11 ?_;refine zT 12 ?_;refine zT 13 ?_;refine zT 14 ?_;refine zT 15 ?_;refine zT 16 ?_
 refine zW ?_
 all_goals (
 refine xC ?_ ?_<;>intro hc
 ·(
 have hfo:(finF m).2.2=false:=by rw [← hf];exact jau hc
 refine xP ?_;unfold finM;rw [qe (fun h=>h hp2),qe (by rw [hfo];decide)];rfl)
 ·(
 have hfo:(finF m).2.2=true:=by rw [← hf];exact jat hc
 refine xP ?_;unfold finM;rw [qe (fun h=>h hp2),qf hfo,← hf];rfl)))
theorem jlW (m:Mach) (hI:InvM m):C0 248 [mcv m] (mcv (cauM m)):=by
 have hcap:=jbu
 have hsz1:=hI.sz
 have hhl:=hI.hl
 have hhs:∀ e∈m.heard,sizeT e.t≤200000:=fun e he=>by have:=(hI.hs e he).1;omega
 have hal:(allM m).length≤100:=by have:=jgF m;omega
 have has9:∀ e∈allM m,sizeT e.t≤1000000000:=fun e he=>by have:=jdj (k:=200000) (by omega) hhs e he;omega
 have hbn:=hI.baln
 have hbn0:=hI.bal.n0
 have hlw:=hI.low
 have hhg:=hI.high
 have hmlen:(m.heard.map ev).length=m.heard.length:=by simp
 obtain ⟨bb,hbb⟩:∃ b,b=bestGo m m.heard 1000000:=⟨_,rfl⟩
 have hbb0:0≤bb:=by rw [hbb];exact jgV hbn0 m.heard 1000000 (by omega)
 refine jar Tryz.func248 rfl Tryz.call248 rfl ?_
 refine xX fun b1=>?_
 refine zAl fun b2=>?_
 iterate 9 refine zW ?_
 iterate 4 all_goals first | refine zW ?_ | refine xG ?_ ?_<;>intro hg
 all_goals first | (refine zY ?_;refine jaa zRc (jic m (by omega) (by omega) hhs m.bal.n) rfl rfl ?_) | refine zSk ?_
 iterate 2 all_goals refine zW ?_
 all_goals (
 refine xC ?_ ?_<;>intro hc
 ·(
 first
 | (exact xQ hc)
 |(
 have h18:m.phase=3∨aheadV m m.bal.n=false:=by first | exact .inl (qc (by first | with_reducible assumption | exact hg)) | exact .inr (jau hc)
 refine xP ?_;unfold cauM;rw [qf h18];rfl))
 ·(
 first
 | (exact xQ hc)
 |(
 have hp3:¬ m.phase=3:=qd (by first | with_reducible assumption | exact hg)
 have h18:¬ (m.phase=3∨aheadV m m.bal.n=false):=by rw [jat hc];rintro (h | h);exact hp3 h;cases h
 refine xN fun _=>?_
 iterate 4 refine zW ?_
 refine jag [1,2,21,22] [.box b2 _ _,.box b1 _ _] (fun (k:Nat) (best:Int) r=>(3,.i best)::(23,.i (k:Int))::r) (fun k best r=>r) (fun k best=>k≤m.heard.length∧bestGo m (m.heard.drop k) best=bb) (fun k best=>m.heard.length - k) (0) (1000000) zRc ⟨by omega,by rw [hbb];rfl⟩ (zWk) ?_
 intro k best ⟨hk,hJ⟩
 refine xC ?_ ?_<;>intro hc
 ·(
 have hlt:=qc hc
 obtain ⟨x,hx,hd⟩:=jab (l:=m.heard) (k:=k) (by omega)
 have hx':=jad ev hx
 have hxs:=hhs x (qj hx)
 refine xL fun b5=>?_
 refine xA (jdn x (by omega)) ?_
 iterate 11 refine zW ?_
 iterate 7 all_goals first | refine zW ?_ | refine xG ?_ ?_<;>intro hg
 all_goals first | (refine zY ?_;refine jaa zRc (jic m (by omega) (by omega) hhs (cntR x)) rfl rfl ?_) | refine zSk ?_
 iterate 2 all_goals refine zW ?_
 all_goals (
 refine xC ?_ ?_<;>intro hc
 ·(
 first
 | (exact xQ hc)
 |(
 have h44:(decide (cntR x>m.bal.n)&&(decide (cntR x<best)&&!aheadV m (cntR x)))=true:=by first | (simp_all;done) | grind
 have mk44t:True:=trivial
 iterate 11 refine zW ?_
 rw [hd,bestGo] at hJ
 rw [qf h44] at hJ;refine ⟨k+1,cntR x,⟨by omega,hJ⟩,by omega,zWk⟩))
 ·(
 first
 | (exact xQ hc)
 |(
 have h44:(decide (cntR x>m.bal.n)&&(decide (cntR x<best)&&!aheadV m (cntR x)))=false:=by first | (simp_all;done) | grind
 have mk44f:True:=trivial
 iterate 8 refine zW ?_
 rw [hd,bestGo] at hJ
 first
 | (have:=mk44t;rw [qf h44] at hJ;refine ⟨k+1,cntR x,⟨by omega,hJ⟩,by omega,zWk⟩)
 | (have:=mk44f;rw [qe (by rw [h44];decide)] at hJ;refine ⟨k+1,best,⟨by omega,hJ⟩,by omega,zWk⟩)))))
 ·(
 have hge:=qd hc
 rw [jac (by omega),bestGo] at hJ
 subst hJ
 refine xC ?_ ?_<;>intro hc
 ·(
 have hp1:m.phase=1:=qc hc
 have hcv:cauV m=valM m:=qf hp1
 refine xA (jeI m (by omega)) ?_
 refine xC ?_ ?_<;>intro hc
 ·(
 have hve:=jpv hc
 refine xP ?_;unfold cauM;rw [qe h18,qe (by rw [hcv];exact hve),hcv,← hbb];rfl)
 ·(
 have hve:=jrU hc
 refine xP ?_;unfold cauM;rw [qe h18,qf (by rw [hcv];exact hve),hcv,← hbb];rfl))
 ·(
 have hp1:¬ m.phase=1:=qd hc
 have hcv:cauV m=m.bal.v:=qe hp1
 refine xC ?_ ?_<;>intro hc
 ·(
 have hve:=jpv hc
 iterate 26 refine zW ?_
 exact qo rfl hve)
 ·(
 have hve:=jrU hc
 refine xP ?_;unfold cauM;rw [qe h18,qf hcv,hcv,← hbb];rfl))))))
theorem jyd {sv:Str} {lo hi:Int} (h1:m.phase=1) (hb:(sv,lo,hi,false)=comF m):comM m=m:=by unfold comM;rw [qf h1,← hb];rfl
theorem jkI {sv:Str} {lo hi:Int} {p:Bal} (h1:m.phase=1) (hb:(sv,lo,hi,true)=comF m) (hbal:(if (!cB m.bal ⟨hi,sv⟩||lB m.bal ⟨hi,sv⟩)=true then (⟨max m.bal.n hi,sv⟩:Bal) else m.bal)=b) (hp:(if covB m.prep ⟨hi,sv⟩=true then m.prep else (⟨hi,sv⟩:Bal))=p) :
 comM m={ m with bal:=b,prep:=p,phase:=2,low:=lo,high:=hi,conf:=⟨hi,sv⟩,prime:=Bal.none }:=by
 unfold comM comB
 rw [qf h1,← hb,qf rfl,← hbal,← hp]
theorem jxA {r k:Int} (h1:m.phase=2) (hb:(r,k)=comX m):comM m={ m with low:=r,high:=k,bal:=⟨max m.bal.n k,m.bal.v⟩,conf:=⟨max m.conf.n k,m.bal.v⟩,prep:=⟨max m.prep.n k,m.prep.v⟩ }:=by
 unfold comM
 rw [qe (by omega),qf h1,← hb]
theorem jsf (h1:¬ m.phase=1) (h2:¬ m.phase=2):comM m=m:=by unfold comM;rw [qe h1,qe h2]
end Go.Proofs.YtgmpjpaekpefdaaGreat
