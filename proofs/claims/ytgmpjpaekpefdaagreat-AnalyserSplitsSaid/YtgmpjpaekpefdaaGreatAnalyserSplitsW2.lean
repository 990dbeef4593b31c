
import Derived.Test.YtgmpjpaekpefdaaGreatAnalyserSplitsW1
import Derived.Test.YtgmpjpaekpefdaaGreatProg
import Derived.KernelRfl
import Derived.Tactics
import Derived.Tactics2
import Derived.StillTactics
set_option linter.unusedVariables false
set_option linter.unusedSimpArgs false
set_option maxRecDepth 4000
set_option maxHeartbeats 2000000
namespace Go.Proofs.YtgmpjpaekpefdaaGreat
open Go Go.Av Go.Tq
variable{n k:Nat}{m:Mem}{c:List Mem}{t:Trust}{s:Int}
theorem jfu(t:Trust)(ht:sizeT t<=1000000000)(v slot round:Int):C0 283 [av t,.i v,.i slot,.i round] (.i (askedV t v slot round)):=by
 refine xI Tryz.func283 Tryz.call283 λhcap=>?_;refine xX λb4=>?_;refine xA (jaI t ht) ?_;refine xC ?_ ?_<;>intro hc
 ·(
 have hv:=jaf hc;iterate 8 refine zW ?_
 refine jaq (.tmp rfl .nil) .nil ?_
 unfold askedV;rw[qe hv];rfl)
 ·(
 have hv:=jac hc;iterate 8 refine zW ?_
 iterate 3 all_goals first | refine zW ?_ | refine xG ?_ ?_<;>intro hg
 all_goals (
 refine xC ?_ ?_<;>intro hc
 ·(
 first
 | (exact xQ hc)
 |(
 iterate 7 refine zW ?_
 refine jaq (.tmp rfl .nil) .nil ?_
 unfold askedV;rw[qf hv,qf (by first | (have:=qc (show decide (v<0)=true by with_reducible assumption);omega) | (have:=qc (show decide (10<=v)=true by with_reducible assumption);omega))];rfl))
 ·(
 first
 | (exact xQ hc)
 |(
 iterate 8 refine zW ?_
 iterate 11 all_goals first | refine zW ?_ | refine xG ?_ ?_<;>intro hg
 all_goals (
 refine xC ?_ ?_<;>intro hc
 ·(
 first
 | (exact xQ hc)
 |(
 iterate 7 refine zW ?_
 refine jaq (.tmp rfl .nil) .nil ?_;have hv1:=qd (show decide (v<0)=false by with_reducible assumption);have hv2:=qd (show decide (10<=v)=false by with_reducible assumption)
 unfold askedV;rw[qf hv,qe zo,qf (by first | (have:=qc (show decide (slot<0)=true by with_reducible assumption);omega) | (have:=qc (show decide (1000000<slot)=true by with_reducible assumption);omega) | (have:=qc (show decide (round<1)=true by with_reducible assumption);omega) | (have:=qc (show decide (1000<round)=true by with_reducible assumption);omega))];rfl))
 ·(
 first
 | (exact xQ hc)
 |(
 iterate 8 refine zW ?_
 refine jaq (.tmp rfl .nil) .nil ?_;have hv1:=qd (show decide (v<0)=false by with_reducible assumption);have hv2:=qd (show decide (10<=v)=false by with_reducible assumption);have hv3:=qd (show decide (slot<0)=false by with_reducible assumption);have hv4:=qd (show decide (1000000<slot)=false by with_reducible assumption);have hv5:=qd (show decide (round<1)=false by with_reducible assumption);have hv6:=qd (show decide (1000<round)=false by with_reducible assumption)
 unfold askedV;rw[qf hv,qe zo,qe zo];rfl)))))))
theorem jgt(v:Int):∀(t:Trust),checkT t=0->sizeT t<=200->depthT t<=4->Con none Tryz.prog 290 [av t,.i v] [] (Is (wRes (weight v t)) []):=by
 have hcap:=jbK;intro t
 induction t using Trust.ind with
 | _ t ih =>
  intro hck hsz hdp;have hl1:(t.nodes.map D.i).length=t.nodes.length:=by simp
  have hl2:=jaQ t.inner;have hs0:sizeT t=t.nodes.length+t.inner.length+sizeL t.inner:=rfl;have hlo:=(jhy hck).lo;have hhi:=(jhy hck).hi;refine jar Tryz.func290 rfl Tryz.call290 rfl ?_;refine xX λb2=>?_;refine zAl λb4=>?_;refine xN λ_=>?_;refine xN λ_=>?_;refine xN λ_=>?_;iterate 4 refine zW ?_
  refine jah [1,2,4,6,21,22] [.box b2 _ _,.box b4 _ _] (λ(k:Nat) r=>(23,.i (k:Int))::r) (λk r=>r) (λk=>k<=t.nodes.length/\(t.nodes.drop k).contains v=t.nodes.contains v) (λk=>t.nodes.length - k) (0) zRc ⟨by omega,by simp⟩ (zWk) ?_;intro k ⟨hk,hI⟩;refine xC ?_ ?_<;>intro hc
  ·have hlt:k<t.nodes.length:=by have:=qc hc;omega
   obtain⟨x,hx,hd⟩:=jab hlt;have hx':=jad D.i hx;refine xC ?_ ?_<;>intro hc
   ·refine xP ?_
    have e:=qc hc;rw[hd,List.contains_cons,e,beq_self_eq_true,Bool.true_or] at hI;unfold weight;rw[qf hI.symm,<-hl1,<-hl2];rfl
   ·iterate 8 refine zW ?_
    have e:=qd hc;rw[hd,List.contains_cons,beq_false_of_ne (λh=>e h.symm),Bool.false_or] at hI;refine⟨k+1,⟨by omega,hI⟩,by omega,zWk⟩
  ·have hge:t.nodes.length<=k:=by have:=qd hc;omega
   rw[jae hge] at hI;have hcon:t.nodes.contains v=false:=hI.symm;refine xN λ_=>?_;iterate 4 refine zW ?_
   refine jah [1,2,4,6,36,37] [.box b2 _ _,.box b4 _ _] (λ(k:Nat) r=>(38,.i (k:Int))::r) (λk r=>r) (λk=>k<=t.inner.length/\weightL v (t.inner.drop k)=weightL v t.inner) (λk=>t.inner.length - k) (0) zRc ⟨by omega,by simp⟩ (zWk) ?_;intro k ⟨hk,hI⟩;refine xC ?_ ?_<;>intro hc
   ·have hlt:k<t.inner.length:=by have:=qc hc;omega
    obtain⟨x,hx,hd⟩:=jab hlt;have hx':=jbo hx;have hxm:=qk hx;refine xL λb10=>?_;iterate 4 refine zW ?_
    have hcx:=(jhy hck).inner x hxm;have hsx:=jiX hxm;have hdx:=jhl hxm;rcases hw:weight v x with _ | ⟨w1,w2⟩
    all_goals (
     refine xA ((by first | exact jwc (ih x hxm hcx zo zo) hw | exact jwh (ih x hxm hcx zo zo) hw)) ?_;refine xL λb11=>?_;refine xC ?_ ?_<;>intro hc
     ·first
      | (exact xQ hc)
      | (refine zW ?_
         obtain⟨b1,b2,b3⟩:=jpP hcx zo zo hw;obtain⟨p1,p2,p3⟩:=jwj hlo hhi (show ((t.nodes.length:Int)+t.inner.length)<=200 by omega) b1 b2 b3;simp only[hl1,hl2];refine xP ?_;rw[hd,jdn,hw] at hI;unfold weight;rw[qe (by rw[hcon];decide),<-hI];rfl
       )
     ·first
      | (exact xQ hc)
      | (iterate 8 refine zW ?_
         rw[hd,jdn,hw] at hI;refine⟨k+1,⟨by omega,hI⟩,by omega,zWk⟩
       )
     )
   ·have hge:t.inner.length<=k:=by have:=qd hc;omega
    rw[jae hge] at hI;simp only[weightL] at hI;refine xP ?_;unfold weight;rw[qe (by rw[hcon];decide),<-hI];rfl
theorem js9(t:Trust)(ht:sizeT t<=1000000000)(v slot round node:Int):C0 284 [av t,.i v,.i slot,.i round,.i node] (.b (nbrV t v slot round node)):=by
 refine xI Tryz.func284 Tryz.call284 λhcap=>?_;refine xX λb5=>?_;refine xA (jfu t ht v slot round) ?_;iterate 2 refine zW ?_
 iterate 7 all_goals first | refine zW ?_ | refine xG ?_ ?_<;>intro hg
 all_goals (
 refine xC ?_ ?_<;>intro hc
 ·(
 first
 | (exact xQ hc)
 |(
 iterate 7 refine zW ?_
 refine jaq (.tmp rfl .nil) .nil ?_;unfold nbrV
 first
 | (rw[qz (jaf (show (!decide (askedV t v slot round=0))=true by with_reducible assumption)),qy];rfl)
 | (have:=qc (show decide (node<0)=true by with_reducible assumption);rw[qz (p:=0<=node) zo,qy,qB];rfl)
 | (have:=qc (show decide (10<=node)=true by with_reducible assumption);rw[qz (p:=node<10) zo,qy,qB,qB];rfl)))
 ·(
 first
 | (exact xQ hc)
 |(
 have hk:=jac (show (!decide (askedV t v slot round=0))=false by with_reducible assumption);have hn1:=qd (show decide (node<0)=false by with_reducible assumption);have hn2:=qd (show decide (10<=node)=false by with_reducible assumption);have hv:=(jcg hk).1;iterate 3 refine zW ?_
 rcases hw:weight node t with _ | ⟨w1,w2⟩
 all_goals (
 refine xA ((by first | exact jwc (jgt node t (jaV hv).1 (jaV hv).2.1 (jaV hv).2.2) hw | exact jwh (jgt node t (jaV hv).1 (jaV hv).2.1 (jaV hv).2.2) hw)) ?_;refine xL λb11=>?_;iterate 5 refine zW ?_
 have hhb:=jrV 1 slot round node
 try have hwb:=jp8 hv hw
 try have hhm:=jur hhb (show 0<=w2/\w2<=1600000000 by omega)
 refine zDr [] ?_;refine zT 0 ?_;refine zT 1 ?_;refine zT 2 ?_;refine zT 3 ?_;refine jai 3 rfl (λhg=>?_) λhg=>?_
 rotate_left
 case' _ =>(
 first
 | (exact xQ hg)
 | (exfalso;simp at hg;done)
 |(
 refine zT 4 ?_;refine zT 5 ?_;refine jai 5 rfl (λhg=>?_) λhg=>?_
 rotate_left
 case' _ =>(
 first
 | (exact xQ hg)
 |(
 refine zK 6 ?_;refine zK 7 ?_;refine zK 8 ?_;refine zK 9 ?_;refine zK 10 ?_;refine zK 11 ?_;refine zK 12 ?_;refine zK 13 ?_;refine zK 14 ?_;refine zK 15 ?_;refine zK 16 ?_;refine zK 17 ?_;refine zT 18 ?_;refine zT 19 ?_;refine zT 20 ?_
 refine zW ?_))
 rotate_right
 case' _ =>(
 first
 | (exact xQ hg)
 |(
 refine zT 6 ?_;refine zT 7 ?_;refine zT 8 ?_;refine zT 11 ?_;refine zT 12 ?_;refine zT 14 ?_;refine zT 15 ?_;refine jam 16 rfl zGd zKr zKr zKr (AP.ar (jjH (m:=32) rfl rfl zd)) rfl rfl ?_;refine zOn 9 ?_;refine xA (jgW _ _ _ _) ?_;refine zW ?_;refine jam 10 rfl zGd zKr zKr zKr (AP.ar (jkk rfl rfl rfl zo)) rfl rfl ?_;refine zT 13 ?_;refine zT 17 ?_;refine zT 18 ?_;refine zT 19 ?_;refine zT 20 ?_
 refine zW ?_))))
 rotate_right
 case' _ =>(
 first
 | (exact xQ hg)
 | (exfalso;simp at hg;done)
 |(
 refine zK 4 ?_;refine zKu 5 ?_;refine zK 6 ?_;refine zK 7 ?_;refine zK 8 ?_;refine zK 9 ?_;refine zK 10 ?_;refine zK 11 ?_;refine zK 12 ?_;refine zK 13 ?_;refine zK 14 ?_;refine zK 15 ?_;refine zK 16 ?_;refine zK 17 ?_;refine zK 18 ?_;refine zT 19 ?_;refine zT 20 ?_
 refine zW ?_))
 all_goals (
 iterate 2 refine zW ?_
 refine jaq (.tmp rfl .nil) .nil ?_;unfold nbrV;rw[qg hk,qg (p:=0<=node) zo,qg (p:=node<10) zo,qx,qx,qx]
 first
 | (rw[qc (show decide (node=v)=true by with_reducible assumption),jjN];rfl)
 | (have he:=qd (show decide (node=v)=false by with_reducible assumption);first | (rw[jtP hw he];rfl) | (unfold nbr;rw[hw,qz he,Bool.false_or];exact congrArg D.b (jvC hwb))))))))
theorem jlH(t:Trust)(v slot round:Int)(h:askedV t v slot round=0):C0 270 [av t,.i v,.i slot,.i round] (.tup [.i (chooseV t v slot round),.i 0]):=by
 have hcap:=jbK;have ha:=jcg h;have hsz:=(jaV ha.1).2.1;obtain⟨v0,rfl⟩:=qD ha.2.1;refine jar Tryz.func270 rfl Tryz.call270 rfl ?_;refine xX λb4=>?_;refine xA ((by have h1:=jfu t zo v0 slot round;rw[h] at h1;exact h1)) ?_;iterate 9 refine zW ?_
 refine jan rfl jcm ?_;iterate 15 refine zW ?_
 refine jag [1,2,3,4] [.box b4 _ _] (λ(k:Nat)(b:Nat) r=>(11,.i (b:Int))::(12,.i (k:Int))::r) (λk b r=>r) (λk b=>k<=10/\b<10/\nbr t v0 slot round b=true/\∀u:Nat,u<k->nbr t v0 slot round u=true->hashV 2 slot round u<=hashV 2 slot round b/\(hashV 2 slot round u=hashV 2 slot round b->u<=b)) (λk b=>10 - k) (0) (v0) zRc ⟨by omega,by omega,jjN _ _ _ _,λu hu=>by omega⟩ (zWk) ?_;intro k b ⟨hk,hb,hnb,hI⟩;refine xC ?_ ?_<;>intro hc
 ·(
 have hlt:=qc hc;refine xE ((by have h1:=js9 t zo v0 slot round k;rw[jwN h zo] at h1;exact h1)) λc33 hc33=>?_;refine xC ?_ ?_<;>intro hc
 ·(
 iterate 10 refine zW ?_
 refine⟨k+1,b,⟨by omega,hb,hnb,jko (λu=>hashV 2 slot round (u:Int)) (λu=>nbr t v0 slot round (u:Int)) hI (λh=>by have h2:=hc33.trans (jaw zO);exact Bool.noConfusion (h.symm.trans h2))⟩,by omega,zWk⟩)
 ·(
 refine xA (jgW _ _ _ _) ?_;refine xA (jgW _ _ _ _) ?_;iterate 5 refine zW ?_
 obtain⟨p,hp⟩:∃p,hashV 2 slot round (k:Int)=p:=⟨_,rfl⟩
 obtain⟨q,hq⟩:∃q,hashV 2 slot round (b:Int)=q:=⟨_,rfl⟩
 rw[hp,hq];iterate 5 refine zW ?_
 iterate 9 all_goals first | refine zW ?_ | refine xG ?_ ?_<;>intro hg
 all_goals (
 refine xC ?_ ?_<;>intro hc
 ·(
 first
 | (exact xQ hc)
 |(
 iterate 12 refine zW ?_
 refine⟨k+1,k,⟨by omega,by omega,hc33.trans (jav zO),jkC (λu=>hashV 2 slot round (u:Int)) (λu=>nbr t v0 slot round (u:Int)) hp hq hI (by first | exact .inl (qc (show decide (q<p)=true by with_reducible assumption)) | exact .inr ⟨qc (show decide (p=q)=true by with_reducible assumption),qc (show decide ((b:Int)<(k:Int))=true by with_reducible assumption)⟩)⟩,by omega,zWk⟩))
 ·(
 first
 | (exact xQ hc)
 |(
 iterate 9 refine zW ?_
 first
 | (refine⟨k+1,k,⟨by omega,by omega,hc33.trans (jav zO),jkC (λu=>hashV 2 slot round (u:Int)) (λu=>nbr t v0 slot round (u:Int)) hp hq hI (by first | exact .inl (qc (show decide (q<p)=true by with_reducible assumption)) | exact .inr ⟨qc (show decide (p=q)=true by with_reducible assumption),qc (show decide ((b:Int)<(k:Int))=true by with_reducible assumption)⟩)⟩,by omega,zWk⟩)
 | (refine⟨k+1,b,⟨by omega,hb,hnb,jqw (λu=>hashV 2 slot round (u:Int)) (λu=>nbr t v0 slot round (u:Int)) hp hq hI (qd (show decide (q<p)=false by with_reducible assumption)) (by first | exact .inl (qd (show decide (p=q)=false by with_reducible assumption)) | exact .inr (qd (show decide ((b:Int)<(k:Int))=false by with_reducible assumption)))⟩,by omega,zWk⟩))))))
 ·(
 have hge:=qd hc;obtain rfl:k=10:=by omega
 refine xP ?_
 rw[jjx zo hb hnb hI];rfl)
theorem jtx{v slot round e:Int}(ht:sizeT t<=1000000000)(h:askedV t v slot round=e):Con none Tryz.prog 283 [av t,.i v,.i slot,.i round] [] (Is (.i e) []):=by rw[<-h];exact jfu t ht v slot round
theorem jlO(t:Trust)(ht:sizeT t<=1000000000)(v slot round e:Int)(he:askedV t v slot round=e)(h0:¬e=0):C0 270 [av t,.i v,.i slot,.i round] (.tup [.i 0,.i e]):=by
 refine xI Tryz.func270 Tryz.call270 λhcap=>?_;refine xX λb4=>?_;refine xA (jtx ht he) ?_;iterate 9 refine zW ?_
 refine jbx rfl (by simp[h0]) ?_;refine xP ?_;exact rfl
theorem jjw(t:Trust)(ht:sizeT t<=1000000000)(v slot round e:Int)(he:askedV t v slot round=e)(h0:¬e=0):C0 254 [av t,.i v,.i slot,.i round] (.tup [.i 0,.i e]):=by
 refine xI Tryz.func254 Tryz.call254 λhcap=>?_;refine xX λb4=>?_;refine xA (jlO t ht v slot round e he h0) ?_;iterate 13 refine zW ?_
 refine jbx rfl (by simp[h0]) ?_;refine xP ?_;exact rfl
theorem jiN{v slot round:Int}{b:Nat}(h:askedV t v slot round=0)(hb:chooseV t v slot round=b):Con none Tryz.prog 270 [av t,.i v,.i slot,.i round] [] (Is (.tup [.i b,.i 0]) []):=by rw[<-hb];exact jlH t v slot round h
theorem jjV(t:Trust)(v slot:Int)(n:Nat)(h:askedV t v slot n=0):C0 254 [av t,.i v,.i slot,.i n] (.tup [.i (leadersTo t v slot n:Int),.i 0]):=by
 have hcap:=jbK;have ha:=jcg h;have hsz:=(jaV ha.1).2.1;obtain⟨c0,hc0,hcv0,_,_⟩:=jcX (t:=t) (v:=v) (slot:=slot) (round:=(n:Int)) ⟨ha.2.1,ha.2.2.1⟩;refine jar Tryz.func254 rfl Tryz.call254 rfl ?_;refine xX λb4=>?_;refine xA (jiN h hcv0) ?_;iterate 13 refine zW ?_
 refine jan rfl jcm ?_;iterate 14 refine zW ?_
 refine jah [1,2,3,4] [.box b4 _ _] (λ(k:Nat) r=>(12,.i (leadersTo t v slot k:Int))::(13,.i ((k+1:Nat):Int))::r) (λk r=>r) (λk=>k<=n) (λk=>n - k) (0) zRc zo (zWk) ?_;intro k hk;refine xC ?_ ?_<;>intro hc
 ·(
 have hlt:=qc hc;obtain⟨cb,hcb,hcv,_,_⟩:=jcX (t:=t) (v:=v) (slot:=slot) (round:=((k+1:Nat):Int)) ⟨ha.2.1,ha.2.2.1⟩;have hp:=jaL hcb;have hls:=jit (t:=t) (slot:=slot) ⟨ha.2.1,ha.2.2.1⟩ k;refine xA (jiN (jmb h zo zo) hcv) ?_;refine xE (jb6 _ _) λc42 hc42=>?_;refine xC ?_ ?_<;>intro hc
 ·(
 iterate 3 refine zW ?_
 refine zP (jaZ (p:=1) rfl rfl rfl zo zo) ?_;iterate 11 refine zW ?_
 rw[<-jfI hcv];refine⟨k+1,by omega,by omega,zWk⟩)
 ·(
 iterate 9 refine zW ?_
 have e:leadersTo t v slot (k+1)=leadersTo t v slot k:=(by rw[jfI hcv];exact jx4 (by have h5:=((jaX hls).1 (hc42.trans (jav hc))).2.2;rwa [qq] at h5));refine⟨k+1,by omega,by omega,?_⟩;rw[e];exact(zWk)))
 ·(
 have hge:=qd hc;obtain rfl:k=n:=by omega
 refine xP ?_;exact rfl)
theorem jjf(t:Trust)(ht:sizeT t<=1000000000)(v slot round:Int):C0 254 [av t,.i v,.i slot,.i round] (.tup [.i (leadersR t v slot round).1,.i (leadersR t v slot round).2]):=by
 unfold leadersR
 by_cases h:askedV t v slot round=0
 ·(
 rw[qf h];obtain⟨n,rfl⟩:=qD (show 0<=round by have:=jcg h;omega);rw[qq]
 exact jjV t v slot n h)
 ·rw[qe h];exact jjw t ht v slot round _ rfl h
def blankT(t:Trust):Bool:=decide (t.th=0)&&(decide (t.nodes.length=0)&&decide (t.inner.length=0))
theorem jsF{b:Bool}(h:m.decl=false)(hb:blankT m.t=b):memV m n=if b=true then 0 else 1:=by
 unfold memV;rw[h,<-hb];unfold blankT;simp[and_assoc]
theorem jte(t:Trust):C0 150 [av t] (.b (blankT t)):=by
 refine xI Tryz.func150 Tryz.call150 λhcap=>?_;have hl1:(t.nodes.map D.i).length=t.nodes.length:=by simp
 have hl2:=jaQ t.inner;refine xX λb1=>?_;iterate 9 refine zW ?_
 iterate 2 all_goals first | refine zW ?_ | refine xG ?_ ?_<;>intro hg
 all_goals first | (refine zY ?_;(first | refine zLn λ_=>?_ | refine zW ?_)) | refine zSk ?_
 all_goals first | (refine zY ?_;(rw[hl1];refine zW ?_)) | refine zSk ?_
 iterate 4 all_goals first | refine zW ?_ | refine xG ?_ ?_<;>intro hg
 all_goals first | (refine zY ?_;(first | refine zLn λ_=>?_ | refine zW ?_)) | refine zSk ?_
 all_goals first | (refine zY ?_;(rw[hl2];refine zW ?_)) | refine zSk ?_
 iterate 2 all_goals refine zW ?_
 all_goals (
 refine xP ?_;unfold blankT
 simp_all[resD];done)
theorem jp4(m:Mem)(hm:sizeT m.t<=1000000000)(n:Nat)(hn:n<=10):C0 116 [mv m,.i n] (.i (memV m n)):=by
 refine xI Tryz.func116 Tryz.call116 λhcap=>?_;have hp10:=jaC hn;have hul:=jfv m.t;refine xX λb2=>?_;refine xC ?_ ?_<;>intro hc
 ·(
 have hdl:m.decl=false:=jaw hc;refine xE (jte m.t) λc11 hc11=>?_;refine xC ?_ ?_<;>intro hc
 ·(
 iterate 8 refine zW ?_
 refine jaq (.tmp rfl .nil) .nil ?_
 rw[jsF hdl (hc11.trans (jaw hc))];rfl)
 ·(
 iterate 9 refine zW ?_
 refine jaq (.tmp rfl .nil) .nil ?_
 rw[jsF hdl (hc11.trans (jav hc))];rfl))
 ·(
 have hdl:m.decl=true:=jav hc;refine xA (jpm m.t hm) ?_;refine xC ?_ ?_<;>intro hc
 ·(
 have hv:=jaf hc;iterate 8 refine zW ?_
 refine jaq (.tmp rfl .nil) .nil ?_
 unfold memV;rw[qf hdl,qe hv];rfl)
 ·(
 have hv:=jac hc;iterate 4 refine zW ?_
 refine zDr [] ?_;refine zT 0 ?_;refine zT 1 ?_;refine zT 3 ?_;refine jam 4 rfl zGd zKr zKr zKr (AP.ar (jaZ (p:=1) rfl rfl rfl zo zo)) rfl rfl ?_;refine zOn 2 ?_;refine xA (juf m.t) ?_;refine zW ?_;refine zT 5 ?_;refine zW ?_
 all_goals (
 refine xC ?_ ?_<;>intro hc
 ·(
 have hge:=qc hc;iterate 7 refine zW ?_
 refine jaq (.tmp rfl .nil) .nil ?_
 unfold memV;rw[qf hdl,qf hv,qf zo];rfl)
 ·(
 have hge:=qd hc;iterate 8 refine zW ?_
 refine jaq (.tmp rfl .nil) .nil ?_
 unfold memV;rw[qf hdl,qf hv,qe zo];rfl))))
theorem jiC(c:List Mem)(hs:∀m∈c,sizeT m.t<=1000000000):C0 70 [cv c] (.i (validC c)):=by
 refine xI Tryz.func70 Tryz.call70 λhcap=>?_;have hml:(c.map mv).length=c.length:=by simp
 refine xX λb1=>?_;refine xN λ_=>?_;refine xC ?_ ?_<;>intro hc
 ·(
 have hlen:=qc hc;iterate 7 refine zW ?_
 refine jaq (.tmp rfl .nil) .nil ?_
 unfold validC;rw[qf zo];rfl)
 ·(
 have hlen:=qd hc;refine xN λ_=>?_;iterate 4 refine zW ?_
 refine jah [1,11,12] [.box b1 _ _] (λ(k:Nat) r=>(13,.i (k:Int))::r) (λk r=>r) (λk=>k<=c.length/\memsV c.length (c.drop k)=memsV c.length c) (λk=>c.length - k) (0) zRc ⟨by omega,by simp⟩ (zWk) ?_;intro k ⟨hk,hI⟩;refine xC ?_ ?_<;>intro hc
 ·(
 have hlt:=qc hc;obtain⟨x,hx,hd⟩:=jab (l:=c) (k:=k) zo;have hx':=jad mv hx;refine xL λb4=>?_;refine xN λ_=>?_
 (rw[hml];refine jaa zRc (jp4 x (hs x (qk hx)) c.length zo) rfl rfl ?_)
 refine xC ?_ ?_<;>intro hc
 ·(
 iterate 12 refine zW ?_
 refine jaq (.tmp rfl .nil) .nil ?_;rw[hd] at hI;simp only[memsV] at hI;rw[qe (jaf hc)] at hI
 unfold validC;rw[qe zo,<-hI];rfl)
 ·(
 iterate 8 refine zW ?_
 rw[hd] at hI;simp only[memsV] at hI;rw[qf (jac hc)] at hI
 refine⟨k+1,⟨by omega,hI⟩,by omega,zWk⟩))
 ·(
 have hge:=qd hc;rw[jae zo] at hI;simp only[memsV] at hI;iterate 11 refine zW ?_
 refine jaq (.tmp rfl .nil) .nil ?_
 unfold validC;rw[qe zo,<-hI];rfl))
def holdsV(c:List Mem):Bool × Int:=if validC c=0 then (interB c,0) else (false,validC c)
theorem v32:validC (sameC 3 2)=0:=jpr zo zo
theorem a32:aloneC (sameC 3 2) 0=false:=by kernel_rfl
theorem jv9(s:Nat):∀k,popTo s k<=k
 | 0=>Nat.le_refl _
 | k+1=>by have h1:=jv9 s k;have h2:=Nat.mod_two_eq_zero_or_one (s / 2^k);simp only[popTo];omega
theorem jp9(s k:Nat):((popTo s k:Nat):Int)+((s / 2^k % 2:Nat):Int)=((popTo s (k+1):Nat):Int):=by simp only[popTo];push_cast;rfl
theorem joG{s m:Nat}(h1:decide (((m&&&s:Nat):Int)=(m:Int))=true)(h2:decide ((popN m:Int)=(n:Int))=true):subsIn s n (m+1)=subsIn s n m++[(m:Int)]:=by simp only[subsIn];rw[h1,h2];rfl
theorem jrI{s m:Nat}(h1:decide (((m&&&s:Nat):Int)=(m:Int))=false):subsIn s n (m+1)=subsIn s n m:=by simp only[subsIn];rw[h1,qy,qe zd,List.append_nil]
theorem jsw{s m:Nat}(h2:decide ((popN m:Int)=(n:Int))=false):subsIn s n (m+1)=subsIn s n m:=by simp only[subsIn];rw[h2,qB,qe zd,List.append_nil]
theorem jzO{u:Nat}(hc:c.length<=10)(hu:u<2^c.length):((2^c.length - 1:Nat):Int) - (u:Int)=((co c u:Nat):Int):=by
 have h10:=jaC hc
 have e:co c u=2^c.length - (u+1):=by
  refine Nat.eq_of_testBit_eq λi=>?_;rw[jmJ hc zo,Nat.testBit_two_pow_sub_succ hu]
 rw[e];omega
theorem jiv(s:Nat)(hs:s<1024):C0 252 [.i s] (.i (popN s:Int)):=by
 refine xI Tryz.func252 Tryz.call252 λhcap=>?_;iterate 17 refine zW ?_
 refine jah [0] [] (λ(k:Nat) r=>(3,.i ((popTo s k:Nat):Int))::(4,.i (k:Int))::r) (λk r=>r) (λk=>k<=10) (λk=>10 - k) (0) zRc zo (zWk) ?_;intro k hk;have hpk:=jv9 s k;have hb1:s / 2^k&&&1<=1:=Nat.and_le_right;have hdv:s / 2^k<=s:=Nat.div_le_self _ _;iterate 6 refine zW ?_
 all_goals refine xG ?_ ?_<;>intro hg
 all_goals first | (refine zY ?_;refine jaa zRc (jee hs) rfl rfl ?_) | refine zSk ?_
 all_goals refine zW ?_
 all_goals (
 refine xC ?_ ?_<;>intro hc
 ·(
 first
 | (exact xQ hc)
 |(
 have hlt:=qc hg;iterate 8 refine zW ?_
 refine zP (jeQ rfl rfl zo) ?_;refine zP (jcz (q:=1) rfl rfl rfl zo zo) ?_;iterate 11 refine zW ?_
 rw[Nat.and_one_is_mod,jp9]
 refine⟨k+1,by omega,by omega,zWk⟩))
 ·(
 first
 | (exact xQ hc)
 |(
 have hge:=qd hg;obtain rfl:k=10:=by omega
 refine xP ?_;exact rfl)))
theorem jmp(s:Nat)(hs:s<1024):C0 226 [.i s] (.sl 1 ((subs s).map .i)):=by
 refine xI Tryz.func226 Tryz.call226 λhcap=>?_;have hp10:=(jr9 hs).2.2.1;iterate 17 refine zW ?_
 refine jax [0] [] (λ(n:Nat)(v:Value)(q:List Int) r=>(3,.v v)::(4,.i (n:Int))::r) (λn v q r=>.arr v 3 1 (q.map .i)::r) (λn v q=>n<=popN s+1/\q.length<=n * 1024/\q=subsTo s n) (λn v q=>popN s+1 - n) (0) (.slice none 0 0) ([]) zRc ⟨by omega,by simp,rfl⟩ ((jaF 3 1 rfl).trans (zWk)) ?_;intro n v q ⟨hn,hql,hI⟩;refine xA (jiv s hs) ?_;iterate 2 refine zW ?_
 all_goals refine xG ?_ ?_<;>intro hg
 all_goals first | (refine zY ?_;refine jaa zRc (jee hs) rfl rfl ?_) | refine zSk ?_
 all_goals refine zW ?_
 all_goals (
 refine xC ?_ ?_<;>intro hc
 ·(
 first
 | (exact xQ hc)
 |(
 have hle:=qc hg;iterate 10 refine zW ?_
 refine jax [0,4] [] (λ(x:Nat)(v2:Value)(q2:List Int) r=>(3,.v v2)::(5,.i (x:Int))::r) (λx v2 q2 r=>.arr v2 3 1 (q2.map .i)::r) (λx v2 q2=>x<=s+1/\q2.length<=n * 1024+x/\q2=subsTo s n++subsIn s n x) (λx v2 q2=>s+1 - x) (0) (v) (q) zRc ⟨by omega,by omega,by rw[hI];simp[subsIn]⟩ (zWk) ?_;intro x v2 q2 ⟨hx,hql2,hI2⟩;refine xC ?_ ?_<;>intro hc
 ·(
 have hxs:=qc hc;iterate 12 refine zW ?_
 all_goals refine xG ?_ ?_<;>intro hg
 all_goals first | (refine zY ?_;refine jaa zRc (jiv x zo) rfl rfl ?_) | refine zSk ?_
 iterate 3 all_goals refine zW ?_
 all_goals (
 refine xC ?_ ?_<;>intro hc
 ·(
 first
 | (exact xQ hc)
 |(
 iterate 3 refine zW ?_
 refine xLt 3 1 8 ?_;refine xEa 3 1 8 λv35 hv35=>?_;iterate 10 refine zW ?_
 rw[jbr];refine⟨x+1,_,q2++[(x:Int)],⟨by omega,by simp only[qm,qi,qu];omega,by rw[joG zO zO,hI2,List.append_assoc]⟩,by omega,zWk⟩))
 ·(
 first
 | (exact xQ hc)
 |(
 iterate 9 refine zW ?_
 first
 | (rw[jbr];refine⟨x+1,_,q2++[(x:Int)],⟨by omega,by simp only[qm,qi,qu];omega,by rw[joG zO zO,hI2,List.append_assoc]⟩,by omega,zWk⟩)
 | refine⟨x+1,_,q2,⟨by omega,by omega,by first | rw[jrI zO,hI2] | rw[jsw zO,hI2]⟩,by omega,zWk⟩))))
 ·(
 have hxe:=qd hc;obtain rfl:x=s+1:=by omega
 iterate 12 refine zW ?_
 refine⟨n+1,_,q2,⟨by omega,by omega,by rw[hI2];rfl⟩,by omega,zWk⟩)))
 ·(
 first
 | (exact xQ hc)
 |(
 have hgt:=qd hg;obtain⟨n2,hn2⟩:∃n2,n2=popN s+1:=⟨_,rfl⟩
 obtain rfl:n=n2:=by omega
 iterate 6 refine zW ?_
 refine zFz v [3] ?_;refine xP ?_
 rw[hI,hn2];rfl)))
theorem jfQ(c:List Mem)(hc:c.length<=10):C0 269 [cv c] (.i ((2^c.length - 1:Nat):Int)):=by
 refine xI Tryz.func269 Tryz.call269 λhcap=>?_;have h10:=jaC hc;have hpos:0<2^c.length:=Nat.pow_pos zo;have hml:(c.map mv).length=c.length:=by simp
 refine xX λb1=>?_;refine xN λ_=>?_
 (rw[hml];refine zP (jaZ (p:=1) rfl rfl rfl zo zo) ?_)
 (rw[Nat.one_mul];refine zW ?_)
 refine xP ?_;simp only[resD];congr 2;omega
theorem jtD(c:List Mem)(hcl:c.length<=10):Con none Tryz.prog 251 [cv c] [] (λd H=>∃a b:Nat,d=.tup [.i a,.i b]/\FindR c a b/\H=[]):=by
 refine xI Tryz.func251 Tryz.call251 λhcap=>?_;have h10:=jaC hcl;have hpos:0<2^c.length:=Nat.pow_pos zo;have hll:((subs (2^c.length - 1)).map D.i).length=(subs (2^c.length - 1)).length:=by simp
 refine xX λb1=>?_;refine xA (jfQ c hcl) ?_;refine xA (jmp (2^c.length - 1) zo) ?_;refine zLn λ_=>?_;iterate 4 refine zW ?_
 refine jah [1,9,10] [.box b1 _ _] (λ(k:Nat) r=>(11,.i (k:Int))::r) (λk r=>r) (λk=>k<=(subs (2^c.length - 1)).length/\∀x∈(subs (2^c.length - 1)).take k,quorumC c x.toNat=true->great c (co c x.toNat)=0) (λk=>(subs (2^c.length - 1)).length - k) (0) zRc ⟨by omega,by simp⟩ (zWk) ?_;intro k ⟨hk,hI⟩;refine xC ?_ ?_<;>intro hc
 ·(
 have hlt:=qc hc;obtain⟨x,hx,hd⟩:=jab (l:=subs (2^c.length - 1)) (k:=k) zo;obtain⟨u,rfl,hu⟩:=(jj7 hcl).1 (qk hx);have hx':=jad D.i hx;refine xE (jmx c u) λc17 hc17=>?_;refine xC ?_ ?_<;>intro hc
 ·(
 iterate 9 refine zW ?_
 have hthis:quorumC c u=true->great c (co c u)=0:=by first | (intro hq;rw[<-jcV zo,hc17] at hq;rw[show c17=true from hq] at hc;cases hc) | (intro _;have:=jac (show (!decide (((great c (co c u):Nat):Int)=0))=false by with_reducible assumption);omega)
 refine⟨k+1,⟨by omega,λy hy hq=>?_⟩,by omega,zWk⟩;rw[List.take_add_one,hx] at hy;rcases zk hy with hy | hy
 ·exact hI y hy hq
 ·(
 obtain rfl:y=(u:Int):=(by simpa using hy)
 exact hthis hq))
 ·(
 have hq:quorumC c u=true:=by rw[<-jcV zo];exact hc17.trans (jav hc)
 iterate 3 refine zW ?_
 refine zDr [] ?_;refine zT 0 ?_;refine zT 1 ?_;refine zT 3 ?_;refine zOn 2 ?_;refine xA (jfQ c hcl) ?_;refine zW ?_;refine zT 4 ?_;refine zOn 5 ?_
 (rw[jzO hcl hu];refine jaa zRc (jb8 c (co c u)) rfl rfl ?_)
 refine zW ?_;refine zT 6 ?_;refine zW ?_
 all_goals (
 refine xC ?_ ?_<;>intro hc
 ·(
 have hb:=jaf hc;iterate 14 refine zW ?_
 refine jaS (.tmp rfl (.tmp rfl .nil)) jcy ⟨u,great c (co c u),rfl,⟨hu,λe=>qp e (jrN hq),λ_=>⟨hq,rfl,by omega,λw hw hk2 hqw=>hI w (jmR hcl hx hw hk2) hqw⟩⟩,rfl⟩)
 ·(
 iterate 8 refine zW ?_
 have hthis:quorumC c u=true->great c (co c u)=0:=by first | (intro hq;rw[<-jcV zo,hc17] at hq;rw[show c17=true from hq] at hc;cases hc) | (intro _;have:=jac (show (!decide (((great c (co c u):Nat):Int)=0))=false by with_reducible assumption);omega)
 refine⟨k+1,⟨by omega,λy hy hq=>?_⟩,by omega,zWk⟩;rw[List.take_add_one,hx] at hy;rcases zk hy with hy | hy
 ·exact hI y hy hq
 ·(
 obtain rfl:y=(u:Int):=(by simpa using hy)
 exact hthis hq)))))
 ·(
 have hge:=qd hc;rw[qC zo] at hI;iterate 12 refine zW ?_
 refine jaS (.tmp rfl (.tmp rfl .nil)) jcy ⟨0,0,rfl,⟨hpos,λ_=>⟨rfl,λw hw hq=>hI w ((jj7 hcl).2 ⟨w,rfl,hw⟩) hq⟩,λe=>qp rfl e⟩,rfl⟩)
theorem jsx(t:Trust):same t Trust.none=blankT t:=by
 unfold same blankT;have h1:decide (t.nodes=Trust.none.nodes)=decide (t.nodes.length=0):=by rw[Bool.eq_iff_iff,decide_eq_true_iff,decide_eq_true_iff];simp[Trust.none,Trust.nodes]
 have h2:sameL t.inner Trust.none.inner=decide (t.inner.length=0):=by
  cases h:t.inner with
  | nil=>rfl
  | cons x r=>rfl
 rw[h1,h2];rfl
theorem jwl{b:Bool}(h:m.decl=false)(hb:same m.t Trust.none=b):memV m n=if b=true then 0 else 1:=jsF h (by rw[<-jsx];exact hb)
theorem jzJ(h:m.decl=true)(hv:¬validT m.t=0):memV m n=validT m.t:=by unfold memV;rw[qf h,qe hv]
theorem jzF(h:m.decl=true)(hv:validT m.t=0)(hu:2^n<=uses m.t):memV m n=5:=by unfold memV;rw[qf h,qf hv,qf hu]
theorem jyE(h:m.decl=true)(hv:validT m.t=0)(hu:¬ 2^n<=uses m.t):memV m n=0:=by unfold memV;rw[qf h,qf hv,qe hu]
theorem jch(c:List Mem)(hs:∀m∈c,sizeT m.t<=1000000000):C0 49 [cv c] (.i (validC c)):=by
 refine xI Tryz.func49 Tryz.call49 λhcap=>?_;have hml:(c.map mv).length=c.length:=by simp
 refine xX λb1=>?_;refine xN λ_=>?_;refine xC ?_ ?_<;>intro hc
 ·(
 have hlen:=qc hc;iterate 7 refine zW ?_
 refine jaq (.tmp rfl .nil) .nil ?_
 unfold validC;rw[qf zo];rfl)
 ·(
 have hlen:=qd hc;have h10:=jaC (n:=c.length) zo;have hul:=λt:Trust=>jfv t;have hp2:2^(c.map mv).length=2^c.length:=by rw[hml]
 refine xN λ_=>?_;iterate 4 refine zW ?_
 refine jah [1,11,12] [.box b1 _ _] (λ(k:Nat) r=>(13,.i (k:Int))::r) (λk r=>r) (λk=>k<=c.length/\memsV c.length (c.drop k)=memsV c.length c) (λk=>c.length - k) (0) zRc ⟨by omega,by simp⟩ (zWk) ?_;intro k ⟨hk,hI⟩;refine xC ?_ ?_<;>intro hc
 ·(
 have hlt:=qc hc;obtain⟨x,hx,hd⟩:=jab (l:=c) (k:=k) zo;have hx':=jad mv hx;have hul2:=hul x.t;refine xL λb4=>?_;refine xC ?_ ?_<;>intro hc
 ·(
 have hdl:x.decl=false:=jaw hc;iterate 6 refine zW ?_
 (refine jau [1,11,12,13,21,22] 1 rfl rfl (by repeat (first | exact SelC.nil | apply SelC.cons rfl (Cv.agg (CvL.cons Cv.same (CvL.cons Cv.fz (CvL.cons Cv.same CvL.nil)))) | apply SelC.cons rfl Cv.same)) ja4 ?_;refine jau [1,11,12,13,21,22] 3 rfl rfl jcb ja4 ?_;refine jbE zRc (jcd x.t Trust.none) rfl rfl λc23 hc23=>?_)
 refine xC ?_ ?_<;>intro hc
 ·(
 have hm1:memV x c.length=1:=by rw[jwl hdl (hc23.trans (jaw hc))];rfl
 iterate 13 refine zW ?_
 refine jaq (.tmp rfl .nil) .nil ?_;rw[hd] at hI;simp only[memsV] at hI;rw[qe (by rw[hm1];first | exact hv9 | omega),hm1] at hI
 unfold validC;rw[qe zo,<-hI];rfl)
 ·(
 have hm0:memV x c.length=0:=by rw[jwl hdl (hc23.trans (jav hc))];rfl
 iterate 11 refine zW ?_
 rw[hd] at hI;simp only[memsV] at hI;rw[qf hm0] at hI
 refine⟨k+1,⟨by omega,hI⟩,by omega,zWk⟩))
 ·(
 have hdl:x.decl=true:=jav hc;refine xA (jaI x.t (hs x (qk hx))) ?_;refine xC ?_ ?_<;>intro hc
 ·(
 have hv9:=jaf hc;have hm1:memV x c.length=validT x.t:=jzJ hdl hv9;iterate 13 refine zW ?_
 refine jaq (.tmp rfl .nil) .nil ?_;rw[hd] at hI;simp only[memsV] at hI;rw[qe (by rw[hm1];first | exact hv9 | omega),hm1] at hI
 unfold validC;rw[qe zo,<-hI];rfl)
 ·(
 have hv:=jac hc;iterate 3 refine zW ?_
 refine zDr [] ?_;refine zT 0 ?_;refine zT 1 ?_;refine zT 3 ?_;refine zT 4 ?_;refine zT 5 ?_;refine jam 6 rfl zGd zKr zKr zKr (AP.ar (jaZ (p:=1) rfl rfl rfl zo zo)) rfl rfl ?_;refine zOn 2 ?_;refine xA (jrO x.t) ?_;refine zW ?_;refine zT 7 ?_;refine zW ?_
 all_goals (
 refine xC ?_ ?_<;>intro hc
 ·(
 have hge:=qc hc;have hm1:memV x c.length=5:=jzF hdl hv zo;iterate 11 refine zW ?_
 refine jaq (.tmp rfl .nil) .nil ?_;rw[hd] at hI;simp only[memsV] at hI;rw[qe (by rw[hm1];first | exact hv9 | omega),hm1] at hI
 unfold validC;rw[qe zo,<-hI];rfl)
 ·(
 have hge:=qd hc;have hm0:memV x c.length=0:=jyE hdl hv zo;iterate 8 refine zW ?_
 rw[hd] at hI;simp only[memsV] at hI;rw[qf hm0] at hI
 refine⟨k+1,⟨by omega,hI⟩,by omega,zWk⟩)))))
 ·(
 have hge:=qd hc;rw[jae zo] at hI;simp only[memsV] at hI;iterate 11 refine zW ?_
 refine jaq (.tmp rfl .nil) .nil ?_
 unfold validC;rw[qe zo,<-hI];rfl))
theorem jqb(c:List Mem)(hs:∀m∈c,sizeT m.t<=1000000000):C0 224 [cv c] (.tup [.b (holdsV c).1,.i (holdsV c).2]):=by
 refine xI Tryz.func224 Tryz.call224 λhcap=>?_;refine xX λb1=>?_;refine xA (jch c hs) ?_;refine xC ?_ ?_<;>intro hc
 ·(
 have hv:=jaf hc;refine xP ?_
 unfold holdsV;rw[qe hv];rfl)
 ·(
 have hv:=jac hc;refine xB (jtD c (jiH hv)) ?_;rintro _ _ ⟨fa,fb,rfl,hF,rfl⟩;refine xP ?_
 unfold holdsV;rw[qf hv,<-hF.inter];rfl)
theorem jkn(k:Int):C0 193 [.i k] (.i (lw k)):=by
 refine xI Tryz.func193 Tryz.call193 λhcap=>?_;refine xC ?_ ?_<;>intro hc
 ·(
 iterate 8 refine zW ?_
 refine jaq (.tmp rfl .nil) .nil ?_
 unfold lw;rw[qf (qc hc)];rfl)
 ·(
 iterate 5 refine zW ?_
 refine zP (jem rfl rfl rfl) ?_;iterate 4 refine zW ?_
 refine jaq (.tmp rfl .nil) .nil ?_
 unfold lw;rw[qe (qd hc)];rfl)
theorem jrd{th th2:Int}{q:List Int}{q2:List Trust}(h1:lessN s t.nodes t.th []=(th,q))(h2:lessI s t.inner th []=(th2,q2)):less s t=.mk th2 q q2:=by unfold less;rw[h1,h2]
theorem jum(s:Int):∀(t:Trust),sizeT t<=200000->Con none Tryz.prog 153 [av t,.i s] [] (Is (av (less s t)) []):=by
 have hcap:=jbK;intro t
 induction t using Trust.ind with
 | _ t ih =>
  have hl1:(t.nodes.map D.i).length=t.nodes.length:=by simp
  have hl2:=jaQ t.inner;intro hsz;have hs0:sizeT t=t.nodes.length+t.inner.length+sizeL t.inner:=rfl;refine jar Tryz.func153 rfl Tryz.call153 rfl ?_;refine xX λb2=>?_;refine zAl λb4=>?_;refine xL λb5=>?_;refine xN λ_=>?_;iterate 4 refine zW ?_
  refine jbq [1,2,4,5,15,16] [.box b4 _ _,.box b2 _ _] (λ(k:Nat)(v:Value)(th:Int)(q:List Int) r=>(17,.i (k:Int))::r) (λk v th q r=>.box b5 48 [.i th,.v v,.nil]::.arr v 3 1 (q.map .i)::r) (λk v th q=>k<=t.nodes.length/\q.length<=k/\lessN s (t.nodes.drop k) th q=lessN s t.nodes t.th []) (λk v th q=>t.nodes.length - k) (0) (.slice none 0 0) (t.th) ([]) zRc ⟨by omega,by simp,by simp⟩ ((jaF 3 1 rfl).trans (zWk)) ?_;intro k v th q ⟨hk,hql,hI⟩;have hml:(q.map D.i).length=q.length:=by simp
  refine xC ?_ ?_<;>intro hc
  ·have hlt:=qc hc
   obtain⟨x,hx,hd⟩:=jab (l:=t.nodes) (k:=k) zo;have hx':=jad D.i hx;refine xE (jb6 s x) λc23 hc23=>?_;refine xC ?_ ?_<;>intro hc
   ·refine xA (jkn _) ?_
    iterate 10 refine zW ?_
    rw[hd] at hI;simp only[lessN] at hI;rw[qf (hc23.trans hc)] at hI;refine⟨k+1,v,lw th,q,⟨by omega,by omega,hI⟩,by omega,zWk⟩
   ·iterate 4 refine zW ?_
    refine xLt 3 1 8 ?_;refine xEa 3 1 8 λv32 hv32=>?_;iterate 10 refine zW ?_
    rw[hd] at hI;simp only[lessN] at hI;rw[qe (λe=>by rw[hc23.trans hc] at e;cases e)] at hI;rw[jbr];refine⟨k+1,_,th,q++[x],⟨by omega,by simp only[qm,qi,qu];omega,hI⟩,by omega,zWk⟩
  ·have hge:=qd hc
   have hN:lessN s t.nodes t.th []=(th,q):=by rw[jae zo] at hI;exact hI.symm
   refine xN λ_=>?_;iterate 4 refine zW ?_
   refine jbq [1,4,5,36,37] [.box b4 _ _,.box b2 _ _,.arr v 3 1 (q.map .i)] (λ(k:Nat)(v2:Value)(th2:Int)(q2:List Trust) r=>(38,.i (k:Int))::r) (λk v2 th2 q2 r=>.box b5 48 [.i th2,.v v,.v v2]::.arr v2 48 3 (avs q2)::r) (λk v2 th2 q2=>k<=t.inner.length/\q2.length<=k/\lessI s (t.inner.drop k) th2 q2=lessI s t.inner th []) (λk v2 th2 q2=>t.inner.length - k) (0) (.slice none 0 0) (th) ([]) zRc ⟨by omega,by simp,by simp⟩ ((jaF 48 3 rfl).trans (zWk)) ?_;intro k v2 th2 q2 ⟨hk,hql2,hI2⟩;have hal:(avs q2).length=q2.length:=jaQ _;refine xC ?_ ?_<;>intro hc
   ·have hlt:=qc hc
    obtain⟨y,hy,hd⟩:=jab (l:=t.inner) (k:=k) zo;have hy':=jbo hy;have hym:=qk hy;refine xL λb9=>?_;refine xA (ih y hym (by have:=jbM hym;omega)) ?_;refine zAl λb10=>?_;refine xC ?_ ?_<;>intro hc
    ·refine xA (jkn _) ?_
     iterate 10 refine zW ?_
     rw[hd,jb9] at hI2;rw[qf (qc hc)] at hI2;refine⟨k+1,v2,lw th2,q2,⟨by omega,by omega,hI2⟩,by omega,zWk⟩
    ·iterate 4 refine zW ?_
     refine xLt 48 3 56 ?_;refine xEa 48 3 56 λv56 hv56=>?_;iterate 10 refine zW ?_
     rw[hd,jb9] at hI2;rw[qe (qd hc)] at hI2;rw[show D.agg [.i (less s y).th,.sl 1 ((less s y).nodes.map .i),.sl 3 (avs (less s y).inner)]=av (less s y) from rfl,jnT];refine⟨k+1,_,th2,q2++[less s y],⟨by omega,by simp only[qm,qi,qu];omega,hI2⟩,by omega,zWk⟩
   ·have hge:=qd hc
    have hL:lessI s t.inner th []=(th2,q2):=by rw[jae zo] at hI2;exact hI2.symm
    iterate 11 refine zW ?_
    refine zFz v [4] ?_;refine zFz v2 [4] ?_;refine xP ?_;rw[jrd hN hL];rfl
theorem juU(t:Trust)(k:Int)(s:Nat)(hs:s<1024)(hsz:sizeT t<=200000):C0 119 [av t,.i k,.i s] (av (delT s k t)):=by
 refine xI Tryz.func119 Tryz.call119 λhcap=>?_;refine xX λb3=>?_;refine zAl λb6=>?_;refine xA (jee hs) ?_;iterate 3 refine zW ?_
 refine jan rfl jcm ?_;refine xA (jum s t hsz) ?_;refine zAl λb7=>?_;refine xC ?_ ?_<;>intro hc
 ·(
 have hle:=qc hc;iterate 3 refine zW ?_
 refine xLt 3 1 8 ?_;iterate 4 refine zW ?_
 refine jak [6] 3 rfl jcb jcr ?_;refine xP ?_
 unfold delT;rw[qf hle];rfl)
 ·(
 have hle:=qd hc;refine xP ?_
 unfold delT;rw[qe hle];rfl)
theorem jvS(h:has s k=true):delM s k m=⟨false,Trust.none⟩:=by unfold delM;rw[qf h]
theorem jwa(h:has s k=false)(hd:m.decl=true):delM s k m=⟨m.decl,delT s k m.t⟩:=by unfold delM;rw[qe (by rw[h];decide),qf hd,hd]
theorem jze(h:has s k=false)(hd:m.decl=false):delM s k m=m:=by unfold delM;rw[qe (by rw[h];decide),qe (by rw[hd];decide)]
theorem jeE{x:Mem}{l l' q:List Mem}(hd:l=x::l')(hI:q++delGo s k l=delC c s):(q++[delM s k x])++delGo s (k+1) l'=delC c s:=by rw[<-hI,hd];simp[delGo]
theorem jrc(c:List Mem)(hcl:c.length<=10)(s:Nat)(hs:s<1024)(hsz:∀m∈c,sizeT m.t<=200000):C0 78 [cv c,.i s] (cv (delC c s)):=by
 refine xI Tryz.func78 Tryz.call78 λhcap=>?_;have hml:(c.map mv).length=c.length:=by simp
 refine xX λb2=>?_;refine zAl λb4=>?_;refine xA (jee hs) ?_;iterate 3 refine zW ?_
 refine jan rfl jcm ?_;refine xL λb5=>?_;refine xN λ_=>?_;iterate 4 refine zW ?_
 refine jax [1,4,5,13,14] [.box b4 _ _,.box b2 _ _] (λ(k:Nat)(v:Value)(q:List Mem) r=>(15,.i (k:Int))::r) (λk v q r=>.box b5 28 [.v v]::.arr v 101 4 (q.map mv)::r) (λk v q=>k<=c.length/\q.length=k/\q++delGo s k (c.drop k)=delC c s) (λk v q=>c.length - k) (0) (.slice none 0 0) ([]) zRc ⟨by omega,rfl,by simp[delC]⟩ ((jaF 101 4 rfl).trans (zWk)) ?_;intro k v q ⟨hk,hql,hI⟩;have hqm:(q.map mv).length=q.length:=by simp
 refine xC ?_ ?_<;>intro hc
 ·(
 have hlt:=qc hc;obtain⟨x,hx,hd⟩:=jab (l:=c) (k:=k) zo;have hx':=jad mv hx;refine xL λb7=>?_;refine xE (jb6 s k) λc23 hc23=>?_;refine xC ?_ ?_<;>intro hc
 ·(
 iterate 10 refine zW ?_
 refine jau [1,4,5,13,14,15,35,36] 1 rfl rfl (by repeat (first | exact SelC.nil | apply SelC.cons rfl (Cv.agg (CvL.cons Cv.same (CvL.cons Cv.same (CvL.cons Cv.fz (CvL.cons Cv.same CvL.nil))))) | apply SelC.cons rfl Cv.same)) ja4 ?_;refine jau [1,4,5,13,14,15,35,36] 3 rfl rfl jcb ja4 ?_;refine xLt 101 4 64 ?_;refine xEa 101 4 64 (hb:=by simp only[qi,qu,qm,qw];omega) λv38 hv38=>?_;iterate 10 refine zW ?_
 refine⟨k+1,v38,q++[delM s k x],⟨by omega,by simp only[qm,qi,qu];omega,jeE hd hI⟩,by omega,?_⟩;rw[<-jdv,jvS (hc23.trans zO)];exact(zWk))
 ·(
 refine xC ?_ ?_<;>intro hc
 ·(
 refine xA (juU x.t k s hs (hsz x (qk hx))) ?_;iterate 9 refine zW ?_
 refine jau [1,4,5,13,14,15,35,36] 1 rfl rfl (by repeat (first | exact SelC.nil | apply SelC.cons rfl (Cv.agg (CvL.cons Cv.same (CvL.cons Cv.same (CvL.cons Cv.fz (CvL.cons Cv.same CvL.nil))))) | apply SelC.cons rfl Cv.same)) ja4 ?_;refine jau [1,4,5,13,14,15,35,36] 3 rfl rfl jcb ja4 ?_;refine xLt 101 4 64 ?_;refine xEa 101 4 64 (hb:=by simp only[qi,qu,qm,qw];omega) λv38 hv38=>?_;iterate 10 refine zW ?_
 refine⟨k+1,v38,q++[delM s k x],⟨by omega,by simp only[qm,qi,qu];omega,jeE hd hI⟩,by omega,?_⟩;rw[<-jdv,jwa (hc23.trans zO) zO];exact(zWk))
 ·(
 iterate 7 refine zW ?_
 refine jau [1,4,5,13,14,15,35,36] 1 rfl rfl (by repeat (first | exact SelC.nil | apply SelC.cons rfl (Cv.agg (CvL.cons Cv.same (CvL.cons Cv.same (CvL.cons Cv.fz (CvL.cons Cv.same CvL.nil))))) | apply SelC.cons rfl Cv.same)) ja4 ?_;refine jau [1,4,5,13,14,15,35,36] 3 rfl rfl jcb ja4 ?_;refine xLt 101 4 64 ?_;refine xEa 101 4 64 (hb:=by simp only[qi,qu,qm,qw];omega) λv38 hv38=>?_;iterate 10 refine zW ?_
 refine⟨k+1,v38,q++[delM s k x],⟨by omega,by simp only[qm,qi,qu];omega,jeE hd hI⟩,by omega,?_⟩;rw[<-jdv,jze (hc23.trans zO) zO];exact(zWk))))
 ·(
 have hge:=qd hc;have hF:q=delC c s:=by rw[jae zo] at hI;simpa[delGo] using hI
 iterate 11 refine zW ?_
 refine zFz v [4] ?_;refine xP ?_
 rw[<-hF];rfl)
abbrev TB(k:Int):Prop:=0<=k/\k<=1000000000000
inductive NN:Trust->Prop
 | mk {th:Int} {q:List Int} {i:List Trust} (h:TB th) (hi:∀y∈i,NN y):NN (.mk th q i)
theorem NN.th(h:NN t):TB t.th:=by cases h with | mk h hi=>exact h
theorem NN.inner(h:NN t):∀y∈t.inner,NN y:=by cases h with | mk h hi=>exact hi
theorem jqK{k:Int}(h:TB k):TB (lw k)/\max k 1 - 1=lw k:=by
 obtain⟨h1,h2⟩:=h;unfold lw TB;split
 ·omega
 ·rw[jfE zo zo];omega
theorem jkh{s:Int}:∀(l:List Int)(th:Int)(q:List Int),TB th->TB (lessN s l th q).1
 | [],th,q,h=>by simpa[lessN] using h
 | x::l,th,q,h=>by
  simp only[lessN];split
  ·exact jkh l _ _ (jqK h).1
  ·exact jkh l _ _ h
theorem jj1{s:Int}:∀(l:List Trust)(th:Int)(q:List Trust),TB th->TB (lessI s l th q).1
 | [],th,q,h=>by simpa[lessI] using h
 | x::l,th,q,h=>by
  rw[jb9];split
  ·exact jj1 l _ _ (jqK h).1
  ·exact jj1 l _ _ h
theorem jtG(h:NN t):TB (less s t).th :=
 jj1 t.inner _ [] (jkh t.nodes t.th [] h.th)
theorem jhh(k:Int)(h:TB k):C0 200 [.i k,.i 1] (.i (lw k)):=by
 have hcap:=jbK;have h2:=(jqK h).2;obtain⟨h0,h1⟩:=h;refine jar Tryz.func200 rfl Tryz.call200 rfl ?_;iterate 11 refine zW ?_
 refine zP (jb3 (m:=lw k) rfl rfl (by simp only[addI,qs];exact h2) zo) ?_;refine xP ?_;exact rfl
theorem jpM(s:Int):∀(t:Trust),sizeT t<=200000->NN t->Con none Tryz.prog 160 [av t,.i s] [] (Is (av (less s t)) []):=by
 have hcap:=jbK;intro t
 induction t using Trust.ind with
 | _ t ih =>
  have hl1:(t.nodes.map D.i).length=t.nodes.length:=by simp
  have hl2:=jaQ t.inner;intro hsz hnn;have hs0:sizeT t=t.nodes.length+t.inner.length+sizeL t.inner:=rfl;have hm0:max t.th 0=t.th:=by have:=hnn.th.1;omega
  refine jar Tryz.func160 rfl Tryz.call160 rfl ?_;refine xX λb2=>?_;refine zAl λb4=>?_;refine xL λb5=>?_;iterate 5 refine zW ?_
  rw[hm0];refine xN λ_=>?_;iterate 4 refine zW ?_
  refine jbq [1,2,4,5,15,16] [.box b4 _ _,.box b2 _ _] (λ(k:Nat)(v:Value)(th:Int)(q:List Int) r=>(17,.i (k:Int))::r) (λk v th q r=>.box b5 48 [.i th,.v v,.nil]::.arr v 3 1 (q.map .i)::r) (λk v th q=>k<=t.nodes.length/\q.length<=k/\TB th/\lessN s (t.nodes.drop k) th q=lessN s t.nodes t.th []) (λk v th q=>t.nodes.length - k) (0) (.slice none 0 0) (t.th) ([]) zRc ⟨by omega,by simp,hnn.th,by simp⟩ ((jaF 3 1 rfl).trans (zWk)) ?_;intro k v th q ⟨hk,hql,hth,hI⟩;have hml:(q.map D.i).length=q.length:=by simp
  refine xC ?_ ?_<;>intro hc
  ·have hlt:=qc hc
   obtain⟨x,hx,hd⟩:=jab (l:=t.nodes) (k:=k) zo;have hx':=jad D.i hx;refine xE (jhC s x) λc23 hc23=>?_;refine xC ?_ ?_<;>intro hc
   ·refine xA (jhh _ (by assumption)) ?_
    iterate 10 refine zW ?_
    rw[hd] at hI;simp only[lessN] at hI;rw[qf (hc23.trans hc)] at hI;refine⟨k+1,v,lw th,q,⟨by omega,by omega,(jqK hth).1,hI⟩,by omega,zWk⟩
   ·iterate 4 refine zW ?_
    refine xLt 3 1 8 ?_;refine xEa 3 1 8 λv32 hv32=>?_;iterate 10 refine zW ?_
    rw[hd] at hI;simp only[lessN] at hI;rw[qe (λe=>by rw[hc23.trans hc] at e;cases e)] at hI;rw[jbr];refine⟨k+1,_,th,q++[x],⟨by omega,by simp only[qm,qi,qu];omega,hth,hI⟩,by omega,zWk⟩
  ·have hge:=qd hc
   have hN:lessN s t.nodes t.th []=(th,q):=by rw[jae zo] at hI;exact hI.symm
   refine xN λ_=>?_;iterate 4 refine zW ?_
   refine jbq [1,4,5,36,37] [.box b4 _ _,.box b2 _ _,.arr v 3 1 (q.map .i)] (λ(k:Nat)(v2:Value)(th2:Int)(q2:List Trust) r=>(38,.i (k:Int))::r) (λk v2 th2 q2 r=>.box b5 48 [.i th2,.v v,.v v2]::.arr v2 48 3 (avs q2)::r) (λk v2 th2 q2=>k<=t.inner.length/\q2.length<=k/\TB th2/\lessI s (t.inner.drop k) th2 q2=lessI s t.inner th []) (λk v2 th2 q2=>t.inner.length - k) (0) (.slice none 0 0) (th) ([]) zRc ⟨by omega,by simp,hth,by simp⟩ ((jaF 48 3 rfl).trans (zWk)) ?_;intro k v2 th2 q2 ⟨hk,hql2,hth2,hI2⟩;have hal:(avs q2).length=q2.length:=jaQ _;refine xC ?_ ?_<;>intro hc
   ·have hlt:=qc hc
    obtain⟨y,hy,hd⟩:=jab (l:=t.inner) (k:=k) zo;have hy':=jbo hy;have hym:=qk hy;refine xL λb9=>?_;refine xA (ih y hym (by have:=jbM hym;omega) (hnn.inner y hym)) ?_;refine xC ?_ ?_<;>intro hc
    ·refine xA (jhh _ (by assumption)) ?_
     iterate 10 refine zW ?_
     rw[hd,jb9] at hI2;rw[qf (by have:=qc hc;omega)] at hI2;refine⟨k+1,v2,lw th2,q2,⟨by omega,by omega,(jqK hth2).1,hI2⟩,by omega,zWk⟩
    ·iterate 4 refine zW ?_
     refine xLt 48 3 56 ?_;refine xEa 48 3 56 λv56 hv56=>?_;iterate 10 refine zW ?_
     rw[hd,jb9] at hI2;rw[qe (by have:=qd hc;have:=(jtG (s:=s) (hnn.inner y hym)).1;omega)] at hI2;rw[show D.agg [.i (less s y).th,.sl 1 ((less s y).nodes.map .i),.sl 3 (avs (less s y).inner)]=av (less s y) from rfl,jnT];refine⟨k+1,_,th2,q2++[less s y],⟨by omega,by simp only[qm,qi,qu];omega,hth2,hI2⟩,by omega,zWk⟩
   ·have hge:=qd hc
    have hL:lessI s t.inner th []=(th2,q2):=by rw[jae zo] at hI2;exact hI2.symm
    iterate 11 refine zW ?_
    refine zFz v [4] ?_;refine zFz v2 [4] ?_;refine xP ?_;rw[jrd hN hL];rfl
theorem jqE(t:Trust)(k:Int)(s:Nat)(hs:s<1024)(hsz:sizeT t<=200000)(hnn:NN t):C0 126 [av t,.i k,.i s] (av (delT s k t)):=by
 refine xI Tryz.func126 Tryz.call126 λhcap=>?_;have hb:=(jtG (s:=(s:Int)) hnn).1;refine xX λb3=>?_;refine zAl λb6=>?_;refine xA (jzc hs) ?_;iterate 3 refine zW ?_
 refine jan rfl jcm ?_;refine xA (jpM s t hsz hnn) ?_;refine zAl λb7=>?_;refine xC ?_ ?_<;>intro hc
 ·(
 have hle:=qc hc;iterate 3 refine zW ?_
 refine xLt 3 1 8 ?_;iterate 4 refine zW ?_
 refine jak [6] 3 rfl jcb jcr ?_;refine xP ?_
 unfold delT;rw[qf zo];rfl)
 ·(
 have hle:=qd hc;refine xP ?_
 unfold delT;rw[qe zo];rfl)
theorem jve(c:List Mem)(hcl:c.length<=10)(s:Nat)(hs:s<1024)(hsz:∀m∈c,sizeT m.t<=200000)(hdc:∀m∈c,m.decl=true)(hnn:∀m∈c,NN m.t):C0 91 [cv c,.i s] (cv (delC c s)):=by
 refine xI Tryz.func91 Tryz.call91 λhcap=>?_;have hml:(c.map mv).length=c.length:=by simp
 refine xX λb2=>?_;refine zAl λb4=>?_;refine xL λb5=>?_;refine xN λ_=>?_;iterate 4 refine zW ?_
 refine jax [1,4,5,9,10] [.box b4 _ _,.box b2 _ _] (λ(k:Nat)(v:Value)(q:List Mem) r=>(11,.i (k:Int))::r) (λk v q r=>.box b5 28 [.v v]::.arr v 101 4 (q.map mv)::r) (λk v q=>k<=c.length/\q.length=k/\q++delGo s k (c.drop k)=delC c s) (λk v q=>c.length - k) (0) (.slice none 0 0) ([]) zRc ⟨by omega,rfl,by simp[delC]⟩ ((jaF 101 4 rfl).trans (zWk)) ?_;intro k v q ⟨hk,hql,hI⟩;have hqm:(q.map mv).length=q.length:=by simp
 refine xC ?_ ?_<;>intro hc
 ·(
 have hlt:=qc hc;obtain⟨x,hx,hd⟩:=jab (l:=c) (k:=k) zo;have hx':=jad mv hx;have hxd:=hdc x (qk hx);refine xL λb7=>?_;refine xE (jhC s k) λc23 hc23=>?_;refine xC ?_ ?_<;>intro hc
 ·(
 iterate 10 refine zW ?_
 refine jau [1,4,5,9,10,11,35,36] 1 rfl rfl (by repeat (first | exact SelC.nil | apply SelC.cons rfl (Cv.agg (CvL.cons Cv.same (CvL.cons Cv.same (CvL.cons Cv.fz (CvL.cons Cv.same CvL.nil))))) | apply SelC.cons rfl Cv.same)) ja4 ?_;refine jau [1,4,5,9,10,11,35,36] 3 rfl rfl jcb ja4 ?_;refine xLt 101 4 64 ?_;refine xEa 101 4 64 (hb:=by simp only[qi,qu,qm,qw];omega) λv38 hv38=>?_;iterate 10 refine zW ?_
 refine⟨k+1,v38,q++[delM s k x],⟨by omega,by simp only[qm,qi,qu];omega,jeE hd hI⟩,by omega,?_⟩;rw[<-jdv,jvS (hc23.trans zO)];exact(zWk))
 ·(
 iterate 7 refine zW ?_
 refine jbx rfl jcm ?_;refine xA (jqE x.t k s hs (hsz x (qk hx)) (hnn x (qk hx))) ?_;iterate 9 refine zW ?_
 refine jau [1,4,5,9,10,11,35,36] 1 rfl rfl (by repeat (first | exact SelC.nil | apply SelC.cons rfl (Cv.agg (CvL.cons Cv.same (CvL.cons Cv.same (CvL.cons Cv.fz (CvL.cons Cv.same CvL.nil))))) | apply SelC.cons rfl Cv.same)) ja4 ?_;refine jau [1,4,5,9,10,11,35,36] 3 rfl rfl jcb ja4 ?_;refine xLt 101 4 64 ?_;refine xEa 101 4 64 (hb:=by simp only[qi,qu,qm,qw];omega) λv38 hv38=>?_;iterate 10 refine zW ?_
 refine⟨k+1,v38,q++[delM s k x],⟨by omega,by simp only[qm,qi,qu];omega,jeE hd hI⟩,by omega,?_⟩;rw[<-jdv,jwa (hc23.trans zO) zO];exact(zWk)))
 ·(
 have hge:=qd hc;have hF:q=delC c s:=by rw[jae zo] at hI;simpa[delGo] using hI
 iterate 11 refine zW ?_
 refine zFz v [4] ?_;refine xP ?_
 rw[<-hF];rfl)
structure OKA(c:List Mem):Prop where
 len:c.length<=4
 decl:∀m∈c,m.decl=true
 size:∀m∈c,sizeT m.t<=200
 nn:∀m∈c,NN m.t
 ok:validC c=0
theorem OKA.s9(h:OKA c):∀m∈c,sizeT m.t<=1000000000:=λm hm=>by have:=h.size m hm;omega
theorem OKA.s2(h:OKA c):∀m∈c,sizeT m.t<=200000:=λm hm=>by have:=h.size m hm;omega
theorem OKA.l10(h:OKA c):c.length<=10:=by have:=h.len;omega
theorem OKA.any(h:OKA c):(c.any λm=>!m.decl)=false:=by
 rw[List.any_eq_false];intro m hm;rw[h.decl m hm];decide
theorem jsJ(h:n<=4):1<=2^n/\2^n<=16:=by
 have h1:0<2^n:=Nat.pow_pos zo;have h2:=Nat.pow_le_pow_right (show 0<2 by omega) h;omega
theorem jsK(h:(!decide ((n:Int)=0))=false):n=0:=by have:=jac h;omega
theorem js7(h:(!decide ((n:Int)=0))=true):¬n=0:=by have:=jaf h;omega
theorem jef{α:Type}{p:α->Bool}{x:α}{r:List α}(h:p x=false):(x::r).any p=r.any p:=by simp[h]
theorem jeb{α:Type}{p:α->Bool}{x:α}{r:List α}(h:p x=true):(x::r).any p=true:=by simp[h]
theorem jdp(c:List Mem)(hc:c.length<=4):C0 72 [cv c] (.i ((2^c.length - 1:Nat):Int)):=by
 refine xI Tryz.func72 Tryz.call72 λhcap=>?_;have hml:(c.map mv).length=c.length:=by simp
 have hpos:0<2^c.length:=Nat.pow_pos zo;have hle:=Nat.pow_le_pow_right (show 0<2 by omega) hc;refine xX λb1=>?_;refine xN λ_=>?_
 (rw[hml];refine zP (jaZ (p:=1) rfl rfl rfl zo zo) ?_)
 refine zP (jb3 (m:=((2^c.length - 1:Nat):Int)) rfl rfl (by show some _=_;simp only[qs];omega) zo) ?_;refine xP ?_;exact rfl
theorem jiO(m:Mem):C0 93 [mv m] (.b (!m.decl)):=by
 refine xI Tryz.func93 Tryz.call93 λhcap=>?_;refine xX λb1=>?_;refine xP ?_;exact rfl
theorem jms(f:FuncId)(p:Mem->Bool)(l:List Mem)(hf:∀k,k∈l->Con none Tryz.prog f [mv k] [] (Is (.b (p k)) [])):Con none Tryz.prog 131 [.sl 4 (l.map mv),.v (.func (.func f) #[] #[])] [] (λd H=>∃r:Int,d=.i r/\decide (0<=r)=l.any p/\H=[]):=by
 refine xI Tryz.func131 Tryz.call131 λhcap=>?_;have hl1:(l.map mv).length=l.length:=by simp
 refine xN λ_=>?_;iterate 4 refine zW ?_
 refine jah [0,1,7] [] (λ(k:Nat) r=>(8,.i (k:Int))::r) (λk r=>r) (λk=>k<=l.length/\(l.drop k).any p=l.any p) (λk=>l.length - k) (0) zRc ⟨by omega,by simp⟩ (zWk) ?_;intro k ⟨hk,hI⟩;refine xC ?_ ?_<;>intro hc
 ·(
 have hlt:k<l.length:=by have:=qc hc;omega
 obtain⟨x,hx,hd⟩:=jab hlt;have hx':=jad mv hx;rw[hd] at hI;iterate 17 refine zW ?_
 (refine jfC (caps:=[]) rfl zRc (hf x (qk hx)) jaE rfl rfl ?_;rintro _ _ ⟨rfl,rfl⟩;obtain⟨c16,hc16⟩:∃b,b=p x:=⟨_,rfl⟩;rw[<-hc16])
 refine xC ?_ ?_<;>intro hc
 ·(
 iterate 12 refine zW ?_
 refine jaS (.tmp rfl .nil) jcy ⟨_,rfl,?_,rfl⟩;rw[jeb (hc16.symm.trans hc)] at hI
 rw[<-hI];exact qg zo)
 ·(
 iterate 8 refine zW ?_
 rw[jef (hc16.symm.trans hc)] at hI
 refine⟨k+1,⟨by omega,hI⟩,by omega,zWk⟩))
 ·(
 have hge:l.length<=k:=by have:=qd hc;omega
 rw[jae hge] at hI;iterate 11 refine zW ?_
 refine jaS (.tmp rfl .nil) jcy ⟨_,rfl,?_,rfl⟩
 rw[<-hI];rfl)
theorem jd2(f:FuncId)(p:Mem->Bool)(l:List Mem)(hf:∀k,k∈l->Con none Tryz.prog f [mv k] [] (Is (.b (p k)) [])):C0 94 [.sl 4 (l.map mv),.v (.func (.func f) #[] #[])] (.b (l.any p)):=by
 refine xI Tryz.func94 Tryz.call94 λhcap=>?_;refine xB (jms f p l hf) ?_;rintro _ _ ⟨r,rfl,hr,rfl⟩;refine xP ?_;rw[<-hr];rfl
theorem jmK(b3 b7:Nat)(d3 d7:List D)(f:FuncId)(p:Vd->Bool)(l:List Vd)(hf:∀k,k∈l->Con none Tryz.prog f [vv k,.p b3 0,.p b7 0] [.box b7 78 d7,.box b3 145 d3] (Is (.b (p k)) [.box b7 78 d7,.box b3 145 d3])):Con none Tryz.prog 158 [.sl 5 (l.map vv),.v (.func (.func f) #[] #[.pointer (some ⟨b3,0,none⟩),.pointer (some ⟨b7,0,none⟩)])] [.box b7 78 d7,.box b3 145 d3] (λd H=>∃r:Int,d=.i r/\decide (0<=r)=l.any p/\H=[.box b7 78 d7,.box b3 145 d3]):=by
 refine xI Tryz.func158 Tryz.call158 λhcap=>?_;have hl1:(l.map vv).length=l.length:=by simp
 refine xN λ_=>?_;iterate 4 refine zW ?_
 refine jah [0,1,7] [] (λ(k:Nat) r=>(8,.i (k:Int))::r) (λk r=>.box b7 78 d7::.box b3 145 d3::r) (λk=>k<=l.length/\(l.drop k).any p=l.any p) (λk=>l.length - k) (0) zRc ⟨by omega,by simp⟩ (zWk) ?_;intro k ⟨hk,hI⟩;refine xC ?_ ?_<;>intro hc
 ·(
 have hlt:k<l.length:=by have:=qc hc;omega
 obtain⟨x,hx,hd⟩:=jab hlt;have hx':=jad vv hx;rw[hd] at hI;iterate 17 refine zW ?_
 (refine jfC (caps:=[.pointer (some ⟨b3,0,none⟩),.pointer (some ⟨b7,0,none⟩)]) rfl zRc (hf x (qk hx)) jaE rfl rfl ?_;rintro _ _ ⟨rfl,rfl⟩;obtain⟨c16,hc16⟩:∃b,b=p x:=⟨_,rfl⟩;rw[<-hc16])
 refine xC ?_ ?_<;>intro hc
 ·(
 iterate 12 refine zW ?_
 refine jaS (.tmp rfl .nil) jcy ⟨_,rfl,?_,rfl⟩;rw[jeb (hc16.symm.trans hc)] at hI
 rw[<-hI];exact qg zo)
 ·(
 iterate 8 refine zW ?_
 rw[jef (hc16.symm.trans hc)] at hI
 refine⟨k+1,⟨by omega,hI⟩,by omega,zWk⟩))
 ·(
 have hge:l.length<=k:=by have:=qd hc;omega
 rw[jae hge] at hI;iterate 11 refine zW ?_
 refine jaS (.tmp rfl .nil) jcy ⟨_,rfl,?_,rfl⟩
 rw[<-hI];rfl)
theorem jhI(b3 b7:Nat)(d3 d7:List D)(f:FuncId)(p:Vd->Bool)(l:List Vd)(hf:∀k,k∈l->Con none Tryz.prog f [vv k,.p b3 0,.p b7 0] [.box b7 78 d7,.box b3 145 d3] (Is (.b (p k)) [.box b7 78 d7,.box b3 145 d3])):Con none Tryz.prog 124 [.sl 5 (l.map vv),.v (.func (.func f) #[] #[.pointer (some ⟨b3,0,none⟩),.pointer (some ⟨b7,0,none⟩)])] [.box b7 78 d7,.box b3 145 d3] (Is (.b (l.any p)) [.box b7 78 d7,.box b3 145 d3]):=by
 refine xI Tryz.func124 Tryz.call124 λhcap=>?_;refine xB (jmK b3 b7 d3 d7 f p l hf) ?_;rintro _ _ ⟨r,rfl,hr,rfl⟩;refine xP ?_;rw[<-hr];rfl
theorem jl0(c:List Mem)(hok:OKA c)(s:Nat)(hs:s<2^c.length):C0 46 [cv c,.i s] (.i 0):=by
 refine xI Tryz.func46 Tryz.call46 λhcap=>?_;have hp:=jsJ hok.len;refine xX λb2=>?_;refine xA (jiC c hok.s9) ?_;iterate 11 refine zW ?_
 refine jan rfl (by rw[hok.ok];rfl) ?_;refine xA (jd2 _ (λm=>!m.decl) c (λk _=>jiO k)) ?_;iterate 3 refine zW ?_
 refine jan rfl hok.any ?_;iterate 5 refine zW ?_
 iterate 2 all_goals refine zW ?_
 all_goals (refine zY ?_;refine jaa zRc (jdp c hok.len) rfl rfl ?_)
 iterate 3 all_goals refine zW ?_
 all_goals (
 iterate 2 refine zW ?_
 refine jan rfl (by first | with_reducible assumption | (refine qz ?_;omega)) ?_
 refine xP ?_;exact rfl)
theorem jiy(c:List Mem)(hok:OKA c)(s:Nat)(hs:s<2^c.length):C0 65 [cv c,.i s] (.b (silentC c s)):=by
 refine xI Tryz.func65 Tryz.call65 λhcap=>?_;have hp:=jsJ hok.len;refine xX λb2=>?_;iterate 4 refine zW ?_
 refine zDr [] ?_;refine zT 0 ?_;refine zT 1 ?_;refine zT 3 ?_;refine zOn 2 ?_;refine xA (jdp c hok.len) ?_;refine zW ?_;refine zT 4 ?_;refine zOn 5 ?_;refine xA (jda c (co c s)) ?_;refine zW ?_;refine zT 6 ?_;refine zT 7 ?_;refine zW ?_
 all_goals (
 refine xP ?_;exact rfl)
theorem jlS(c:List Mem)(hok:OKA c)(s:Nat)(hs:s<2^c.length):C0 47 [cv c,.i s] (.tup [.i ((pairC c s).1:Nat),.i ((pairC c s).2.1:Nat),.b (pairC c s).2.2]):=by
 refine xI Tryz.func47 Tryz.call47 λhcap=>?_;have hp:=jsJ hok.len;refine xX λb2=>?_;refine xA (jve c hok.l10 s zo hok.s2 hok.decl hok.nn) ?_;refine zAl λb7=>?_;refine xA (jdp c hok.len) ?_;iterate 5 refine zW ?_
 refine jah [2,7,14] [.box b7 _ _,.box b2 _ _] (λ(k:Nat) r=>(15,.i (k:Int))::r) (λk r=>r) (λk=>k<=2^c.length/\pairGo (pairL c s) (pairR c s) (2^c.length - k) k=pairC c s) (λk=>2^c.length - k) (0) zRc ⟨by omega,rfl⟩ (zWk) ?_;intro k ⟨hk,hI⟩;refine xC ?_ ?_<;>intro hc
 ·(
 have hlt:=qc hc;iterate 11 refine zW ?_
 refine zDr [] ?_;refine zT 0 ?_;refine zT 1 ?_;refine zT 3 ?_;refine zT 4 ?_;refine zT 6 ?_;refine zOn 2 ?_;refine xA (jda (delC c s) k) ?_;refine zW ?_;refine zOn 5 ?_;refine xA (jdp c hok.len) ?_;refine zW ?_;refine zT 7 ?_;refine zOn 8 ?_;refine xA (jda (delC c s) (co c k:Nat)) ?_;refine zW ?_;refine zT 9 ?_;refine zT 10 ?_;refine zW ?_
 all_goals (
 iterate 6 refine zW ?_
 iterate 3 all_goals first | refine zW ?_ | refine xG ?_ ?_<;>intro hg
 all_goals (
 refine xC ?_ ?_<;>intro hc
 ·(
 first
 | (exact xQ hc)
 |(
 iterate 15 refine zW ?_
 rw[jiF zo (js7 (by unfold pairL;with_reducible assumption)) (js7 (by unfold pairR;with_reducible assumption))] at hI;rw[<-hI]
 (refine zPi ?_;exact rfl)))
 ·(
 first
 | (exact xQ hc)
 |(
 iterate 8 refine zW ?_
 have hz:pairL c s k=0\/pairR c s k=0:=by
  first
  | (refine .inl (jsK ?_);unfold pairL;with_reducible assumption)
  | (refine .inr (jsK ?_);unfold pairR;with_reducible assumption)
 rw[jd6 zo hz] at hI
 refine⟨k+1,⟨by omega,hI⟩,by omega,zWk⟩)))))
 ·(
 have hge:=qd hc;rw[jhX zo] at hI;iterate 13 refine zW ?_
 rw[<-hI]
 (refine zPi ?_;exact rfl))
theorem jsH(c:List Mem)(hok:OKA c)(s:Nat)(hs:s<2^c.length):C0 83 [cv c,.i s] (vv (judgeC c s)):=by
 refine xI Tryz.func83 Tryz.call83 λhcap=>?_;refine xX λb2=>?_;refine zAl λb4=>?_;refine xA (jlS c hok s hs) ?_;refine xA (jiy c hok s hs) ?_;refine xP ?_;exact rfl
theorem jqg(c:List Mem)(hok:OKA c)(s:Nat)(hs:s<2^c.length):C0 17 [cv c,.i s] (.b (silentC c s)):=by
 refine xI Tryz.func17 Tryz.call17 λhcap=>?_;refine xX λb2=>?_;refine xA (jl0 c hok s hs) ?_;iterate 2 refine zW ?_
 iterate 2 all_goals refine zW ?_
 all_goals (refine zY ?_;refine jaa zRc (jiy c hok s hs) rfl rfl ?_)
 iterate 2 all_goals refine zW ?_
 all_goals (
 refine xP ?_;exact rfl)
def subV(p:Vd->Bool)(v o:Vd):Bool:=p o&&(!decide ((o.nodes:Int)=v.nodes)&&decide (((o.nodes&&&(2^63 - 1 - v.nodes):Nat):Int)=0))
def leastGo(p:Vd->Bool)(l:List Vd):List Vd->List Int->List Int
 | [],out=>out
 | v::r,out=>if (p v&&!(l.any (subV p v)))=true then leastGo p l r (out++[(v.nodes:Int)]) else leastGo p l r out
def leastV(p:Vd->Bool)(l:List Vd):List Int:=leastGo p l l []
theorem jrH{p:Vd->Bool}{l r:List Vd}{v:Vd}{out:List Int}(h:(p v&&!(l.any (subV p v)))=true):leastGo p l (v::r) out=leastGo p l r (out++[(v.nodes:Int)]):=by rw[leastGo,qf h]
theorem jlv{p:Vd->Bool}{l r:List Vd}{v:Vd}{out:List Int}(h:(p v&&!(l.any (subV p v)))=false):leastGo p l (v::r) out=leastGo p l r out:=by rw[leastGo,qe (by rw[h];decide)]
theorem jpN(g:FuncId)(p:Vd->Bool)(hp0:∀v,Con none Tryz.prog g [vv v] [] (Is (.b (p v)) []))(b3 b7:Nat)(v o:Vd)(hv:v.nodes<1024)(ho:o.nodes<1024):Con none Tryz.prog 123 [vv o,.p b3 0,.p b7 0] [.box b7 78 [.i v.nodes,.b v.splits,.b v.halts,.i v.l,.i v.r],.box b3 145 [.v (.func (.func g) #[] #[])]] (Is (.b (subV p v o)) [.box b7 78 [.i v.nodes,.b v.splits,.b v.halts,.i v.l,.i v.r],.box b3 145 [.v (.func (.func g) #[] #[])]]):=by
 refine xI Tryz.func123 Tryz.call123 λhcap=>?_;refine xX λb3=>?_;iterate 7 refine zW ?_
 refine jdg (caps:=[]) rfl zRc (hp0 o) rfl rfl (λc7 hc7=>?_);refine zW ?_
 iterate 15 all_goals first | refine zW ?_ | refine xG ?_ ?_<;>intro hg
 all_goals (
 refine xP ?_;unfold subV
 simp_all[resD];done)
theorem jmG(v:Vd):C0 85 [vv v] (.b v.splits):=by
 refine xI Tryz.func85 Tryz.call85 λhcap=>?_;refine xX λb1=>?_;refine xP ?_;exact rfl
theorem jp6(v:Vd):C0 86 [vv v] (.b v.halts):=by
 refine xI Tryz.func86 Tryz.call86 λhcap=>?_;refine xX λb1=>?_;refine xP ?_;exact rfl
theorem jir(g:FuncId)(p:Vd->Bool)(hp0:∀v,Con none Tryz.prog g [vv v] [] (Is (.b (p v)) []))(l:List Vd)(hl:∀v∈l,v.nodes<1024)(hlen:l.length<=1000000):C0 84 [.sl 5 (l.map vv),.v (.func (.func g) #[] #[])] (.sl 1 ((leastV p l).map .i)):=by
 refine xI Tryz.func84 Tryz.call84 λhcap=>?_;have hl1:(l.map vv).length=l.length:=by simp
 refine xX λb3=>?_;refine xN λ_=>?_;iterate 4 refine zW ?_
 refine jax [0,3,9,10] [.box b3 _ _] (λ(k:Nat)(v:Value)(q:List Int) r=>(5,.v v)::(11,.i (k:Int))::r) (λk v q r=>.arr v 3 1 (q.map .i)::r) (λk v q=>k<=l.length/\q.length<=k/\leastGo p l (l.drop k) q=leastV p l) (λk v q=>l.length - k) (0) (.slice none 0 0) ([]) zRc ⟨by omega,by simp,by simp[leastV]⟩ ((jaF 3 1 rfl).trans (zWk)) ?_;intro k v q ⟨hk,hql,hI⟩;have hml:(q.map D.i).length=q.length:=by simp
 refine xC ?_ ?_<;>intro hc
 ·(
 have hlt:=qc hc;obtain⟨x,hx,hd⟩:=jab (l:=l) (k:=k) zo;have hx':=jad vv hx;refine xL λb7=>?_;iterate 13 refine zW ?_
 refine jdg (caps:=[]) rfl zRc (hp0 x) rfl rfl (λc18 hc18=>?_);refine zW ?_
 iterate 2 all_goals first | refine zW ?_ | refine xG ?_ ?_<;>intro hg
 all_goals first | (refine zY ?_;(refine jlP zRc (jhI b3 b7 _ _ 123 (subV p x) l (λo ho=>jpN g p hp0 b3 b7 x o (hl x (qk hx)) (hl o ho))) jaE rfl rfl ?_;obtain⟨c22,hc22⟩:∃b,b=l.any (subV p x):=⟨_,rfl⟩;rw[<-hc22])) | refine zSk ?_
 iterate 2 all_goals refine zW ?_
 all_goals (
 refine xC ?_ ?_<;>intro hc
 ·(
 first
 | (exact xQ hc)
 |(
 iterate 4 refine zW ?_
 refine xLt 3 1 8 ?_;refine xEa 3 1 8 λv29 hv29=>?_;iterate 9 refine zW ?_
 rw[hd] at hI
 have h0:(!c22)=true:=zO;have h1:c18=true:=zO;rw[jrH (by rw[hc18,<-hc22,h0,h1];rfl)] at hI;rw[jbr];refine⟨k+1,_,q++[(x.nodes:Int)],⟨by omega,by simp only[qm,qi,qu];omega,hI⟩,by omega,zWk⟩))
 ·(
 first
 | (exact xQ hc)
 |(
 iterate 8 refine zW ?_
 rw[hd] at hI
 first
 | (have h0:c18=false:=zO;rw[jlv (by rw[hc18,h0];rfl)] at hI;refine⟨k+1,v,q,⟨by omega,by omega,hI⟩,by omega,zWk⟩)
 | (have h0:(!c22)=false:=zO;rw[jlv (by rw[<-hc22,h0,qB])] at hI;refine⟨k+1,v,q,⟨by omega,by omega,hI⟩,by omega,zWk⟩)))))
 ·(
 have hge:=qd hc;rw[jae zo] at hI;simp only[leastGo] at hI;refine zFz v [5] ?_;iterate 12 refine zW ?_
 rw[<-hI]
 (refine zPi ?_;exact rfl))
theorem jk0(x y:List Int):C0 33 [.sl 1 (x.map .i),.sl 1 (y.map .i)] (.b (decide (x=y))):=by
 refine xI Tryz.func33 Tryz.call33 λhcap=>?_;have hx1:(x.map D.i).length=x.length:=by simp
 have hy1:(y.map D.i).length=y.length:=by simp
 refine xN λ_=>?_;refine xN λ_=>?_;refine xC ?_ ?_<;>intro hc
 ·(
 have hne:=jaf hc;refine xP ?_
 rw[qz (λe=>hne (by rw[e]))];rfl)
 ·(
 have hlen:=jac hc;have hll:x.length=y.length:=by omega
 refine xN λ_=>?_;iterate 4 refine zW ?_
 refine jah [0,1,12] [] (λ(k:Nat) r=>(13,.i (k:Int))::r) (λk r=>r) (λk=>k<=x.length/\x.take k=y.take k) (λk=>x.length - k) (0) zRc ⟨by omega,by simp⟩ (zWk) ?_;intro k ⟨hk,hI⟩;refine xC ?_ ?_<;>intro hc
 ·(
 have hlt:=qc hc;obtain⟨u,hu,_⟩:=jab (l:=x) (k:=k) zo;obtain⟨v,hv,_⟩:=jab (l:=y) (k:=k) zo;have hu':=jad D.i hu;have hv':=jad D.i hv;iterate 11 refine zW ?_
 refine zDr [] ?_;refine zT 0 ?_;refine zT 1 ?_;refine zT 2 ?_;refine zT 3 ?_;refine zT 4 ?_;refine zT 5 ?_;refine zT 6 ?_;refine zT 7 ?_;refine zT 8 ?_;refine zW ?_
 all_goals (
 refine xC ?_ ?_<;>intro hc
 ·(
 have hne:=jaf hc;refine xP ?_
 rw[qz (λe=>hne (by rw[e,hv] at hu;injection hu with hu;exact hu.symm))];rfl)
 ·(
 iterate 8 refine zW ?_
 have e:=jac hc
 refine⟨k+1,⟨by omega,by rw[List.take_add_one,List.take_add_one,hI,hu,hv,e]⟩,by omega,zWk⟩)))
 ·(
 have hge:=qd hc;refine xP ?_
 rw[qC zo,qC zo] at hI;rw[qg hI];rfl))
theorem jvn(x:Int){n:Int}(hn:0<n):0<=(x.tmod n+n).tmod n/\(x.tmod n+n).tmod n<n:=by
 have h:=jtd x hn;exact⟨Int.tmod_nonneg n zo,Int.tmod_lt_of_pos _ hn⟩
structure OKS(n:Nat)(t:Trust):Prop where
 ok:OKT n t
 nn:NN t
theorem jsE{th:Int}{q:List Int}{i2:List Trust}(hn:n<=9)(h1:1<=th)(h2:th<=q.length+i2.length)(hq:∀k∈q,0<=k/\k<(n:Int))(hd:q.Nodup)(hl:q.length<=n)(hi:i2=[]\/∃r:Int,(0<=r/\r<n)/\i2=[.mk 1 [r] []]):OKS n (.mk th q i2):=by
 have hs:sizeT (.mk th q i2)<=100:=by
  rcases hi with rfl | ⟨r,hr,rfl⟩<;>simp[sizeT,Trust.nodes,Trust.inner,sizeL,size0]<;>omega
 have hil:i2.length<=1:=by rcases hi with rfl | ⟨r,hr,rfl⟩<;>simp
 have hv:validT (.mk th q i2)=0:=by
  refine jhe ?_ zo (jps h1 (by exact h2) (λk hk=>by have:=hq k hk;omega) hd ?_)
  ·rcases hi with rfl | ⟨r,hr,rfl⟩<;>simp[depthT,Trust.inner,depthL,depth0]
  ·rcases hi with rfl | ⟨r,hr,rfl⟩
   ·exact λx h=>qp h qv
   ·intro x hx
    obtain rfl:x=.mk 1 [r] []:=by simpa using hx
    exact jfx zo
 refine⟨jzS ⟨hq,(jtF _ _).2 λx hx=>?_⟩ hv,.mk ⟨by omega,by omega⟩ λx hx=>?_⟩
 ·(
 rcases hi with rfl | ⟨r,hr,rfl⟩
 ·exact qp hx qv
 ·(
 have hx1:x∈[Trust.mk 1 [r] []]:=hx;obtain rfl:x=.mk 1 [r] []:=by simpa using hx1
 refine⟨λk hk=>?_,trivial⟩;have hk1:k∈[r]:=hk;obtain rfl:k=r:=by simpa using hk1
 exact hr))
 ·(
 rcases hi with rfl | ⟨r,hr,rfl⟩
 ·exact qp hx qv
 ·(
 obtain rfl:x=.mk 1 [r] []:=by simpa using hx
 exact .mk ⟨by omega,by omega⟩ (λy hy=>qp hy qv)))
def upN(n:Nat):List Int:=(List.range n).map λ(i:Nat)=>(i:Int)
theorem jkc(n:Nat):(upN n).length=n:=by simp[upN]
theorem jn0(n:Nat):upN (n+1)=upN n++[(n:Int)]:=by simp[upN,List.range_succ]
theorem jtj{k:Int}(h:k∈upN n):0<=k/\k<(n:Int):=by
 obtain⟨i,hi,rfl⟩:=List.mem_map.1 h;have:=List.mem_range.1 hi;omega
theorem jkS:∀n,(upN n).Nodup
 | 0=>by simp[upN]
 | n+1=>by rw[jn0];exact jiK (jkS n) (λk hk=>(jtj hk).2) zo
theorem jnY{k:Int}(hn:1<=n/\n<=9)(h1:1<=k)(h2:k<=n):OKS n (.mk k (upN n) []) :=
 jsE hn.2 h1 (by rw[jkc];simp;omega) (λx hx=>jtj hx) (jkS n) (by rw[jkc];omega) (.inl rfl)
theorem jv3(hl:1<=c.length/\c.length<=4)(h:∀m∈c,m.decl=true/\OKS c.length m.t):OKA c :=
 ⟨hl.2,λm hm=>(h m hm).1,λm hm=>jb2 (h m hm).2.ok.vd,λm hm=>(h m hm).2.nn,
  jtI ⟨by omega,λm hm=>⟨λe=>(by rw[(h m hm).1] at e;cases e),λ_=>(h m hm).2.ok⟩⟩⟩
theorem jtX(l:List Int):Con none Tryz.prog 8 [.sl 1 (l.map .i)] [] (λd H=>∃b,d=.p b 0/\H=[.box b 97 [.sl 1 ((l.take 800).map .i),.i ((0:Nat):Int)]]):=by
 refine xI Tryz.func8 Tryz.call8 λhcap=>?_;have hl1:(l.map D.i).length=l.length:=by simp
 refine xN λ_=>?_;refine zW ?_;refine zP (jd5 (k:=min l.length 800) rfl rfl rfl rfl (by simp only[qw];omega) (by simp only[qw];omega)) ?_;rw[<-List.map_take];refine xX λb9=>?_;iterate 4 refine zW ?_
 have e:l.take 800=l.take (min l.length 800):=by rw[Nat.min_comm];exact List.take_eq_take_min
 rw[e];refine jaS (.tmp rfl .nil) jcy ⟨_,rfl,rfl⟩
theorem jfN(b:Nat)(l:List Int)(a:Nat)(n:Int)(hn:1<=n/\n<=4611686018427387904):Con none Tryz.prog 43 [.p b 0,.i n] [.box b 97 [.sl 1 (l.map .i),.i ((a:Nat):Int)]] (λd H=>∃(r:Int) (a':Nat),d=.i r/\(0<=r/\r<n)/\H=[.box b 97 [.sl 1 (l.map .i),.i ((a':Nat):Int)]]):=by
 refine xI Tryz.func43 Tryz.call43 λhcap=>?_;have hl1:(l.map D.i).length=l.length:=by simp
 iterate 7 refine zW ?_
 refine zDr [] ?_;refine zT 0 ?_;refine zT 1 ?_;refine zT 2 ?_;refine zT 3 ?_;refine zT 4 ?_;refine zT 5 ?_;refine zT 6 ?_;refine zT 7 ?_;refine zT 8 ?_;refine zT 9 ?_;refine zT 10 ?_;refine jai 10 rfl (λhg=>?_) λhg=>?_
 rotate_left
 case' _ =>(
 refine zT 11 ?_;refine zT 12 ?_;refine zT 13 ?_
 refine zW ?_)
 rotate_right
 case' _ =>(
 refine zK 11 ?_;refine zK 12 ?_;refine zT 13 ?_
 refine zW ?_)
 all_goals (
 refine xC ?_ ?_<;>intro hc
 ·(
 first
 | (exact xQ hc)
 |(
 first | (have h18:=qc hc) | (have h18:=hc)
 iterate 7 refine zW ?_
 refine jaS (.tmp rfl .nil) jcy ⟨_,_,rfl,?_,rfl⟩
 omega))
 ·(
 first
 | (exact xQ hc)
 |(
 have h17:=qd hc;have h15:=qd hg;have hlt:a<l.length:=by omega
 obtain⟨x,hx,_⟩:=jab hlt;have hx':=jad D.i hx;have hn0:n≠0:=by omega
 have hm:=jtd x (show 0<n by omega);iterate 4 refine zW ?_
 refine jr5 (t:=12) rfl rfl (λhlen=>?_);refine zP (jl6 rfl) ?_;iterate 10 refine zW ?_
 refine zDr [] ?_;refine zT 0 ?_;refine zT 1 ?_;refine zT 2 ?_;refine zT 3 ?_;refine zT 4 ?_;refine zT 5 ?_;refine zT 6 ?_;refine zT 7 ?_;refine zT 8 ?_;refine jam 9 rfl zGd zKr zKr zKr (AP.ar (jap (k:=a) rfl rfl rfl rfl zd zo hx')) rfl rfl ?_;refine zT 10 ?_;refine zT 11 ?_;refine zT 12 ?_;refine zT 13 ?_;refine zT 14 ?_;refine zT 15 ?_;refine zT 16 ?_;refine zT 17 ?_;refine zW ?_
 all_goals (
 iterate 2 refine zW ?_
 refine jaS (.tmp rfl .nil) jcy ⟨_,a+1,rfl,?_,rfl⟩
 exact jvn _ zo))))
theorem jiL(b:Nat)(l:List Int)(a:Nat)(x y:Int)(h:x<=y/\-1000000<=x/\y<=1000000000):Con none Tryz.prog 9 [.p b 0,.i x,.i y] [.box b 97 [.sl 1 (l.map .i),.i ((a:Nat):Int)]] (λd H=>∃(r:Int) (a':Nat),d=.i r/\(x<=r/\r<=y)/\H=[.box b 97 [.sl 1 (l.map .i),.i ((a':Nat):Int)]]):=by
 refine xI Tryz.func9 Tryz.call9 λhcap=>?_;iterate 13 refine zW ?_
 refine jas zRc (jfN _ _ _ _ zo) jaE rfl rfl ?_;rintro _ _ ⟨r13,a13,rfl,hr13,rfl⟩;iterate 5 refine zW ?_
 refine jaS (.tmp rfl .nil) jcy ⟨_,_,rfl,?_,rfl⟩;omega
theorem jpE(b n:Nat)(l:List Int)(hn:1<=n/\n<=9)(a:Nat):Con none Tryz.prog 45 [.p b 0,.i n] [.box b 97 [.sl 1 (l.map .i),.i ((a:Nat):Int)]] (λd H=>∃(t:Trust) (a':Nat),d=av t/\OKS n t/\H=[.box b 97 [.sl 1 (l.map .i),.i ((a':Nat):Int)]]):=by
 refine xI Tryz.func45 Tryz.call45 λhcap=>?_;refine xL λb4=>?_;refine xL λb5=>?_;iterate 9 refine zW ?_
 refine jbq [0,1,4,5] [.box b4 _ _] (λ(k:Nat)(v:Value)(q:List Int)(a:Nat) r=>(6,.i (k:Int))::r) (λk v q a r=>.box b5 48 [.i 0,.v v,.nil]::.arr v 3 1 (q.map .i)::.box b 97 [.sl 1 (l.map .i),.i ((a:Nat):Int)]::r) (λk v q a=>k<=n/\q.length<=k/\(∀x∈q,0<=x/\x<(k:Int))/\q.Nodup) (λk v q a=>n - k) (0) (.slice none 0 0) ([]) (a) zRc ⟨by omega,by simp,by simp,by simp⟩ ((jaF 3 1 rfl).trans (zWk)) ?_;intro k v q a ⟨hk,hql,hqm,hqd⟩;have hml:(q.map D.i).length=q.length:=by simp
 refine xC ?_ ?_<;>intro hc
 ·(
 have hlt:=qc hc;iterate 7 refine zW ?_
 refine jas zRc (jfN _ _ _ _ zo) jaE rfl rfl ?_;rintro _ _ ⟨r14,a14,rfl,hr14,rfl⟩;refine xC ?_ ?_<;>intro hc
 ·(
 iterate 4 refine zW ?_
 refine xLt 3 1 8 ?_;refine xEa 3 1 8 λv20 hv20=>?_;iterate 11 refine zW ?_
 rw[jbr];refine⟨k+1,_,q++[(k:Int)],_,⟨by omega,by simp only[qm,qi,qu];omega,ji5 (λy hy=>by have:=hqm y hy;omega) zo,jiK hqd (λy hy=>(hqm y hy).2) zo⟩,by omega,zWk⟩)
 ·(
 iterate 9 refine zW ?_
 refine⟨k+1,_,q,_,⟨by omega,by omega,λy hy=>by have:=hqm y hy;omega,hqd⟩,by omega,zWk⟩))
 ·(
 iterate 10 refine zW ?_
 refine zW ?_;refine xC ?_ ?_<;>intro hc
 rotate_left
 case' _ =>(
 obtain⟨p,hp⟩:∃p:List Int,p=q:=⟨_,rfl⟩
 have hpl:1<=p.length/\p.length<=n:=by have:=qd hc;rw[hp];omega
 have hpd:p.Nodup:=by rw[hp];exact hqd
 have hpm:∀x∈p,0<=x/\x<(n:Int):=λy hy=>by have:=hqm y (hp ▸ hy);omega
 refine zW ?_)
 rotate_right
 case' _ =>(
 iterate 3 refine zW ?_
 refine jas zRc (jfN _ _ _ _ zo) jaE rfl rfl ?_;rintro _ _ ⟨r28,a28,rfl,hr28,rfl⟩;obtain⟨p,hp⟩:∃p:List Int,p=[r28]:=⟨_,rfl⟩;have hpl:1<=p.length/\p.length<=n:=(by rw[hp];simp;omega);have hpd:p.Nodup:=(by rw[hp];simp);have hpm:∀x∈p,0<=x/\x<(n:Int):=(by rw[hp];simp;omega)
 refine xLt 3 1 8 ?_
 iterate 3 refine zW ?_)
 all_goals (
 iterate 3 refine zW ?_
 refine zFz v [0,1,4,5] ?_
 first | (rw[show [D.i r28]=p.map D.i from by rw[hp];rfl]) | rw[<-hp]
 have hml2:(p.map D.i).length=p.length:=by simp
 iterate 2 refine zW ?_
 refine jas zRc (jfN _ _ _ _ zo) jaE rfl rfl ?_;rintro _ _ ⟨r32,a32,rfl,hr32,rfl⟩;refine xC ?_ ?_<;>intro hc
 rotate_left
 case' _ =>(
 refine zW ?_)
 rotate_right
 case' _ =>(
 refine zDr [.box b _ _,.box b5 _ _] ?_;refine zT 0 ?_;refine zT 2 ?_;refine zT 3 ?_;refine zE2 1 4 ?_ ?_
 rotate_left
 case' _ =>(
 refine jas zRc (jfN _ _ _ _ zo) jaE rfl rfl ?_;rintro _ _ ⟨r38,a38,rfl,hr38,rfl⟩;refine zW ?_;refine zE2 1 5 ?_ ?_
 rotate_left
 case' _ =>(
 refine xLt 3 1 8 ?_;refine zW ?_;refine zT 6 ?_;refine zE2 1 7 ?_ ?_
 rotate_left
 case' _ =>(
 first | (refine jau [0,1,4,5,34,35,40] 3 rfl rfl (by repeat (first | exact SelC.nil | apply SelC.cons rfl (Cv.agg (CvL.cons Cv.same (CvL.cons Cv.same (CvL.cons Cv.fz CvL.nil)))) | apply SelC.cons rfl Cv.same)) ja4 ?_;refine xLt 48 3 56 ?_) | (refine jau [0,1,4,5,34,40] 3 rfl rfl (by repeat (first | exact SelC.nil | apply SelC.cons rfl (Cv.agg (CvL.cons Cv.same (CvL.cons Cv.same (CvL.cons Cv.fz CvL.nil)))) | apply SelC.cons rfl Cv.same)) ja4 ?_;refine xLt 48 3 56 ?_)
 refine zW ?_;refine zOn 1 ?_;iterate 2 refine zW ?_
 refine zOn 8 ?_
 first | refine xEa 48 3 56 λv42 hv42=>?_ | refine xEn 48 3 56 λv42 hv42=>?_
 refine zW ?_;refine zT 9 ?_;refine zOn 10 ?_
 iterate 3 refine zW ?_)
 rotate_right
 case' _ =>(
 iterate 2 refine zW ?_
 refine zOn 7 ?_;refine jau [0,1,4,5,34,35,40] 3 rfl rfl (by repeat (first | exact SelC.nil | apply SelC.cons rfl (Cv.agg (CvL.cons Cv.same (CvL.cons Cv.same (CvL.cons Cv.fz CvL.nil)))) | apply SelC.cons rfl Cv.same)) ja4 ?_;refine xLt 48 3 56 ?_;refine zW ?_;refine zOn 8 ?_
 first | refine xEa 48 3 56 λv42 hv42=>?_ | refine xEn 48 3 56 λv42 hv42=>?_
 refine zW ?_;refine zT 9 ?_;refine zOn 10 ?_
 iterate 3 refine zW ?_))
 rotate_right
 case' _ =>(
 iterate 2 refine zW ?_
 refine zOn 5 ?_;refine xLt 3 1 8 ?_;refine zW ?_;refine zT 6 ?_;refine zOn 7 ?_;refine jau [0,1,4,5,34,35,40] 3 rfl rfl (by repeat (first | exact SelC.nil | apply SelC.cons rfl (Cv.agg (CvL.cons Cv.same (CvL.cons Cv.same (CvL.cons Cv.fz CvL.nil)))) | apply SelC.cons rfl Cv.same)) ja4 ?_;refine xLt 48 3 56 ?_;refine zW ?_;refine zOn 8 ?_
 first | refine xEa 48 3 56 λv42 hv42=>?_ | refine xEn 48 3 56 λv42 hv42=>?_
 refine zW ?_;refine zT 9 ?_;refine zOn 10 ?_
 iterate 3 refine zW ?_))
 rotate_right
 case' _ =>(
 iterate 2 refine zW ?_
 refine zOn 4 ?_;refine jas zRc (jfN _ _ _ _ zo) jaE rfl rfl ?_;rintro _ _ ⟨r38,a38,rfl,hr38,rfl⟩;refine zW ?_;refine zOn 5 ?_;refine xLt 3 1 8 ?_;refine zW ?_;refine zT 6 ?_;refine zOn 7 ?_;refine jau [0,1,4,5,34,35,40] 3 rfl rfl (by repeat (first | exact SelC.nil | apply SelC.cons rfl (Cv.agg (CvL.cons Cv.same (CvL.cons Cv.same (CvL.cons Cv.fz CvL.nil)))) | apply SelC.cons rfl Cv.same)) ja4 ?_;refine xLt 48 3 56 ?_;refine zW ?_;refine zOn 8 ?_
 first | refine xEa 48 3 56 λv42 hv42=>?_ | refine xEn 48 3 56 λv42 hv42=>?_
 refine zW ?_;refine zT 9 ?_;refine zOn 10 ?_
 iterate 3 refine zW ?_))
 all_goals (
 iterate 2 refine zW ?_
 first | (refine zFz v42 [0,4,5] ?_;obtain⟨i2,hi2,hii⟩:∃i2:List Trust,(i2=[]\/∃r:Int,(0<=r/\r<n)/\i2=[.mk 1 [r] []])/\i2=[.mk 1 [r38] []]:=⟨_,.inr ⟨r38,hr38,rfl⟩,rfl⟩;rw[show [D.agg [.i 1,.sl 1 [.i r38],.sl 3 []]]=avs i2 from by rw[hii];rfl]) | (refine jak [0,4,5] 3 rfl jcb jcr ?_;obtain⟨i2,hi2,hii⟩:∃i2:List Trust,(i2=[]\/∃r:Int,(0<=r/\r<n)/\i2=[.mk 1 [r] []])/\i2=[]:=⟨_,.inl rfl,rfl⟩;rw[show D.sl 3 []=D.sl 3 (avs i2) from by rw[hii];rfl])
 have hil:i2.length<=1:=by rcases hi2 with h | ⟨r,_,h⟩<;>rw[h]<;>simp
 have hal:=jaQ i2;refine xN λ_=>?_;refine xN λ_=>?_;iterate 9 refine zW ?_
 refine zP (jrv rfl rfl zo) ?_;refine zW ?_;refine jas zRc (jiL _ _ _ _ _ zo) jaE rfl rfl ?_;rintro _ _ ⟨r56,a56,rfl,hr56,rfl⟩;iterate 8 refine zW ?_
 refine jas zRc (jfN _ _ _ _ zo) jaE rfl rfl ?_;rintro _ _ ⟨r59,a59,rfl,hr59,rfl⟩;refine xC ?_ ?_<;>intro hc
 rotate_left
 case' _ =>(
 refine zW ?_)
 rotate_right
 case' _ =>(
 iterate 4 refine zW ?_)
 all_goals (
 iterate 8 refine zW ?_
 first | exact jaS (.cell rfl jct rfl rfl .nil) jcy ⟨.mk 1 p i2,_,rfl,jsE hn.2 zo zo hpm hpd hpl.2 hi2,rfl⟩ | exact jaS (.cell rfl jct rfl rfl .nil) jcy ⟨.mk r56 p i2,_,rfl,jsE hn.2 zo zo hpm hpd hpl.2 hi2,rfl⟩))))
theorem joD(n:Nat)(hn:n<=1000)(k:Int):C0 44 [.i n,.i k] (av (.mk k (upN n) [])):=by
 refine xI Tryz.func44 Tryz.call44 λhcap=>?_;refine xL λb4=>?_;refine xL λb5=>?_;iterate 10 refine zW ?_
 refine jag [0,4,5] [.box b4 _ _] (λ(j:Nat)(v:Value) r=>(6,.i (j:Int))::r) (λj v r=>.box b5 48 [.i k,.v v,.nil]::.arr v 3 1 ((upN j).map .i)::r) (λj v=>j<=n) (λj v=>n - j) (0) (.slice none 0 0) zRc zo ((jaF 3 1 rfl).trans (zWk)) ?_;intro j v hj;have hml:((upN j).map D.i).length=j:=by rw[qw,jkc]
 refine xC ?_ ?_<;>intro hc
 ·(
 have hlt:=qc hc;iterate 8 refine zW ?_
 refine xLt 3 1 8 ?_;refine xEa 3 1 8 (hb:=by simp only[qi,qu,qm,qw,jkc];omega) λv18 hv18=>?_;iterate 11 refine zW ?_
 refine⟨j+1,v18,by omega,by omega,?_⟩
 rw[jn0,<-jbr];exact zWk)
 ·(
 have hge:=qd hc;obtain rfl:j=n:=by omega
 refine zFz v [4,5] ?_;refine jak [4,5] 3 rfl jcb jcr ?_
 refine xP ?_;exact rfl)
theorem jmh(b n:Nat)(l:List Int)(hn:1<=n/\n<=4)(a:Nat):Con none Tryz.prog 10 [.p b 0,.i n] [.box b 97 [.sl 1 (l.map .i),.i ((a:Nat):Int)]] (λd H=>∃(c:List Mem) (a':Nat),d=cv c/\(OKA c/\c.length=n)/\H=[.box b 97 [.sl 1 (l.map .i),.i ((a':Nat):Int)]]):=by
 refine xI Tryz.func10 Tryz.call10 λhcap=>?_;refine xL λb4=>?_;refine xL λb5=>?_;iterate 5 refine zW ?_
 refine jas zRc (jfN _ _ _ _ zo) jaE rfl rfl ?_;rintro _ _ ⟨r10,a10,rfl,hr10,rfl⟩;iterate 11 refine zW ?_
 refine jbq [0,1,4,5,6] [.box b4 _ _] (λ(k:Nat)(v:Value)(q:List Mem)(a:Nat) r=>(7,.i (k:Int))::r) (λk v q a r=>.box b5 28 [.v v]::.arr v 101 4 (q.map mv)::.box b 97 [.sl 1 (l.map .i),.i ((a:Nat):Int)]::r) (λk v q a=>k<=n/\q.length=k/\∀m∈q,m.decl=true/\OKS n m.t) (λk v q a=>n - k) (0) (.slice none 0 0) ([]) (a10) zRc ⟨by omega,rfl,by simp⟩ ((jaF 101 4 rfl).trans (zWk)) ?_;intro k v q a ⟨hk,hql,hqm⟩;have hml:(q.map mv).length=q.length:=by simp
 refine xC ?_ ?_<;>intro hc
 ·(
 have hlt:=qc hc;iterate 8 refine zW ?_
 refine zP (jrv rfl rfl zo) ?_;refine zW ?_;refine jaa zRc (joD n zo _) rfl rfl ?_;refine zAl λb8=>?_;refine xC ?_ ?_<;>intro hc
 ·(
 iterate 3 refine zW ?_
 refine jas zRc (jpE _ _ _ zo _) jaE rfl rfl ?_;rintro _ _ ⟨t26,a26,rfl,ht26,rfl⟩;iterate 8 refine zW ?_
 refine xLt 101 4 64 ?_;refine xEa 101 4 64 λv32 hv32=>?_;iterate 11 refine zW ?_
 have h0:(!decide (0<r10))=true:=zO;rw[show .agg [.b true,.i t26.th,.sl 1 (t26.nodes.map .i),.sl 3 (avs t26.inner)]=mv ⟨true,t26⟩ from rfl,jdv];refine⟨k+1,_,q++[⟨true,t26⟩],_,⟨by omega,by simp only[qm,qi,qu];omega,ji5 hqm ⟨rfl,ht26⟩⟩,by omega,zWk⟩)
 ·(
 iterate 7 refine zW ?_
 refine xLt 101 4 64 ?_;refine xEa 101 4 64 λv32 hv32=>?_;iterate 11 refine zW ?_
 rw[show .agg [.b true,.i (Trust.mk ((n:Int) / 2+1) (upN n) []).th,.sl 1 ((Trust.mk ((n:Int) / 2+1) (upN n) []).nodes.map .i),.sl 3 (avs (Trust.mk ((n:Int) / 2+1) (upN n) []).inner)]=mv ⟨true,.mk ((n:Int) / 2+1) (upN n) []⟩ from rfl,jdv];refine⟨k+1,_,q++[⟨true,.mk ((n:Int) / 2+1) (upN n) []⟩],_,⟨by omega,by simp only[qm,qi,qu];omega,ji5 hqm ⟨rfl,jnY zo zo zo⟩⟩,by omega,zWk⟩))
 ·(
 have hge:=qd hc;refine zFz v [4,5] ?_;iterate 12 refine zW ?_
 exact jaS (.cell rfl jct rfl rfl .nil) jcy ⟨q,_,rfl,⟨jv3 zo (λm hm=>by rw[show q.length=n by omega];exact hqm m hm),by omega⟩,rfl⟩)
theorem jtn(k:Nat):(List.replicate k m3).map mv++[mv m3]=(List.replicate (k+1) m3).map mv:=by rw[jdv,List.replicate_succ']
theorem jzG:Con none Tryz.prog 44 [.i 3,.i 2] [] (Is (av (.mk 2 (upN 3) [])) []):=joD 3 zo 2
theorem jv0:OKA c3:=jv3 zd (λm hm=>by
 have h:m=m3:=by simp only[c3,List.mem_cons,qv,or_false,or_self] at hm;exact hm
 subst h
 exact⟨rfl,jnY (n:=3) (k:=2) zo zo zo⟩)
theorem jha:C0 48 [] (cv c3):=by
 refine xI Tryz.func48 Tryz.call48 λhcap=>?_;refine xL λb0=>?_;refine xL λb1=>?_;iterate 9 refine zW ?_
 refine jag [0,1] [.box b0 _ _] (λ(k:Nat)(v:Value) r=>(2,.i (k:Int))::r) (λk v r=>.box b1 28 [.v v]::.arr v 101 4 ((List.replicate k m3).map mv)::r) (λk v=>k<=3) (λk v=>3 - k) (0) (.slice none 0 0) zRc zo ((jaF 101 4 rfl).trans (zWk)) ?_;intro k v hk;have hml:((List.replicate k m3).map mv).length=k:=by simp
 refine xC ?_ ?_<;>intro hc
 ·(
 have hlt:=qc hc;iterate 4 refine zW ?_
 refine zDr [.box b1 _ _,.arr v _ _ _] ?_;refine zT 0 ?_;refine zE2 1 2 ?_ ?_
 rotate_left
 case' _ =>(
 refine xA (jzG) ?_;refine zW ?_;refine zT 3 ?_;refine zE2 1 4 ?_ ?_
 rotate_left
 case' _ =>(
 refine xLt 101 4 64 ?_;refine zW ?_;refine zOn 1 ?_;iterate 2 refine zW ?_
 refine zOn 5 ?_;refine xEa 101 4 64 (hb:=by simp only[qi,qu,qm,qw,List.length_replicate];omega) λv12 hv12=>?_;refine zW ?_;refine zT 6 ?_;refine zOn 7 ?_
 iterate 3 refine zW ?_)
 rotate_right
 case' _ =>(
 iterate 2 refine zW ?_
 refine zOn 4 ?_;refine xLt 101 4 64 ?_;refine zW ?_;refine zOn 5 ?_;refine xEa 101 4 64 (hb:=by simp only[qi,qu,qm,qw,List.length_replicate];omega) λv12 hv12=>?_;refine zW ?_;refine zT 6 ?_;refine zOn 7 ?_
 iterate 3 refine zW ?_))
 rotate_right
 case' _ =>(
 iterate 2 refine zW ?_
 refine zOn 2 ?_;refine xA (jzG) ?_;refine zW ?_;refine zT 3 ?_;refine zOn 4 ?_;refine xLt 101 4 64 ?_;refine zW ?_;refine zOn 5 ?_;refine xEa 101 4 64 (hb:=by simp only[qi,qu,qm,qw,List.length_replicate];omega) λv12 hv12=>?_;refine zW ?_;refine zT 6 ?_;refine zOn 7 ?_
 iterate 3 refine zW ?_)
 all_goals (
 iterate 8 refine zW ?_
 rw[show .agg [.b true,.i (Trust.mk 2 (upN 3) []).th,.sl 1 ((Trust.mk 2 (upN 3) []).nodes.map .i),.sl 3 (avs (Trust.mk 2 (upN 3) []).inner)]=mv m3 from rfl,jtn]
 refine⟨k+1,_,by omega,by omega,zWk⟩))
 ·(
 have hge:=qd hc;obtain rfl:k=3:=by omega
 refine zFz v [0,1] ?_
 refine xP ?_;exact rfl)
def valV(x:Vd):Value:=.agg #[.int .i64 x.nodes,.bool x.splits,.bool x.halts,.int .i64 x.l,.int .i64 x.r]
theorem jwm(x:Vd)(w:World)(O:Nat->Prop):Rep w O (vv x) (valV x):=by
 simp only[vv,valV,Rep,RepL];exact⟨_,rfl,_,_,rfl,rfl,rfl,_,_,rfl,rfl,rfl,_,_,rfl,rfl,rfl,_,_,rfl,rfl,rfl,_,_,rfl,rfl,rfl,rfl⟩
theorem jy1(x:Vd)(w:World)(O:Nat->Prop)(y:Value)(h:Rep w O (vv x) y):y=valV x:=by
 simp only[vv,Rep,RepL] at h;obtain⟨cs,rfl,c1,r1,rfl,rfl,-,c2,r2,rfl,rfl,-,c3,r3,rfl,rfl,-,c4,r4,rfl,rfl,-,c5,r5,rfl,rfl,-,rfl⟩:=h;rfl
theorem jql(c:List Mem)(hok:OKA c)(ch k:Nat)(hk:k<2^c.length):ConW Tryz.prog 82 [.el (.v (.chan (some ch))),.el (cv c),.el (.i k)] ch (valV (judgeC c k)):=by
 refine jyt 4 Tryz.func82 rfl rfl Tryz.call82 rfl (by kernel_rfl) rfl [#[false,false,false,false,false],#[true,false,false,false,false],#[false,true,false,false,false],#[true,true,false,false,false],#[false,false,true,false,false],#[true,false,true,false,false],#[false,true,true,false,false],#[true,true,true,false,false],#[false,true,true,true,false],#[true,true,true,true,false]] (by kernel_rfl) ?_;refine jfB 0 zd rfl (.none rfl) (by kernel_rfl) (by kernel_rfl) (by kernel_rfl) (AQ.ar (jcj rfl rfl (.v rfl) (λ_ h=>h))) rfl rfl ?_;refine jfB 1 zd rfl (.none rfl) (by kernel_rfl) (by kernel_rfl) (by kernel_rfl) (AQ.ar (jfl rfl rfl rfl rfl (λ_ h=>h))) rfl rfl ?_;refine jfB 2 zd rfl (.none rfl) (by kernel_rfl) (by kernel_rfl) (by kernel_rfl) (AQ.ar (jcj rfl rfl (.v rfl) (λ_ h=>h))) rfl rfl ?_;refine jq8 3 zd (by kernel_rfl) rfl ?_;refine jaa (by repeat constructor) (jsH c hok k hk) rfl rfl ?_;refine jaT ?_;exact jqp (by kernel_rfl) ⟨rfl,_,rfl,jy1 _⟩
def pdl(f:Nat->Value):Nat->List Value
 | 0=>[]
 | k+1=>f k::pdl f k
def downs:Nat->List Nat
 | 0=>[]
 | k+1=>k::downs k
theorem jq1(f:Nat->Value):∀n,pdl f n=(downs n).map f
 | 0=>rfl
 | n+1=>by rw[pdl,downs,List.map_cons,jq1 f n]
theorem jg4{k:Nat}:∀{n},k∈downs n↔k<n
 | 0=>by simp[downs]
 | n+1=>by rw[downs,List.mem_cons,jg4];omega
theorem jgz:∀n,(downs n).length=n
 | 0=>rfl
 | n+1=>by rw[downs,qi,jgz n]
theorem jln{f:Nat->Value}:∀{l:List Nat}{l₁:List Value}{v:Value}{l₂:List Value},l.map f=l₁++v::l₂->∃m₁ k m₂,l=m₁++k::m₂/\l₁=m₁.map f/\v=f k/\l₂=m₂.map f
 | [],l₁,v,l₂,h=>by cases l₁<;>simp at h
 | x::l,[],v,l₂,h=>by
  simp only[List.map_cons,List.nil_append,List.cons.injEq] at h;exact⟨[],x,l,rfl,rfl,h.1.symm,h.2.symm⟩
 | x::l,y::l₁,v,l₂,h=>by
  simp only[List.map_cons,List.cons_append,List.cons.injEq] at h;obtain⟨m₁,k,m₂,h1,h2,h3,h4⟩:=jln h.2;exact⟨x::m₁,k,m₂,by rw[h1];rfl,by rw[List.map_cons,<-h2,h.1],h3,h4⟩
def vd0:Vd:=⟨0,false,false,0,0⟩
def zrow:Nat->List Value
 | 0=>[]
 | n+1=>.int .i64 0::.bool false::.bool false::.int .i64 0::.int .i64 0::zrow n
theorem joe(w:World)(O:Nat->Prop):∀n,RepE w O 5 ((List.replicate n vd0).map vv) (zrow n)
 | 0=>by simp[RepE,zrow]
 | n+1=>by
  rw[List.replicate_succ,List.map_cons,zrow];simp only[RepE];exact⟨valV vd0,zrow n,rfl,rfl,by simp[valV,Value.cells,Value.oneCell'],jwm _ _ _,joe w O n⟩
theorem jw3(h:n<=4):tmade Tryz.prog 78 (2^n * 5)=some (zrow (2^n)):=by
 rcases(show n=0\/n=1\/n=2\/n=3\/n=4 by omega) with rfl | rfl | rfl | rfl | rfl<;>kernel_rfl
def allV(c:List Mem):List Vd:=(List.range (2^c.length)).map (judgeC c)
theorem joi(c:List Mem):(allV c).length=2^c.length:=by simp[allV]
theorem jxV{q:List Vd}(hl:q.length=2^c.length)(h:∀k,k<2^c.length->q[k]?=some (judgeC c k)):q=allV c:=by
 refine List.ext_getElem? λk=>?_
 by_cases hk:k<2^c.length
 ·rw[h k hk];simp[allV,hk]
 ·rw[List.getElem?_eq_none zo,List.getElem?_eq_none (by rw[joi];omega)]
end Go.Proofs.YtgmpjpaekpefdaaGreat
