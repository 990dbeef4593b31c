/- Walks: each says what one function of the program answers, for the arguments that its statement names. No condition beyond what each theorem says. -/
import Derived.Test.YtgmpjpaekpefdaaGreatAnalyserPlainW1
import Derived.Test.YtgmpjpaekpefdaaGreatProg
import Derived.KernelRfl
import Derived.Tactics
import Derived.Tactics2
import Derived.StillTactics
set_option linter.unusedVariables false
set_option linter.unusedSimpArgs false
set_option maxRecDepth 4000
set_option maxHeartbeats 2000000
namespace Go.Proofs.YtgmpjpaekpefdaaGreat
open Go Go.Av Go.Tq
variable {n k:Nat} {c:List Mem} {m:Mem} {t:Trust} {s:Int} {Ps:Value→World→Prop}
theorem jfS (v:Int):∀ (t:Trust),checkT t=0→sizeT t≤200→depthT t≤4→Con none Tryz.prog 290 [av t,.i v] [] (Is (wRes (weight v t)) []):=by
 have hcap:=jbu
 intro t
 induction t using Trust.ind with
 | _ t ih =>
  intro hck hsz hdp
  have hl1:(t.nodes.map D.i).length=t.nodes.length:=by simp
  have hl2:=jaT t.inner
  have hs0:sizeT t=t.nodes.length+t.inner.length+sizeL t.inner:=rfl
  have hlo:=(jgM hck).lo
  have hhi:=(jgM hck).hi
  refine jar Tryz.func290 rfl Tryz.call290 rfl ?_
  refine xX fun b2=>?_
  refine zAl fun b4=>?_
  refine xN fun _=>?_
  refine xN fun _=>?_
  refine xN fun _=>?_
  iterate 4 refine zW ?_
  refine jaj [1,2,4,6,21,22] [.box b2 _ _,.box b4 _ _] (fun (k:Nat) r=>(23,.i (k:Int))::r) (fun k r=>r) (fun k=>k≤t.nodes.length∧(t.nodes.drop k).contains v=t.nodes.contains v) (fun k=>t.nodes.length - k) (0) zRc ⟨by omega,by simp⟩ (zWk) ?_
  intro k ⟨hk,hI⟩
  refine xC ?_ ?_<;>intro hc
  ·have hlt:k<t.nodes.length:=by have:=qc hc;omega
   obtain ⟨x,hx,hd⟩:=jab hlt
   have hx':=jad D.i hx
   refine xC ?_ ?_<;>intro hc
   ·refine xP ?_
    have e:=qc hc
    rw [hd,List.contains_cons,e,beq_self_eq_true,Bool.true_or] at hI
    unfold weight;rw [qf hI.symm,← hl1,← hl2];rfl
   ·iterate 8 refine zW ?_
    have e:=qd hc
    rw [hd,List.contains_cons,beq_false_of_ne (fun h=>e h.symm),Bool.false_or] at hI
    refine ⟨k+1,⟨by omega,hI⟩,by omega,zWk⟩
  ·have hge:t.nodes.length≤k:=by have:=qd hc;omega
   rw [jac hge] at hI
   have hcon:t.nodes.contains v=false:=hI.symm
   refine xN fun _=>?_
   iterate 4 refine zW ?_
   refine jaj [1,2,4,6,36,37] [.box b2 _ _,.box b4 _ _] (fun (k:Nat) r=>(38,.i (k:Int))::r) (fun k r=>r) (fun k=>k≤t.inner.length∧weightL v (t.inner.drop k)=weightL v t.inner) (fun k=>t.inner.length - k) (0) zRc ⟨by omega,by simp⟩ (zWk) ?_
   intro k ⟨hk,hI⟩
   refine xC ?_ ?_<;>intro hc
   ·have hlt:k<t.inner.length:=by have:=qc hc;omega
    obtain ⟨x,hx,hd⟩:=jab hlt
    have hx':=jbk hx
    have hxm:=qj hx
    refine xL fun b10=>?_
    iterate 4 refine zW ?_
    have hcx:=(jgM hck).inner x hxm;have hsx:=jhi hxm;have hdx:=jgC hxm;rcases hw:weight v x with _ | ⟨w1,w2⟩
    all_goals (
     refine xA ((by first | exact juT (ih x hxm hcx (by omega) (by omega)) hw | exact juo (ih x hxm hcx (by omega) (by omega)) hw)) ?_
     refine xL fun b11=>?_
     refine xC ?_ ?_<;>intro hc
     ·first
      | (exact xQ hc)
      | (refine zW ?_
         obtain ⟨b1,b2,b3⟩:=jpb hcx (by omega) (by omega) hw
         obtain ⟨p1,p2,p3⟩:=juK hlo hhi (show ((t.nodes.length:Int)+t.inner.length)≤200 by omega) b1 b2 b3
         simp only [hl1,hl2]
         refine xP ?_
         rw [hd,jcX,hw] at hI
         unfold weight;rw [qe (by rw [hcon];decide),← hI];rfl
       )
     ·first
      | (exact xQ hc)
      | (iterate 8 refine zW ?_
         rw [hd,jcX,hw] at hI
         refine ⟨k+1,⟨by omega,hI⟩,by omega,zWk⟩
       )
     )
   ·have hge:t.inner.length≤k:=by have:=qd hc;omega
    rw [jac hge] at hI;simp only [weightL] at hI
    refine xP ?_
    unfold weight;rw [qe (by rw [hcon];decide),← hI];rfl
theorem jqL (t:Trust) (ht:sizeT t≤1000000000) (v slot round node:Int):C0 284 [av t,.i v,.i slot,.i round,.i node] (.b (nbrV t v slot round node)):=by
 refine xI Tryz.func284 Tryz.call284 fun hcap=>?_
 refine xX fun b5=>?_
 refine xA (jeX t ht v slot round) ?_
 iterate 2 refine zW ?_
 iterate 7 all_goals first | refine zW ?_ | refine xG ?_ ?_<;>intro hg
 all_goals (
 refine xC ?_ ?_<;>intro hc
 ·(
 first
 | (exact xQ hc)
 |(
 iterate 7 refine zW ?_
 refine jao (.tmp rfl .nil) .nil ?_
 unfold nbrV
 first
 | (rw [qx (jaf (show (!decide (askedV t v slot round=0))=true by with_reducible assumption)),qv];rfl)
 | (have:=qc (show decide (node<0)=true by with_reducible assumption);rw [qx (p:=0≤node) (by omega),qv,qw];rfl)
 | (have:=qc (show decide (10≤node)=true by with_reducible assumption);rw [qx (p:=node<10) (by omega),qv,qw,qw];rfl)))
 ·(
 first
 | (exact xQ hc)
 |(
 have hk:=jae (show (!decide (askedV t v slot round=0))=false by with_reducible assumption)
 have hn1:=qd (show decide (node<0)=false by with_reducible assumption)
 have hn2:=qd (show decide (10≤node)=false by with_reducible assumption)
 have hv:=(jbX hk).1
 iterate 3 refine zW ?_
 rcases hw:weight node t with _ | ⟨w1,w2⟩
 all_goals (
 refine xA ((by first | exact juT (jfS node t (jaS hv).1 (jaS hv).2.1 (jaS hv).2.2) hw | exact juo (jfS node t (jaS hv).1 (jaS hv).2.1 (jaS hv).2.2) hw)) ?_
 refine xL fun b11=>?_
 iterate 5 refine zW ?_
 have hhb:=jpy 1 slot round node
 try have hwb:=joF hv hw
 try have hhm:=jsE hhb (show 0≤w2∧w2≤1600000000 by omega)
 refine zDr [] ?_
 refine zT 0 ?_;refine zT 1 ?_;refine zT 2 ?_;refine zT 3 ?_
 refine jai 3 rfl (fun hg=>?_) fun hg=>?_
 rotate_left
 case' _ =>(
 first
 | (exact xQ hg)
 | (exfalso;simp at hg;done)
 |(
 refine zT 4 ?_
 refine zT 5 ?_
 refine jai 5 rfl (fun hg=>?_) fun hg=>?_
 rotate_left
 case' _ =>(
 first
 | (exact xQ hg)
 |(
 refine zK 6 ?_
 refine zK 7 ?_;refine zK 8 ?_;refine zK 9 ?_;refine zK 10 ?_;refine zK 11 ?_;refine zK 12 ?_;refine zK 13 ?_;refine zK 14 ?_;refine zK 15 ?_;refine zK 16 ?_;refine zK 17 ?_;refine zT 18 ?_;refine zT 19 ?_;refine zT 20 ?_
 refine zW ?_))
 rotate_right
 case' _ =>(
 first
 | (exact xQ hg)
 |(
 refine zT 6 ?_
 refine zT 7 ?_;refine zT 8 ?_;refine zT 11 ?_;refine zT 12 ?_;refine zT 14 ?_;refine zT 15 ?_
 refine jan 16 rfl zGd zKr zKr zKr (AP.ar (jjo (m:=32) rfl rfl (by decide))) rfl rfl ?_
 refine zOn 9 ?_
 refine xA (jfU _ _ _ _) ?_
 refine zW ?_
 refine jan 10 rfl zGd zKr zKr zKr (AP.ar (jrw rfl rfl rfl (by omega))) rfl rfl ?_
 refine zT 13 ?_;refine zT 17 ?_;refine zT 18 ?_;refine zT 19 ?_;refine zT 20 ?_
 refine zW ?_))))
 rotate_right
 case' _ =>(
 first
 | (exact xQ hg)
 | (exfalso;simp at hg;done)
 |(
 refine zK 4 ?_
 refine zKu 5 ?_;refine zK 6 ?_;refine zK 7 ?_;refine zK 8 ?_;refine zK 9 ?_;refine zK 10 ?_;refine zK 11 ?_;refine zK 12 ?_;refine zK 13 ?_;refine zK 14 ?_;refine zK 15 ?_;refine zK 16 ?_;refine zK 17 ?_;refine zK 18 ?_;refine zT 19 ?_;refine zT 20 ?_
 refine zW ?_))
 all_goals (
 iterate 2 refine zW ?_
 refine jao (.tmp rfl .nil) .nil ?_
 unfold nbrV
 rw [qg hk,qg (p:=0≤node) (by omega),qg (p:=node<10) (by omega),qs,qs,qs]
 first
 | (rw [qc (show decide (node=v)=true by with_reducible assumption),jjd];rfl)
 | (have he:=qd (show decide (node=v)=false by with_reducible assumption);first | (rw [jsx hw he];rfl) | (unfold nbr;rw [hw,qx he,Bool.false_or];exact congrArg D.b (jtt hwb))))))))
theorem jkz (t:Trust) (v slot round:Int) (h:askedV t v slot round=0):C0 270 [av t,.i v,.i slot,.i round] (.tup [.i (chooseV t v slot round),.i 0]):=by
 have hcap:=jbu
 have ha:=jbX h
 have hsz:=(jaS ha.1).2.1
 obtain ⟨v0,rfl⟩:=qz ha.2.1
 refine jar Tryz.func270 rfl Tryz.call270 rfl ?_
 refine xX fun b4=>?_
 refine xA ((by have h1:=jeX t (by omega) v0 slot round;rw [h] at h1;exact h1)) ?_
 iterate 9 refine zW ?_
 refine jaE rfl jg9 ?_
 iterate 15 refine zW ?_
 refine jag [1,2,3,4] [.box b4 _ _] (fun (k:Nat) (b:Nat) r=>(11,.i (b:Int))::(12,.i (k:Int))::r) (fun k b r=>r) (fun k b=>k≤10∧b<10∧nbr t v0 slot round b=true∧∀ u:Nat,u<k→nbr t v0 slot round u=true→hashV 2 slot round u≤hashV 2 slot round b∧(hashV 2 slot round u=hashV 2 slot round b→u≤b)) (fun k b=>10 - k) (0) (v0) zRc ⟨by omega,by omega,jjd _ _ _ _,fun u hu=>by omega⟩ (zWk) ?_
 intro k b ⟨hk,hb,hnb,hI⟩
 refine xC ?_ ?_<;>intro hc
 ·(
 have hlt:=qc hc
 refine xE ((by have h1:=jqL t (by omega) v0 slot round k;rw [jv3 h (by omega)] at h1;exact h1)) fun c33 hc33=>?_
 refine xC ?_ ?_<;>intro hc
 ·(
 iterate 10 refine zW ?_
 refine ⟨k+1,b,⟨by omega,hb,hnb,jjz (fun u=>hashV 2 slot round (u:Int)) (fun u=>nbr t v0 slot round (u:Int)) hI (fun h=>by have h2:=hc33.trans (jau (by with_reducible assumption));exact Bool.noConfusion (h.symm.trans h2))⟩,by omega,zWk⟩)
 ·(
 refine xA (jfU _ _ _ _) ?_
 refine xA (jfU _ _ _ _) ?_
 iterate 5 refine zW ?_
 obtain ⟨p,hp⟩:∃ p,hashV 2 slot round (k:Int)=p:=⟨_,rfl⟩
 obtain ⟨q,hq⟩:∃ q,hashV 2 slot round (b:Int)=q:=⟨_,rfl⟩
 rw [hp,hq]
 iterate 5 refine zW ?_
 iterate 9 all_goals first | refine zW ?_ | refine xG ?_ ?_<;>intro hg
 all_goals (
 refine xC ?_ ?_<;>intro hc
 ·(
 first
 | (exact xQ hc)
 |(
 iterate 12 refine zW ?_
 refine ⟨k+1,k,⟨by omega,by omega,hc33.trans (jat (by with_reducible assumption)),jjt (fun u=>hashV 2 slot round (u:Int)) (fun u=>nbr t v0 slot round (u:Int)) hp hq hI (by first | exact .inl (qc (show decide (q<p)=true by with_reducible assumption)) | exact .inr ⟨qc (show decide (p=q)=true by with_reducible assumption),qc (show decide ((b:Int)<(k:Int))=true by with_reducible assumption)⟩)⟩,by omega,zWk⟩))
 ·(
 first
 | (exact xQ hc)
 |(
 iterate 9 refine zW ?_
 first
 | (refine ⟨k+1,k,⟨by omega,by omega,hc33.trans (jat (by with_reducible assumption)),jjt (fun u=>hashV 2 slot round (u:Int)) (fun u=>nbr t v0 slot round (u:Int)) hp hq hI (by first | exact .inl (qc (show decide (q<p)=true by with_reducible assumption)) | exact .inr ⟨qc (show decide (p=q)=true by with_reducible assumption),qc (show decide ((b:Int)<(k:Int))=true by with_reducible assumption)⟩)⟩,by omega,zWk⟩)
 | (refine ⟨k+1,b,⟨by omega,hb,hnb,jo8 (fun u=>hashV 2 slot round (u:Int)) (fun u=>nbr t v0 slot round (u:Int)) hp hq hI (qd (show decide (q<p)=false by with_reducible assumption)) (by first | exact .inl (qd (show decide (p=q)=false by with_reducible assumption)) | exact .inr (qd (show decide ((b:Int)<(k:Int))=false by with_reducible assumption)))⟩,by omega,zWk⟩))))))
 ·(
 have hge:=qd hc
 obtain rfl:k=10:=by omega
 refine xP ?_
 rw [jjr (by omega) hb hnb hI];rfl)
theorem jqz {v slot round e:Int} (ht:sizeT t≤1000000000) (h:askedV t v slot round=e):Con none Tryz.prog 283 [av t,.i v,.i slot,.i round] [] (Is (.i e) []):=by rw [← h];exact jeX t ht v slot round
theorem jkr (t:Trust) (ht:sizeT t≤1000000000) (v slot round e:Int) (he:askedV t v slot round=e) (h0:¬ e=0):C0 270 [av t,.i v,.i slot,.i round] (.tup [.i 0,.i e]):=by
 refine xI Tryz.func270 Tryz.call270 fun hcap=>?_
 refine xX fun b4=>?_
 refine xA (jqz ht he) ?_
 iterate 9 refine zW ?_
 refine jbQ rfl (by simp [h0]) ?_
 refine xP ?_;exact rfl
theorem jif (t:Trust) (ht:sizeT t≤1000000000) (v slot round e:Int) (he:askedV t v slot round=e) (h0:¬ e=0):C0 254 [av t,.i v,.i slot,.i round] (.tup [.i 0,.i e]):=by
 refine xI Tryz.func254 Tryz.call254 fun hcap=>?_
 refine xX fun b4=>?_
 refine xA (jkr t ht v slot round e he h0) ?_
 iterate 13 refine zW ?_
 refine jbQ rfl (by simp [h0]) ?_
 refine xP ?_;exact rfl
theorem jhd {v slot round:Int} {b:Nat} (h:askedV t v slot round=0) (hb:chooseV t v slot round=b):Con none Tryz.prog 270 [av t,.i v,.i slot,.i round] [] (Is (.tup [.i b,.i 0]) []):=by rw [← hb];exact jkz t v slot round h
theorem ji3 (t:Trust) (v slot:Int) (n:Nat) (h:askedV t v slot n=0):C0 254 [av t,.i v,.i slot,.i n] (.tup [.i (leadersTo t v slot n:Int),.i 0]):=by
 have hcap:=jbu
 have ha:=jbX h
 have hsz:=(jaS ha.1).2.1
 obtain ⟨c0,hc0,hcv0,_,_⟩:=jcx (t:=t) (v:=v) (slot:=slot) (round:=(n:Int)) ⟨ha.2.1,ha.2.2.1⟩
 refine jar Tryz.func254 rfl Tryz.call254 rfl ?_
 refine xX fun b4=>?_
 refine xA (jhd h hcv0) ?_
 iterate 13 refine zW ?_
 refine jaE rfl jg9 ?_
 iterate 14 refine zW ?_
 refine jaj [1,2,3,4] [.box b4 _ _] (fun (k:Nat) r=>(12,.i (leadersTo t v slot k:Int))::(13,.i ((k+1:Nat):Int))::r) (fun k r=>r) (fun k=>k≤n) (fun k=>n - k) (0) zRc (by omega) (zWk) ?_
 intro k hk
 refine xC ?_ ?_<;>intro hc
 ·(
 have hlt:=qc hc
 obtain ⟨cb,hcb,hcv,_,_⟩:=jcx (t:=t) (v:=v) (slot:=slot) (round:=((k+1:Nat):Int)) ⟨ha.2.1,ha.2.2.1⟩
 have hp:=jaH hcb
 have hls:=jh3 (t:=t) (slot:=slot) ⟨ha.2.1,ha.2.2.1⟩ k
 refine xA (jhd (jlh h (by omega) (by omega)) hcv) ?_
 refine xE (jcu _ _) fun c42 hc42=>?_
 refine xC ?_ ?_<;>intro hc
 ·(
 iterate 3 refine zW ?_
 refine zP (jbg (p:=1) rfl rfl rfl (by omega) (by omega)) ?_
 iterate 11 refine zW ?_
 rw [← je9 hcv];refine ⟨k+1,by omega,by omega,zWk⟩)
 ·(
 iterate 9 refine zW ?_
 have e:leadersTo t v slot (k+1)=leadersTo t v slot k:=(by rw [je9 hcv];exact ju3 (by have h5:=((jaY hls).1 (hc42.trans (jat hc))).2.2;rwa [qr] at h5));refine ⟨k+1,by omega,by omega,?_⟩;rw [e];exact (zWk)))
 ·(
 have hge:=qd hc
 obtain rfl:k=n:=by omega
 refine xP ?_;exact rfl)
theorem jjq (t:Trust) (ht:sizeT t≤1000000000) (v slot round:Int):C0 254 [av t,.i v,.i slot,.i round] (.tup [.i (leadersR t v slot round).1,.i (leadersR t v slot round).2]):=by
 unfold leadersR
 by_cases h:askedV t v slot round=0
 ·(
 rw [qf h]
 obtain ⟨n,rfl⟩:=qz (show 0≤round by have:=jbX h;omega)
 rw [qr]
 exact ji3 t v slot n h)
 ·rw [qe h];exact jif t ht v slot round _ rfl h
def blankT (t:Trust):Bool:=decide (t.th=0)&&(decide (t.nodes.length=0)&&decide (t.inner.length=0))
theorem jrF {b:Bool} (h:m.decl=false) (hb:blankT m.t=b):memV m n=if b=true then 0 else 1:=by
 unfold memV
 rw [h,← hb]
 unfold blankT
 simp [and_assoc]
theorem jre (t:Trust):C0 150 [av t] (.b (blankT t)):=by
 refine xI Tryz.func150 Tryz.call150 fun hcap=>?_
 have hl1:(t.nodes.map D.i).length=t.nodes.length:=by simp
 have hl2:=jaT t.inner
 refine xX fun b1=>?_
 iterate 9 refine zW ?_
 iterate 2 all_goals first | refine zW ?_ | refine xG ?_ ?_<;>intro hg
 all_goals first | (refine zY ?_;(first | refine zLn fun _=>?_ | refine zW ?_)) | refine zSk ?_
 all_goals first | (refine zY ?_;(rw [hl1];refine zW ?_)) | refine zSk ?_
 iterate 4 all_goals first | refine zW ?_ | refine xG ?_ ?_<;>intro hg
 all_goals first | (refine zY ?_;(first | refine zLn fun _=>?_ | refine zW ?_)) | refine zSk ?_
 all_goals first | (refine zY ?_;(rw [hl2];refine zW ?_)) | refine zSk ?_
 iterate 2 all_goals refine zW ?_
 all_goals (
 refine xP ?_
 unfold blankT
 simp_all [resD];done)
theorem jpm (m:Mem) (hm:sizeT m.t≤1000000000) (n:Nat) (hn:n≤10):C0 116 [mv m,.i n] (.i (memV m n)):=by
 refine xI Tryz.func116 Tryz.call116 fun hcap=>?_
 have hp10:=jb3 hn
 have hul:=je1 m.t
 refine xX fun b2=>?_
 refine xC ?_ ?_<;>intro hc
 ·(
 have hdl:m.decl=false:=jau hc
 refine xE (jre m.t) fun c11 hc11=>?_
 refine xC ?_ ?_<;>intro hc
 ·(
 iterate 8 refine zW ?_
 refine jao (.tmp rfl .nil) .nil ?_
 rw [jrF hdl (hc11.trans (jau hc))];rfl)
 ·(
 iterate 9 refine zW ?_
 refine jao (.tmp rfl .nil) .nil ?_
 rw [jrF hdl (hc11.trans (jat hc))];rfl))
 ·(
 have hdl:m.decl=true:=jat hc
 refine xA (jpc m.t hm) ?_
 refine xC ?_ ?_<;>intro hc
 ·(
 have hv:=jaf hc
 iterate 8 refine zW ?_
 refine jao (.tmp rfl .nil) .nil ?_
 unfold memV;rw [qf hdl,qe hv];rfl)
 ·(
 have hv:=jae hc
 iterate 4 refine zW ?_
 refine zDr [] ?_
 refine zT 0 ?_;refine zT 1 ?_;refine zT 3 ?_
 refine jan 4 rfl zGd zKr zKr zKr (AP.ar (jbg (p:=1) rfl rfl rfl (by omega) (by omega))) rfl rfl ?_
 refine zOn 2 ?_
 refine xA (jtk m.t) ?_
 refine zW ?_
 refine zT 5 ?_
 refine zW ?_
 all_goals (
 refine xC ?_ ?_<;>intro hc
 ·(
 have hge:=qc hc
 iterate 7 refine zW ?_
 refine jao (.tmp rfl .nil) .nil ?_
 unfold memV;rw [qf hdl,qf hv,qf (by omega)];rfl)
 ·(
 have hge:=qd hc
 iterate 8 refine zW ?_
 refine jao (.tmp rfl .nil) .nil ?_
 unfold memV;rw [qf hdl,qf hv,qe (by omega)];rfl))))
theorem jhu (c:List Mem) (hs:∀ m∈c,sizeT m.t≤1000000000):C0 70 [cv c] (.i (validC c)):=by
 refine xI Tryz.func70 Tryz.call70 fun hcap=>?_
 have hml:(c.map mv).length=c.length:=by simp
 refine xX fun b1=>?_
 refine xN fun _=>?_
 refine xC ?_ ?_<;>intro hc
 ·(
 have hlen:=qc hc
 iterate 7 refine zW ?_
 refine jao (.tmp rfl .nil) .nil ?_
 unfold validC;rw [qf (by omega)];rfl)
 ·(
 have hlen:=qd hc
 refine xN fun _=>?_
 iterate 4 refine zW ?_
 refine jaj [1,11,12] [.box b1 _ _] (fun (k:Nat) r=>(13,.i (k:Int))::r) (fun k r=>r) (fun k=>k≤c.length∧memsV c.length (c.drop k)=memsV c.length c) (fun k=>c.length - k) (0) zRc ⟨by omega,by simp⟩ (zWk) ?_
 intro k ⟨hk,hI⟩
 refine xC ?_ ?_<;>intro hc
 ·(
 have hlt:=qc hc
 obtain ⟨x,hx,hd⟩:=jab (l:=c) (k:=k) (by omega)
 have hx':=jad mv hx
 refine xL fun b4=>?_
 refine xN fun _=>?_
 (rw [hml];refine jaa zRc (jpm x (hs x (qj hx)) c.length (by omega)) rfl rfl ?_)
 refine xC ?_ ?_<;>intro hc
 ·(
 iterate 12 refine zW ?_
 refine jao (.tmp rfl .nil) .nil ?_
 rw [hd] at hI;simp only [memsV] at hI
 rw [qe (jaf hc)] at hI
 unfold validC;rw [qe (by omega),← hI];rfl)
 ·(
 iterate 8 refine zW ?_
 rw [hd] at hI;simp only [memsV] at hI
 rw [qf (jae hc)] at hI
 refine ⟨k+1,⟨by omega,hI⟩,by omega,zWk⟩))
 ·(
 have hge:=qd hc
 rw [jac (by omega)] at hI;simp only [memsV] at hI
 iterate 11 refine zW ?_
 refine jao (.tmp rfl .nil) .nil ?_
 unfold validC;rw [qe (by omega),← hI];rfl))
theorem v32:validC (sameC 3 2)=0:=jn4 (by omega) (by omega)
theorem a32:aloneC (sameC 3 2) 0=false:=by kernel_rfl
theorem jrA (t:Trust):same t Trust.none=blankT t:=by
 unfold same blankT
 have h1:decide (t.nodes=Trust.none.nodes)=decide (t.nodes.length=0):=by rw [Bool.eq_iff_iff,decide_eq_true_iff,decide_eq_true_iff];simp [Trust.none,Trust.nodes]
 have h2:sameL t.inner Trust.none.inner=decide (t.inner.length=0):=by
  cases h:t.inner with
  | nil=>rfl
  | cons x r=>rfl
 rw [h1,h2]
 rfl
theorem juk {b:Bool} (h:m.decl=false) (hb:same m.t Trust.none=b):memV m n=if b=true then 0 else 1:=jrF h (by rw [← jrA];exact hb)
theorem jx7 (h:m.decl=true) (hv:¬ validT m.t=0):memV m n=validT m.t:=by unfold memV;rw [qf h,qe hv]
theorem jxq (h:m.decl=true) (hv:validT m.t=0) (hu:2^n≤uses m.t):memV m n=5:=by unfold memV;rw [qf h,qf hv,qf hu]
theorem jwU (h:m.decl=true) (hv:validT m.t=0) (hu:¬ 2^n≤uses m.t):memV m n=0:=by unfold memV;rw [qf h,qf hv,qe hu]
theorem jlP (c:List Mem) (hs:∀ m∈c,sizeT m.t≤1000000000):C0 49 [cv c] (.i (validC c)):=by
 refine xI Tryz.func49 Tryz.call49 fun hcap=>?_
 have hml:(c.map mv).length=c.length:=by simp
 refine xX fun b1=>?_
 refine xN fun _=>?_
 refine xC ?_ ?_<;>intro hc
 ·(
 have hlen:=qc hc
 iterate 7 refine zW ?_
 refine jao (.tmp rfl .nil) .nil ?_
 unfold validC;rw [qf (by omega)];rfl)
 ·(
 have hlen:=qd hc
 have h10:=jb3 (n:=c.length) (by omega)
 have hul:=fun t:Trust=>je1 t
 have hp2:2^(c.map mv).length=2^c.length:=by rw [hml]
 refine xN fun _=>?_
 iterate 4 refine zW ?_
 refine jaj [1,11,12] [.box b1 _ _] (fun (k:Nat) r=>(13,.i (k:Int))::r) (fun k r=>r) (fun k=>k≤c.length∧memsV c.length (c.drop k)=memsV c.length c) (fun k=>c.length - k) (0) zRc ⟨by omega,by simp⟩ (zWk) ?_
 intro k ⟨hk,hI⟩
 refine xC ?_ ?_<;>intro hc
 ·(
 have hlt:=qc hc
 obtain ⟨x,hx,hd⟩:=jab (l:=c) (k:=k) (by omega)
 have hx':=jad mv hx
 have hul2:=hul x.t
 refine xL fun b4=>?_
 refine xC ?_ ?_<;>intro hc
 ·(
 have hdl:x.decl=false:=jau hc
 iterate 6 refine zW ?_
 (refine jaD [1,11,12,13,21,22] 1 rfl rfl (by repeat (first | exact SelC.nil | apply SelC.cons rfl (Cv.agg (CvL.cons Cv.same (CvL.cons Cv.fz (CvL.cons Cv.same CvL.nil)))) | apply SelC.cons rfl Cv.same)) jb0 ?_;refine jaD [1,11,12,13,21,22] 3 rfl rfl jdy jb0 ?_;refine jbw zRc (jb1 x.t Trust.none) rfl rfl fun c23 hc23=>?_)
 refine xC ?_ ?_<;>intro hc
 ·(
 have hm1:memV x c.length=1:=by rw [juk hdl (hc23.trans (jau hc))];rfl
 iterate 13 refine zW ?_
 refine jao (.tmp rfl .nil) .nil ?_
 rw [hd] at hI;simp only [memsV] at hI
 rw [qe (by rw [hm1];first | exact hv9 | omega),hm1] at hI
 unfold validC;rw [qe (by omega),← hI];rfl)
 ·(
 have hm0:memV x c.length=0:=by rw [juk hdl (hc23.trans (jat hc))];rfl
 iterate 11 refine zW ?_
 rw [hd] at hI;simp only [memsV] at hI
 rw [qf hm0] at hI
 refine ⟨k+1,⟨by omega,hI⟩,by omega,zWk⟩))
 ·(
 have hdl:x.decl=true:=jat hc
 refine xA (jaN x.t (hs x (qj hx))) ?_
 refine xC ?_ ?_<;>intro hc
 ·(
 have hv9:=jaf hc
 have hm1:memV x c.length=validT x.t:=jx7 hdl hv9
 iterate 13 refine zW ?_
 refine jao (.tmp rfl .nil) .nil ?_
 rw [hd] at hI;simp only [memsV] at hI
 rw [qe (by rw [hm1];first | exact hv9 | omega),hm1] at hI
 unfold validC;rw [qe (by omega),← hI];rfl)
 ·(
 have hv:=jae hc
 iterate 3 refine zW ?_
 refine zDr [] ?_
 refine zT 0 ?_;refine zT 1 ?_;refine zT 3 ?_;refine zT 4 ?_;refine zT 5 ?_
 refine jan 6 rfl zGd zKr zKr zKr (AP.ar (jbg (p:=1) rfl rfl rfl (by omega) (by omega))) rfl rfl ?_
 refine zOn 2 ?_
 refine xA (jrC x.t) ?_
 refine zW ?_
 refine zT 7 ?_
 refine zW ?_
 all_goals (
 refine xC ?_ ?_<;>intro hc
 ·(
 have hge:=qc hc
 have hm1:memV x c.length=5:=jxq hdl hv (by omega)
 iterate 11 refine zW ?_
 refine jao (.tmp rfl .nil) .nil ?_
 rw [hd] at hI;simp only [memsV] at hI
 rw [qe (by rw [hm1];first | exact hv9 | omega),hm1] at hI
 unfold validC;rw [qe (by omega),← hI];rfl)
 ·(
 have hge:=qd hc
 have hm0:memV x c.length=0:=jwU hdl hv (by omega)
 iterate 8 refine zW ?_
 rw [hd] at hI;simp only [memsV] at hI
 rw [qf hm0] at hI
 refine ⟨k+1,⟨by omega,hI⟩,by omega,zWk⟩)))))
 ·(
 have hge:=qd hc
 rw [jac (by omega)] at hI;simp only [memsV] at hI
 iterate 11 refine zW ?_
 refine jao (.tmp rfl .nil) .nil ?_
 unfold validC;rw [qe (by omega),← hI];rfl))
theorem ju1 {th th2:Int} {q:List Int} {q2:List Trust} (h1:lessN s t.nodes t.th []=(th,q)) (h2:lessI s t.inner th []=(th2,q2)):less s t=.mk th2 q q2:=by unfold less;rw [h1,h2]
theorem jxp (h:has s k=true):delM s k m=⟨false,Trust.none⟩:=by unfold delM;rw [qf h]
theorem jwN (h:has s k=false) (hd:m.decl=true):delM s k m=⟨m.decl,delT s k m.t⟩:=by unfold delM;rw [qe (by rw [h];decide),qf hd,hd]
theorem jmm {x:Mem} {l l' q:List Mem} (hd:l=x::l') (hI:q++delGo s k l=delC c s):(q++[delM s k x])++delGo s (k+1) l'=delC c s:=by rw [← hI,hd];simp [delGo]
abbrev TB (k:Int):Prop:=0≤k∧k≤1000000000000
inductive NN:Trust→Prop
 | mk {th:Int} {q:List Int} {i:List Trust} (h:TB th) (hi:∀ y∈i,NN y):NN (.mk th q i)
theorem NN.th (h:NN t):TB t.th:=by cases h with | mk h hi=>exact h
theorem NN.inner (h:NN t):∀ y∈t.inner,NN y:=by cases h with | mk h hi=>exact hi
theorem jqP {k:Int} (h:TB k):TB (lw k)∧max k 1 - 1=lw k:=by
 obtain ⟨h1,h2⟩:=h
 unfold lw TB
 split
 ·omega
 ·rw [jeN (by omega) (by omega)];omega
theorem jiZ {s:Int}:∀ (l:List Int) (th:Int) (q:List Int),TB th→TB (lessN s l th q).1
 | [],th,q,h=>by simpa [lessN] using h
 | x::l,th,q,h=>by
  simp only [lessN]
  split
  ·exact jiZ l _ _ (jqP h).1
  ·exact jiZ l _ _ h
theorem ji9 {s:Int}:∀ (l:List Trust) (th:Int) (q:List Trust),TB th→TB (lessI s l th q).1
 | [],th,q,h=>by simpa [lessI] using h
 | x::l,th,q,h=>by
  rw [jeF]
  split
  ·exact ji9 l _ _ (jqP h).1
  ·exact ji9 l _ _ h
theorem jse (h:NN t):TB (less s t).th :=
 ji9 t.inner _ [] (jiZ t.nodes t.th [] h.th)
theorem jgs (k:Int) (h:TB k):C0 200 [.i k,.i 1] (.i (lw k)):=by
 have hcap:=jbu
 have h2:=(jqP h).2
 obtain ⟨h0,h1⟩:=h
 refine jar Tryz.func200 rfl Tryz.call200 rfl ?_
 iterate 11 refine zW ?_
 refine zP (jb7 (m:=lw k) rfl rfl (by simp only [addI,ql];exact h2) (by omega)) ?_
 refine xP ?_;exact rfl
theorem jo9 (s:Int):∀ (t:Trust),sizeT t≤200000→NN t→Con none Tryz.prog 160 [av t,.i s] [] (Is (av (less s t)) []):=by
 have hcap:=jbu
 intro t
 induction t using Trust.ind with
 | _ t ih =>
  have hl1:(t.nodes.map D.i).length=t.nodes.length:=by simp
  have hl2:=jaT t.inner
  intro hsz hnn
  have hs0:sizeT t=t.nodes.length+t.inner.length+sizeL t.inner:=rfl
  have hm0:max t.th 0=t.th:=by have:=hnn.th.1;omega
  refine jar Tryz.func160 rfl Tryz.call160 rfl ?_
  refine xX fun b2=>?_
  refine zAl fun b4=>?_
  refine xL fun b5=>?_
  iterate 5 refine zW ?_
  rw [hm0]
  refine xN fun _=>?_
  iterate 4 refine zW ?_
  refine jbt [1,2,4,5,15,16] [.box b4 _ _,.box b2 _ _] (fun (k:Nat) (v:Value) (th:Int) (q:List Int) r=>(17,.i (k:Int))::r) (fun k v th q r=>.box b5 48 [.i th,.v v,.nil]::.arr v 3 1 (q.map .i)::r) (fun k v th q=>k≤t.nodes.length∧q.length≤k∧TB th∧lessN s (t.nodes.drop k) th q=lessN s t.nodes t.th []) (fun k v th q=>t.nodes.length - k) (0) (.slice none 0 0) (t.th) ([]) zRc ⟨by omega,by simp,hnn.th,by simp⟩ ((jaO 3 1 rfl).trans (zWk)) ?_
  intro k v th q ⟨hk,hql,hth,hI⟩
  have hml:(q.map D.i).length=q.length:=by simp
  refine xC ?_ ?_<;>intro hc
  ·have hlt:=qc hc
   obtain ⟨x,hx,hd⟩:=jab (l:=t.nodes) (k:=k) (by omega)
   have hx':=jad D.i hx
   refine xE (jgB s x) fun c23 hc23=>?_
   refine xC ?_ ?_<;>intro hc
   ·refine xA (jgs _ (by assumption)) ?_
    iterate 10 refine zW ?_
    rw [hd] at hI;simp only [lessN] at hI
    rw [qf (hc23.trans hc)] at hI;refine ⟨k+1,v,lw th,q,⟨by omega,by omega,(jqP hth).1,hI⟩,by omega,zWk⟩
   ·iterate 4 refine zW ?_
    refine xLt 3 1 8 ?_
    refine xEa 3 1 8 fun v32 hv32=>?_
    iterate 10 refine zW ?_
    rw [hd] at hI;simp only [lessN] at hI
    rw [qe (fun e=>by rw [hc23.trans hc] at e;cases e)] at hI;rw [jbH];refine ⟨k+1,_,th,q++[x],⟨by omega,by simp only [qq,qk,qt];omega,hth,hI⟩,by omega,zWk⟩
  ·have hge:=qd hc
   have hN:lessN s t.nodes t.th []=(th,q):=by rw [jac (by omega)] at hI;exact hI.symm
   refine xN fun _=>?_
   iterate 4 refine zW ?_
   refine jbt [1,4,5,36,37] [.box b4 _ _,.box b2 _ _,.arr v 3 1 (q.map .i)] (fun (k:Nat) (v2:Value) (th2:Int) (q2:List Trust) r=>(38,.i (k:Int))::r) (fun k v2 th2 q2 r=>.box b5 48 [.i th2,.v v,.v v2]::.arr v2 48 3 (avs q2)::r) (fun k v2 th2 q2=>k≤t.inner.length∧q2.length≤k∧TB th2∧lessI s (t.inner.drop k) th2 q2=lessI s t.inner th []) (fun k v2 th2 q2=>t.inner.length - k) (0) (.slice none 0 0) (th) ([]) zRc ⟨by omega,by simp,hth,by simp⟩ ((jaO 48 3 rfl).trans (zWk)) ?_
   intro k v2 th2 q2 ⟨hk,hql2,hth2,hI2⟩
   have hal:(avs q2).length=q2.length:=jaT _
   refine xC ?_ ?_<;>intro hc
   ·have hlt:=qc hc
    obtain ⟨y,hy,hd⟩:=jab (l:=t.inner) (k:=k) (by omega)
    have hy':=jbk hy
    have hym:=qj hy
    refine xL fun b9=>?_
    refine xA (ih y hym (by have:=jbZ hym;omega) (hnn.inner y hym)) ?_
    refine xC ?_ ?_<;>intro hc
    ·refine xA (jgs _ (by assumption)) ?_
     iterate 10 refine zW ?_
     rw [hd,jeF] at hI2
     rw [qf (by have:=qc hc;omega)] at hI2;refine ⟨k+1,v2,lw th2,q2,⟨by omega,by omega,(jqP hth2).1,hI2⟩,by omega,zWk⟩
    ·iterate 4 refine zW ?_
     refine xLt 48 3 56 ?_
     refine xEa 48 3 56 fun v56 hv56=>?_
     iterate 10 refine zW ?_
     rw [hd,jeF] at hI2
     rw [qe (by have:=qd hc;have:=(jse (s:=s) (hnn.inner y hym)).1;omega)] at hI2;rw [show D.agg [.i (less s y).th,.sl 1 ((less s y).nodes.map .i),.sl 3 (avs (less s y).inner)]=av (less s y) from rfl,jtE];refine ⟨k+1,_,th2,q2++[less s y],⟨by omega,by simp only [qq,qk,qt];omega,hth2,hI2⟩,by omega,zWk⟩
   ·have hge:=qd hc
    have hL:lessI s t.inner th []=(th2,q2):=by rw [jac (by omega)] at hI2;exact hI2.symm
    iterate 11 refine zW ?_
    refine zFz v [4] ?_;refine zFz v2 [4] ?_
    refine xP ?_
    rw [ju1 hN hL];rfl
theorem jqE (t:Trust) (k:Int) (s:Nat) (hs:s<1024) (hsz:sizeT t≤200000) (hnn:NN t):C0 126 [av t,.i k,.i s] (av (delT s k t)):=by
 refine xI Tryz.func126 Tryz.call126 fun hcap=>?_
 have hb:=(jse (s:=(s:Int)) hnn).1
 refine xX fun b3=>?_
 refine zAl fun b6=>?_
 refine xA (jw1 hs) ?_
 iterate 3 refine zW ?_
 refine jaE rfl jg9 ?_
 refine xA (jo9 s t hsz hnn) ?_
 refine zAl fun b7=>?_
 refine xC ?_ ?_<;>intro hc
 ·(
 have hle:=qc hc
 iterate 3 refine zW ?_
 refine xLt 3 1 8 ?_
 iterate 4 refine zW ?_
 refine jal [6] 3 rfl jdy jcK ?_
 refine xP ?_
 unfold delT;rw [qf (by omega)];rfl)
 ·(
 have hle:=qd hc
 refine xP ?_
 unfold delT;rw [qe (by omega)];rfl)
theorem jtH (c:List Mem) (hcl:c.length≤10) (s:Nat) (hs:s<1024) (hsz:∀ m∈c,sizeT m.t≤200000) (hdc:∀ m∈c,m.decl=true) (hnn:∀ m∈c,NN m.t):C0 91 [cv c,.i s] (cv (delC c s)):=by
 refine xI Tryz.func91 Tryz.call91 fun hcap=>?_
 have hml:(c.map mv).length=c.length:=by simp
 refine xX fun b2=>?_
 refine zAl fun b4=>?_
 refine xL fun b5=>?_
 refine xN fun _=>?_
 iterate 4 refine zW ?_
 refine jaP [1,4,5,9,10] [.box b4 _ _,.box b2 _ _] (fun (k:Nat) (v:Value) (q:List Mem) r=>(11,.i (k:Int))::r) (fun k v q r=>.box b5 28 [.v v]::.arr v 101 4 (q.map mv)::r) (fun k v q=>k≤c.length∧q.length=k∧q++delGo s k (c.drop k)=delC c s) (fun k v q=>c.length - k) (0) (.slice none 0 0) ([]) zRc ⟨by omega,rfl,by simp [delC]⟩ ((jaO 101 4 rfl).trans (zWk)) ?_
 intro k v q ⟨hk,hql,hI⟩
 have hqm:(q.map mv).length=q.length:=by simp
 refine xC ?_ ?_<;>intro hc
 ·(
 have hlt:=qc hc
 obtain ⟨x,hx,hd⟩:=jab (l:=c) (k:=k) (by omega)
 have hx':=jad mv hx
 have hxd:=hdc x (qj hx)
 refine xL fun b7=>?_
 refine xE (jgB s k) fun c23 hc23=>?_
 refine xC ?_ ?_<;>intro hc
 ·(
 iterate 10 refine zW ?_
 refine jaD [1,4,5,9,10,11,35,36] 1 rfl rfl (by repeat (first | exact SelC.nil | apply SelC.cons rfl (Cv.agg (CvL.cons Cv.same (CvL.cons Cv.same (CvL.cons Cv.fz (CvL.cons Cv.same CvL.nil))))) | apply SelC.cons rfl Cv.same)) jb0 ?_;refine jaD [1,4,5,9,10,11,35,36] 3 rfl rfl jdy jb0 ?_;refine xLt 101 4 64 ?_
 refine xEa 101 4 64 (hb:=by simp only [qk,qt,qq,qu];omega) fun v38 hv38=>?_
 iterate 10 refine zW ?_
 refine ⟨k+1,v38,q++[delM s k x],⟨by omega,by simp only [qq,qk,qt];omega,jmm hd hI⟩,by omega,?_⟩;rw [← jge,jxp (hc23.trans (by with_reducible assumption))];exact (zWk))
 ·(
 iterate 7 refine zW ?_
 refine jbQ rfl jg9 ?_
 refine xA (jqE x.t k s hs (hsz x (qj hx)) (hnn x (qj hx))) ?_
 iterate 9 refine zW ?_
 refine jaD [1,4,5,9,10,11,35,36] 1 rfl rfl (by repeat (first | exact SelC.nil | apply SelC.cons rfl (Cv.agg (CvL.cons Cv.same (CvL.cons Cv.same (CvL.cons Cv.fz (CvL.cons Cv.same CvL.nil))))) | apply SelC.cons rfl Cv.same)) jb0 ?_;refine jaD [1,4,5,9,10,11,35,36] 3 rfl rfl jdy jb0 ?_;refine xLt 101 4 64 ?_
 refine xEa 101 4 64 (hb:=by simp only [qk,qt,qq,qu];omega) fun v38 hv38=>?_
 iterate 10 refine zW ?_
 refine ⟨k+1,v38,q++[delM s k x],⟨by omega,by simp only [qq,qk,qt];omega,jmm hd hI⟩,by omega,?_⟩;rw [← jge,jwN (hc23.trans (by with_reducible assumption)) (by with_reducible assumption)];exact (zWk)))
 ·(
 have hge:=qd hc
 have hF:q=delC c s:=by rw [jac (by omega)] at hI;simpa [delGo] using hI
 iterate 11 refine zW ?_
 refine zFz v [4] ?_
 refine xP ?_
 rw [← hF];rfl)
structure OKA (c:List Mem):Prop where
 len:c.length≤4
 decl:∀ m∈c,m.decl=true
 size:∀ m∈c,sizeT m.t≤200
 nn:∀ m∈c,NN m.t
 ok:validC c=0
theorem OKA.s9 (h:OKA c):∀ m∈c,sizeT m.t≤1000000000:=fun m hm=>by have:=h.size m hm;omega
theorem OKA.s2 (h:OKA c):∀ m∈c,sizeT m.t≤200000:=fun m hm=>by have:=h.size m hm;omega
theorem OKA.l10 (h:OKA c):c.length≤10:=by have:=h.len;omega
theorem OKA.any (h:OKA c):(c.any fun m=>!m.decl)=false:=by
 rw [List.any_eq_false]
 intro m hm
 rw [h.decl m hm];decide
theorem juu (h:n≤4):1≤2^n∧2^n≤16:=by
 have h1:0<2^n:=Nat.pow_pos (by omega)
 have h2:=Nat.pow_le_pow_right (show 0<2 by omega) h
 omega
theorem jw2 (h:(!decide ((n:Int)=0))=false):n=0:=by have:=jae h;omega
theorem jwL (h:(!decide ((n:Int)=0))=true):¬ n=0:=by have:=jaf h;omega
theorem jgm {α:Type} {p:α→Bool} {x:α} {r:List α} (h:p x=false):(x::r).any p=r.any p:=by simp [h]
theorem jf3 {α:Type} {p:α→Bool} {x:α} {r:List α} (h:p x=true):(x::r).any p=true:=by simp [h]
theorem jdE (c:List Mem) (hc:c.length≤4):C0 72 [cv c] (.i ((2^c.length - 1:Nat):Int)):=by
 refine xI Tryz.func72 Tryz.call72 fun hcap=>?_
 have hml:(c.map mv).length=c.length:=by simp
 have hpos:0<2^c.length:=Nat.pow_pos (by omega)
 have hle:=Nat.pow_le_pow_right (show 0<2 by omega) hc
 refine xX fun b1=>?_
 refine xN fun _=>?_
 (rw [hml];refine zP (jbg (p:=1) rfl rfl rfl (by omega) (by omega)) ?_)
 refine zP (jb7 (m:=((2^c.length - 1:Nat):Int)) rfl rfl (by show some _=_;simp only [ql];omega) (by omega)) ?_
 refine xP ?_;exact rfl
theorem jnZ (m:Mem):C0 93 [mv m] (.b (!m.decl)):=by
 refine xI Tryz.func93 Tryz.call93 fun hcap=>?_
 refine xX fun b1=>?_
 refine xP ?_;exact rfl
theorem jlo (f:FuncId) (p:Mem→Bool) (l:List Mem) (hf:∀ k,k∈l→Con none Tryz.prog f [mv k] [] (Is (.b (p k)) [])):Con none Tryz.prog 131 [.sl 4 (l.map mv),.v (.func (.func f) #[] #[])] [] (fun d H=>∃ r:Int,d=.i r∧decide (0≤r)=l.any p∧H=[]):=by
 refine xI Tryz.func131 Tryz.call131 fun hcap=>?_
 have hl1:(l.map mv).length=l.length:=by simp
 refine xN fun _=>?_
 iterate 4 refine zW ?_
 refine jaj [0,1,7] [] (fun (k:Nat) r=>(8,.i (k:Int))::r) (fun k r=>r) (fun k=>k≤l.length∧(l.drop k).any p=l.any p) (fun k=>l.length - k) (0) zRc ⟨by omega,by simp⟩ (zWk) ?_
 intro k ⟨hk,hI⟩
 refine xC ?_ ?_<;>intro hc
 ·(
 have hlt:k<l.length:=by have:=qc hc;omega
 obtain ⟨x,hx,hd⟩:=jab hlt
 have hx':=jad mv hx
 rw [hd] at hI
 iterate 17 refine zW ?_
 (refine jeP (caps:=[]) rfl zRc (hf x (qj hx)) jaA rfl rfl ?_;rintro _ _ ⟨rfl,rfl⟩;obtain ⟨c16,hc16⟩:∃ b,b=p x:=⟨_,rfl⟩;rw [← hc16])
 refine xC ?_ ?_<;>intro hc
 ·(
 iterate 12 refine zW ?_
 refine jaQ (.tmp rfl .nil) jb8 ⟨_,rfl,?_,rfl⟩
 rw [jf3 (hc16.symm.trans hc)] at hI
 rw [← hI];exact qg (by omega))
 ·(
 iterate 8 refine zW ?_
 rw [jgm (hc16.symm.trans hc)] at hI
 refine ⟨k+1,⟨by omega,hI⟩,by omega,zWk⟩))
 ·(
 have hge:l.length≤k:=by have:=qd hc;omega
 rw [jac hge] at hI
 iterate 11 refine zW ?_
 refine jaQ (.tmp rfl .nil) jb8 ⟨_,rfl,?_,rfl⟩
 rw [← hI];rfl)
theorem jha (f:FuncId) (p:Mem→Bool) (l:List Mem) (hf:∀ k,k∈l→Con none Tryz.prog f [mv k] [] (Is (.b (p k)) [])):C0 94 [.sl 4 (l.map mv),.v (.func (.func f) #[] #[])] (.b (l.any p)):=by
 refine xI Tryz.func94 Tryz.call94 fun hcap=>?_
 refine xB (jlo f p l hf) ?_;rintro _ _ ⟨r,rfl,hr,rfl⟩
 refine xP ?_
 rw [← hr];rfl
theorem jlF (b3 b7:Nat) (d3 d7:List D) (f:FuncId) (p:Vd→Bool) (l:List Vd) (hf:∀ k,k∈l→Con none Tryz.prog f [vv k,.p b3 0,.p b7 0] [.box b7 78 d7,.box b3 145 d3] (Is (.b (p k)) [.box b7 78 d7,.box b3 145 d3])):Con none Tryz.prog 158 [.sl 5 (l.map vv),.v (.func (.func f) #[] #[.pointer (some ⟨b3,0,none⟩),.pointer (some ⟨b7,0,none⟩)])] [.box b7 78 d7,.box b3 145 d3] (fun d H=>∃ r:Int,d=.i r∧decide (0≤r)=l.any p∧H=[.box b7 78 d7,.box b3 145 d3]):=by
 refine xI Tryz.func158 Tryz.call158 fun hcap=>?_
 have hl1:(l.map vv).length=l.length:=by simp
 refine xN fun _=>?_
 iterate 4 refine zW ?_
 refine jaj [0,1,7] [] (fun (k:Nat) r=>(8,.i (k:Int))::r) (fun k r=>.box b7 78 d7::.box b3 145 d3::r) (fun k=>k≤l.length∧(l.drop k).any p=l.any p) (fun k=>l.length - k) (0) zRc ⟨by omega,by simp⟩ (zWk) ?_
 intro k ⟨hk,hI⟩
 refine xC ?_ ?_<;>intro hc
 ·(
 have hlt:k<l.length:=by have:=qc hc;omega
 obtain ⟨x,hx,hd⟩:=jab hlt
 have hx':=jad vv hx
 rw [hd] at hI
 iterate 17 refine zW ?_
 (refine jeP (caps:=[.pointer (some ⟨b3,0,none⟩),.pointer (some ⟨b7,0,none⟩)]) rfl zRc (hf x (qj hx)) jaA rfl rfl ?_;rintro _ _ ⟨rfl,rfl⟩;obtain ⟨c16,hc16⟩:∃ b,b=p x:=⟨_,rfl⟩;rw [← hc16])
 refine xC ?_ ?_<;>intro hc
 ·(
 iterate 12 refine zW ?_
 refine jaQ (.tmp rfl .nil) jb8 ⟨_,rfl,?_,rfl⟩
 rw [jf3 (hc16.symm.trans hc)] at hI
 rw [← hI];exact qg (by omega))
 ·(
 iterate 8 refine zW ?_
 rw [jgm (hc16.symm.trans hc)] at hI
 refine ⟨k+1,⟨by omega,hI⟩,by omega,zWk⟩))
 ·(
 have hge:l.length≤k:=by have:=qd hc;omega
 rw [jac hge] at hI
 iterate 11 refine zW ?_
 refine jaQ (.tmp rfl .nil) jb8 ⟨_,rfl,?_,rfl⟩
 rw [← hI];rfl)
theorem jg7 (b3 b7:Nat) (d3 d7:List D) (f:FuncId) (p:Vd→Bool) (l:List Vd) (hf:∀ k,k∈l→Con none Tryz.prog f [vv k,.p b3 0,.p b7 0] [.box b7 78 d7,.box b3 145 d3] (Is (.b (p k)) [.box b7 78 d7,.box b3 145 d3])):Con none Tryz.prog 124 [.sl 5 (l.map vv),.v (.func (.func f) #[] #[.pointer (some ⟨b3,0,none⟩),.pointer (some ⟨b7,0,none⟩)])] [.box b7 78 d7,.box b3 145 d3] (Is (.b (l.any p)) [.box b7 78 d7,.box b3 145 d3]):=by
 refine xI Tryz.func124 Tryz.call124 fun hcap=>?_
 refine xB (jlF b3 b7 d3 d7 f p l hf) ?_;rintro _ _ ⟨r,rfl,hr,rfl⟩
 refine xP ?_
 rw [← hr];rfl
theorem jk5 (c:List Mem) (hok:OKA c) (s:Nat) (hs:s<2^c.length):C0 46 [cv c,.i s] (.i 0):=by
 refine xI Tryz.func46 Tryz.call46 fun hcap=>?_
 have hp:=juu hok.len
 refine xX fun b2=>?_
 refine xA (jhu c hok.s9) ?_
 iterate 11 refine zW ?_
 refine jaE rfl (by rw [hok.ok];rfl) ?_
 refine xA (jha _ (fun m=>!m.decl) c (fun k _=>jnZ k)) ?_
 iterate 3 refine zW ?_
 refine jaE rfl hok.any ?_
 iterate 5 refine zW ?_
 iterate 2 all_goals refine zW ?_
 all_goals (refine zY ?_;refine jaa zRc (jdE c hok.len) rfl rfl ?_)
 iterate 3 all_goals refine zW ?_
 all_goals (
 iterate 2 refine zW ?_
 refine jaE rfl (by first | with_reducible assumption | (refine qx ?_;omega)) ?_
 refine xP ?_;exact rfl)
theorem jhD (c:List Mem) (hok:OKA c) (s:Nat) (hs:s<2^c.length):C0 65 [cv c,.i s] (.b (silentC c s)):=by
 refine xI Tryz.func65 Tryz.call65 fun hcap=>?_
 have hp:=juu hok.len
 refine xX fun b2=>?_
 iterate 4 refine zW ?_
 refine zDr [] ?_
 refine zT 0 ?_;refine zT 1 ?_;refine zT 3 ?_;refine zOn 2 ?_
 refine xA (jdE c hok.len) ?_
 refine zW ?_
 refine zT 4 ?_;refine zOn 5 ?_
 refine xA (jcY c (co c s)) ?_
 refine zW ?_
 refine zT 6 ?_;refine zT 7 ?_
 refine zW ?_
 all_goals (
 refine xP ?_;exact rfl)
theorem jqs (c:List Mem) (hok:OKA c) (s:Nat) (hs:s<2^c.length):C0 47 [cv c,.i s] (.tup [.i ((pairC c s).1:Nat),.i ((pairC c s).2.1:Nat),.b (pairC c s).2.2]):=by
 refine xI Tryz.func47 Tryz.call47 fun hcap=>?_
 have hp:=juu hok.len
 refine xX fun b2=>?_
 refine xA (jtH c hok.l10 s (by omega) hok.s2 hok.decl hok.nn) ?_
 refine zAl fun b7=>?_
 refine xA (jdE c hok.len) ?_
 iterate 5 refine zW ?_
 refine jaj [2,7,14] [.box b7 _ _,.box b2 _ _] (fun (k:Nat) r=>(15,.i (k:Int))::r) (fun k r=>r) (fun k=>k≤2^c.length∧pairGo (pairL c s) (pairR c s) (2^c.length - k) k=pairC c s) (fun k=>2^c.length - k) (0) zRc ⟨by omega,rfl⟩ (zWk) ?_
 intro k ⟨hk,hI⟩
 refine xC ?_ ?_<;>intro hc
 ·(
 have hlt:=qc hc
 iterate 11 refine zW ?_
 refine zDr [] ?_
 refine zT 0 ?_;refine zT 1 ?_;refine zT 3 ?_;refine zT 4 ?_;refine zT 6 ?_;refine zOn 2 ?_
 refine xA (jcY (delC c s) k) ?_
 refine zW ?_
 refine zOn 5 ?_
 refine xA (jdE c hok.len) ?_
 refine zW ?_
 refine zT 7 ?_;refine zOn 8 ?_
 refine xA (jcY (delC c s) (co c k:Nat)) ?_
 refine zW ?_
 refine zT 9 ?_;refine zT 10 ?_
 refine zW ?_
 all_goals (
 iterate 6 refine zW ?_
 iterate 3 all_goals first | refine zW ?_ | refine xG ?_ ?_<;>intro hg
 all_goals (
 refine xC ?_ ?_<;>intro hc
 ·(
 first
 | (exact xQ hc)
 |(
 iterate 15 refine zW ?_
 rw [joI (by omega) (jwL (by unfold pairL;with_reducible assumption)) (jwL (by unfold pairR;with_reducible assumption))] at hI
 rw [← hI]
 (refine zPi ?_;exact rfl)))
 ·(
 first
 | (exact xQ hc)
 |(
 iterate 8 refine zW ?_
 have hz:pairL c s k=0∨pairR c s k=0:=by
  first
  | (refine .inl (jw2 ?_);unfold pairL;with_reducible assumption)
  | (refine .inr (jw2 ?_);unfold pairR;with_reducible assumption)
 rw [jlN (by omega) hz] at hI
 refine ⟨k+1,⟨by omega,hI⟩,by omega,zWk⟩)))))
 ·(
 have hge:=qd hc
 rw [jok (by omega)] at hI
 iterate 13 refine zW ?_
 rw [← hI]
 (refine zPi ?_;exact rfl))
theorem jrP (c:List Mem) (hok:OKA c) (s:Nat) (hs:s<2^c.length):C0 83 [cv c,.i s] (vv (judgeC c s)):=by
 refine xI Tryz.func83 Tryz.call83 fun hcap=>?_
 refine xX fun b2=>?_
 refine zAl fun b4=>?_
 refine xA (jqs c hok s hs) ?_
 refine xA (jhD c hok s hs) ?_
 refine xP ?_;exact rfl
theorem jon (c:List Mem) (hok:OKA c) (s:Nat) (hs:s<2^c.length):C0 17 [cv c,.i s] (.b (silentC c s)):=by
 refine xI Tryz.func17 Tryz.call17 fun hcap=>?_
 refine xX fun b2=>?_
 refine xA (jk5 c hok s hs) ?_
 iterate 2 refine zW ?_
 iterate 2 all_goals refine zW ?_
 all_goals (refine zY ?_;refine jaa zRc (jhD c hok s hs) rfl rfl ?_)
 iterate 2 all_goals refine zW ?_
 all_goals (
 refine xP ?_;exact rfl)
def subV (p:Vd→Bool) (v o:Vd):Bool:=p o&&(!decide ((o.nodes:Int)=v.nodes)&&decide (((o.nodes&&&(2^63 - 1 - v.nodes):Nat):Int)=0))
def leastGo (p:Vd→Bool) (l:List Vd):List Vd→List Int→List Int
 | [],out=>out
 | v::r,out=>if (p v&&!(l.any (subV p v)))=true then leastGo p l r (out++[(v.nodes:Int)]) else leastGo p l r out
def leastV (p:Vd→Bool) (l:List Vd):List Int:=leastGo p l l []
theorem jpD {p:Vd→Bool} {l r:List Vd} {v:Vd} {out:List Int} (h:(p v&&!(l.any (subV p v)))=true):leastGo p l (v::r) out=leastGo p l r (out++[(v.nodes:Int)]):=by rw [leastGo,qf h]
theorem jko {p:Vd→Bool} {l r:List Vd} {v:Vd} {out:List Int} (h:(p v&&!(l.any (subV p v)))=false):leastGo p l (v::r) out=leastGo p l r out:=by rw [leastGo,qe (by rw [h];decide)]
theorem joq (g:FuncId) (p:Vd→Bool) (hp0:∀ v,Con none Tryz.prog g [vv v] [] (Is (.b (p v)) [])) (b3 b7:Nat) (v o:Vd) (hv:v.nodes<1024) (ho:o.nodes<1024):Con none Tryz.prog 123 [vv o,.p b3 0,.p b7 0] [.box b7 78 [.i v.nodes,.b v.splits,.b v.halts,.i v.l,.i v.r],.box b3 145 [.v (.func (.func g) #[] #[])]] (Is (.b (subV p v o)) [.box b7 78 [.i v.nodes,.b v.splits,.b v.halts,.i v.l,.i v.r],.box b3 145 [.v (.func (.func g) #[] #[])]]):=by
 refine xI Tryz.func123 Tryz.call123 fun hcap=>?_
 refine xX fun b3=>?_
 iterate 7 refine zW ?_
 refine jc9 (caps:=[]) rfl zRc (hp0 o) rfl rfl (fun c7 hc7=>?_)
 refine zW ?_
 iterate 15 all_goals first | refine zW ?_ | refine xG ?_ ?_<;>intro hg
 all_goals (
 refine xP ?_
 unfold subV
 simp_all [resD];done)
theorem jlR (v:Vd):C0 85 [vv v] (.b v.splits):=by
 refine xI Tryz.func85 Tryz.call85 fun hcap=>?_
 refine xX fun b1=>?_
 refine xP ?_;exact rfl
theorem joR (v:Vd):C0 86 [vv v] (.b v.halts):=by
 refine xI Tryz.func86 Tryz.call86 fun hcap=>?_
 refine xX fun b1=>?_
 refine xP ?_;exact rfl
theorem jhK (g:FuncId) (p:Vd→Bool) (hp0:∀ v,Con none Tryz.prog g [vv v] [] (Is (.b (p v)) [])) (l:List Vd) (hl:∀ v∈l,v.nodes<1024) (hlen:l.length≤1000000):C0 84 [.sl 5 (l.map vv),.v (.func (.func g) #[] #[])] (.sl 1 ((leastV p l).map .i)):=by
 refine xI Tryz.func84 Tryz.call84 fun hcap=>?_
 have hl1:(l.map vv).length=l.length:=by simp
 refine xX fun b3=>?_
 refine xN fun _=>?_
 iterate 4 refine zW ?_
 refine jaP [0,3,9,10] [.box b3 _ _] (fun (k:Nat) (v:Value) (q:List Int) r=>(5,.v v)::(11,.i (k:Int))::r) (fun k v q r=>.arr v 3 1 (q.map .i)::r) (fun k v q=>k≤l.length∧q.length≤k∧leastGo p l (l.drop k) q=leastV p l) (fun k v q=>l.length - k) (0) (.slice none 0 0) ([]) zRc ⟨by omega,by simp,by simp [leastV]⟩ ((jaO 3 1 rfl).trans (zWk)) ?_
 intro k v q ⟨hk,hql,hI⟩
 have hml:(q.map D.i).length=q.length:=by simp
 refine xC ?_ ?_<;>intro hc
 ·(
 have hlt:=qc hc
 obtain ⟨x,hx,hd⟩:=jab (l:=l) (k:=k) (by omega)
 have hx':=jad vv hx
 refine xL fun b7=>?_
 iterate 13 refine zW ?_
 refine jc9 (caps:=[]) rfl zRc (hp0 x) rfl rfl (fun c18 hc18=>?_)
 refine zW ?_
 iterate 2 all_goals first | refine zW ?_ | refine xG ?_ ?_<;>intro hg
 all_goals first | (refine zY ?_;(refine jkK zRc (jg7 b3 b7 _ _ 123 (subV p x) l (fun o ho=>joq g p hp0 b3 b7 x o (hl x (qj hx)) (hl o ho))) jaA rfl rfl ?_;obtain ⟨c22,hc22⟩:∃ b,b=l.any (subV p x):=⟨_,rfl⟩;rw [← hc22])) | refine zSk ?_
 iterate 2 all_goals refine zW ?_
 all_goals (
 refine xC ?_ ?_<;>intro hc
 ·(
 first
 | (exact xQ hc)
 |(
 iterate 4 refine zW ?_
 refine xLt 3 1 8 ?_
 refine xEa 3 1 8 fun v29 hv29=>?_
 iterate 9 refine zW ?_
 rw [hd] at hI
 have h0:(!c22)=true:=(by with_reducible assumption);have h1:c18=true:=(by with_reducible assumption);rw [jpD (by rw [hc18,← hc22,h0,h1];rfl)] at hI;rw [jbH];refine ⟨k+1,_,q++[(x.nodes:Int)],⟨by omega,by simp only [qq,qk,qt];omega,hI⟩,by omega,zWk⟩))
 ·(
 first
 | (exact xQ hc)
 |(
 iterate 8 refine zW ?_
 rw [hd] at hI
 first
 | (have h0:c18=false:=(by with_reducible assumption);rw [jko (by rw [hc18,h0];rfl)] at hI;refine ⟨k+1,v,q,⟨by omega,by omega,hI⟩,by omega,zWk⟩)
 | (have h0:(!c22)=false:=(by with_reducible assumption);rw [jko (by rw [← hc22,h0,qw])] at hI;refine ⟨k+1,v,q,⟨by omega,by omega,hI⟩,by omega,zWk⟩)))))
 ·(
 have hge:=qd hc
 rw [jac (by omega)] at hI
 simp only [leastGo] at hI
 refine zFz v [5] ?_
 iterate 12 refine zW ?_
 rw [← hI]
 (refine zPi ?_;exact rfl))
theorem jku (x y:List Int):C0 33 [.sl 1 (x.map .i),.sl 1 (y.map .i)] (.b (decide (x=y))):=by
 refine xI Tryz.func33 Tryz.call33 fun hcap=>?_
 have hx1:(x.map D.i).length=x.length:=by simp
 have hy1:(y.map D.i).length=y.length:=by simp
 refine xN fun _=>?_
 refine xN fun _=>?_
 refine xC ?_ ?_<;>intro hc
 ·(
 have hne:=jaf hc
 refine xP ?_
 rw [qx (fun e=>hne (by rw [e]))];rfl)
 ·(
 have hlen:=jae hc
 have hll:x.length=y.length:=by omega
 refine xN fun _=>?_
 iterate 4 refine zW ?_
 refine jaj [0,1,12] [] (fun (k:Nat) r=>(13,.i (k:Int))::r) (fun k r=>r) (fun k=>k≤x.length∧x.take k=y.take k) (fun k=>x.length - k) (0) zRc ⟨by omega,by simp⟩ (zWk) ?_
 intro k ⟨hk,hI⟩
 refine xC ?_ ?_<;>intro hc
 ·(
 have hlt:=qc hc
 obtain ⟨u,hu,_⟩:=jab (l:=x) (k:=k) (by omega)
 obtain ⟨v,hv,_⟩:=jab (l:=y) (k:=k) (by omega)
 have hu':=jad D.i hu
 have hv':=jad D.i hv
 iterate 11 refine zW ?_
 refine zDr [] ?_
 refine zT 0 ?_;refine zT 1 ?_;refine zT 2 ?_;refine zT 3 ?_;refine zT 4 ?_;refine zT 5 ?_;refine zT 6 ?_;refine zT 7 ?_;refine zT 8 ?_
 refine zW ?_
 all_goals (
 refine xC ?_ ?_<;>intro hc
 ·(
 have hne:=jaf hc
 refine xP ?_
 rw [qx (fun e=>hne (by rw [e,hv] at hu;injection hu with hu;exact hu.symm))];rfl)
 ·(
 iterate 8 refine zW ?_
 have e:=jae hc
 refine ⟨k+1,⟨by omega,by rw [List.take_add_one,List.take_add_one,hI,hu,hv,e]⟩,by omega,zWk⟩)))
 ·(
 have hge:=qd hc
 refine xP ?_
 rw [qA (by omega),qA (by omega)] at hI;rw [qg hI];rfl))
theorem jsv (x:Int) {n:Int} (hn:0<n):0≤(x.tmod n+n).tmod n∧(x.tmod n+n).tmod n<n:=by
 have h:=jqr x hn
 exact ⟨Int.tmod_nonneg n (by omega),Int.tmod_lt_of_pos _ hn⟩
structure OKS (n:Nat) (t:Trust):Prop where
 ok:OKT n t
 nn:NN t
theorem jqa {th:Int} {q:List Int} {i2:List Trust} (hn:n≤9) (h1:1≤th) (h2:th≤q.length+i2.length) (hq:∀ k∈q,0≤k∧k<(n:Int)) (hd:q.Nodup) (hl:q.length≤n) (hi:i2=[]∨∃ r:Int,(0≤r∧r<n)∧i2=[.mk 1 [r] []]):OKS n (.mk th q i2):=by
 have hs:sizeT (.mk th q i2)≤100:=by
  rcases hi with rfl | ⟨r,hr,rfl⟩<;>simp [sizeT,Trust.nodes,Trust.inner,sizeL,size0]<;>omega
 have hil:i2.length≤1:=by rcases hi with rfl | ⟨r,hr,rfl⟩<;>simp
 have hv:validT (.mk th q i2)=0:=by
  refine jr5 ?_ (by omega) (joQ h1 (by exact h2) (fun k hk=>by have:=hq k hk;omega) hd ?_)
  ·rcases hi with rfl | ⟨r,hr,rfl⟩<;>simp [depthT,Trust.inner,depthL,depth0]
  ·rcases hi with rfl | ⟨r,hr,rfl⟩
   ·exact fun x h=>qo h qp
   ·intro x hx
    obtain rfl:x=.mk 1 [r] []:=by simpa using hx
    exact joX (by omega)
 refine ⟨jxE ⟨hq,(jpW _ _).2 fun x hx=>?_⟩ hv,.mk ⟨by omega,by omega⟩ fun x hx=>?_⟩
 ·(
 rcases hi with rfl | ⟨r,hr,rfl⟩
 ·exact qo hx qp
 ·(
 have hx1:x∈[Trust.mk 1 [r] []]:=hx
 obtain rfl:x=.mk 1 [r] []:=by simpa using hx1
 refine ⟨fun k hk=>?_,trivial⟩
 have hk1:k∈[r]:=hk
 obtain rfl:k=r:=by simpa using hk1
 exact hr))
 ·(
 rcases hi with rfl | ⟨r,hr,rfl⟩
 ·exact qo hx qp
 ·(
 obtain rfl:x=.mk 1 [r] []:=by simpa using hx
 exact .mk ⟨by omega,by omega⟩ (fun y hy=>qo hy qp)))
def upN (n:Nat):List Int:=(List.range n).map fun (i:Nat)=>(i:Int)
theorem jiS (n:Nat):(upN n).length=n:=by simp [upN]
theorem jnU (n:Nat):upN (n+1)=upN n++[(n:Int)]:=by simp [upN,List.range_succ]
theorem jpK {k:Int} (h:k∈upN n):0≤k∧k<(n:Int):=by
 obtain ⟨i,hi,rfl⟩:=List.mem_map.1 h
 have:=List.mem_range.1 hi
 omega
theorem jki:∀ n,(upN n).Nodup
 | 0=>by simp [upN]
 | n+1=>by rw [jnU];exact jhf (jki n) (fun k hk=>(jpK hk).2) (by omega)
theorem jnK {k:Int} (hn:1≤n∧n≤9) (h1:1≤k) (h2:k≤n):OKS n (.mk k (upN n) []) :=
 jqa hn.2 h1 (by rw [jiS];simp;omega) (fun x hx=>jpK hx) (jki n) (by rw [jiS];omega) (.inl rfl)
theorem jum (hl:1≤c.length∧c.length≤4) (h:∀ m∈c,m.decl=true∧OKS c.length m.t):OKA c :=
 ⟨hl.2,fun m hm=>(h m hm).1,fun m hm=>jcz (h m hm).2.ok.vd,fun m hm=>(h m hm).2.nn,
  jrR ⟨by omega,fun m hm=>⟨fun e=>(by rw [(h m hm).1] at e;cases e),fun _=>(h m hm).2.ok⟩⟩⟩
theorem jth (l:List Int):Con none Tryz.prog 8 [.sl 1 (l.map .i)] [] (fun d H=>∃ b,d=.p b 0∧H=[.box b 97 [.sl 1 ((l.take 800).map .i),.i ((0:Nat):Int)]]):=by
 refine xI Tryz.func8 Tryz.call8 fun hcap=>?_
 have hl1:(l.map D.i).length=l.length:=by simp
 refine xN fun _=>?_
 refine zW ?_
 refine zP (jdI (k:=min l.length 800) rfl rfl rfl rfl (by simp only [qu];omega) (by simp only [qu];omega)) ?_;rw [← List.map_take]
 refine xX fun b9=>?_
 iterate 4 refine zW ?_
 have e:l.take 800=l.take (min l.length 800):=by rw [Nat.min_comm];exact List.take_eq_take_min
 rw [e]
 refine jaQ (.tmp rfl .nil) jb8 ⟨_,rfl,rfl⟩
theorem jd6 (b:Nat) (l:List Int) (a:Nat) (n:Int) (hn:1≤n∧n≤4611686018427387904):Con none Tryz.prog 43 [.p b 0,.i n] [.box b 97 [.sl 1 (l.map .i),.i ((a:Nat):Int)]] (fun d H=>∃ (r:Int) (a':Nat),d=.i r∧(0≤r∧r<n)∧H=[.box b 97 [.sl 1 (l.map .i),.i ((a':Nat):Int)]]):=by
 refine xI Tryz.func43 Tryz.call43 fun hcap=>?_
 have hl1:(l.map D.i).length=l.length:=by simp
 iterate 7 refine zW ?_
 refine zDr [] ?_
 refine zT 0 ?_;refine zT 1 ?_;refine zT 2 ?_;refine zT 3 ?_;refine zT 4 ?_;refine zT 5 ?_;refine zT 6 ?_;refine zT 7 ?_;refine zT 8 ?_;refine zT 9 ?_;refine zT 10 ?_
 refine jai 10 rfl (fun hg=>?_) fun hg=>?_
 rotate_left
 case' _ =>(
 refine zT 11 ?_;refine zT 12 ?_;refine zT 13 ?_
 refine zW ?_)
 rotate_right
 case' _ =>(
 refine zK 11 ?_;refine zK 12 ?_;refine zT 13 ?_
 refine zW ?_)
 all_goals (
 refine xC ?_ ?_<;>intro hc
 ·(
 first
 | (exact xQ hc)
 |(
 first | (have h18:=qc hc) | (have h18:=hc)
 iterate 7 refine zW ?_
 refine jaQ (.tmp rfl .nil) jb8 ⟨_,_,rfl,?_,rfl⟩
 omega))
 ·(
 first
 | (exact xQ hc)
 |(
 have h17:=qd hc
 have h15:=qd hg
 have hlt:a<l.length:=by omega
 obtain ⟨x,hx,_⟩:=jab hlt
 have hx':=jad D.i hx
 have hn0:n≠0:=by omega
 have hm:=jqr x (show 0<n by omega)
 iterate 4 refine zW ?_
 refine jqy (t:=12) rfl rfl (fun hlen=>?_);refine zP (jlm rfl) ?_
 iterate 10 refine zW ?_
 refine zDr [] ?_
 refine zT 0 ?_;refine zT 1 ?_;refine zT 2 ?_;refine zT 3 ?_;refine zT 4 ?_;refine zT 5 ?_;refine zT 6 ?_;refine zT 7 ?_;refine zT 8 ?_
 refine jan 9 rfl zGd zKr zKr zKr (AP.ar (jam (k:=a) rfl rfl rfl rfl (by decide) (by omega) hx')) rfl rfl ?_
 refine zT 10 ?_;refine zT 11 ?_;refine zT 12 ?_;refine zT 13 ?_;refine zT 14 ?_;refine zT 15 ?_;refine zT 16 ?_;refine zT 17 ?_
 refine zW ?_
 all_goals (
 iterate 2 refine zW ?_
 refine jaQ (.tmp rfl .nil) jb8 ⟨_,a+1,rfl,?_,rfl⟩
 exact jsv _ (by omega)))))
theorem jh4 (b:Nat) (l:List Int) (a:Nat) (x y:Int) (h:x≤y∧-1000000≤x∧y≤1000000000):Con none Tryz.prog 9 [.p b 0,.i x,.i y] [.box b 97 [.sl 1 (l.map .i),.i ((a:Nat):Int)]] (fun d H=>∃ (r:Int) (a':Nat),d=.i r∧(x≤r∧r≤y)∧H=[.box b 97 [.sl 1 (l.map .i),.i ((a':Nat):Int)]]):=by
 refine xI Tryz.func9 Tryz.call9 fun hcap=>?_
 iterate 13 refine zW ?_
 refine jaq zRc (jd6 _ _ _ _ (by omega)) jaA rfl rfl ?_;rintro _ _ ⟨r13,a13,rfl,hr13,rfl⟩
 iterate 5 refine zW ?_
 refine jaQ (.tmp rfl .nil) jb8 ⟨_,_,rfl,?_,rfl⟩
 omega
theorem joU (b n:Nat) (l:List Int) (hn:1≤n∧n≤9) (a:Nat):Con none Tryz.prog 45 [.p b 0,.i n] [.box b 97 [.sl 1 (l.map .i),.i ((a:Nat):Int)]] (fun d H=>∃ (t:Trust) (a':Nat),d=av t∧OKS n t∧H=[.box b 97 [.sl 1 (l.map .i),.i ((a':Nat):Int)]]):=by
 refine xI Tryz.func45 Tryz.call45 fun hcap=>?_
 refine xL fun b4=>?_
 refine xL fun b5=>?_
 iterate 9 refine zW ?_
 refine jbt [0,1,4,5] [.box b4 _ _] (fun (k:Nat) (v:Value) (q:List Int) (a:Nat) r=>(6,.i (k:Int))::r) (fun k v q a r=>.box b5 48 [.i 0,.v v,.nil]::.arr v 3 1 (q.map .i)::.box b 97 [.sl 1 (l.map .i),.i ((a:Nat):Int)]::r) (fun k v q a=>k≤n∧q.length≤k∧(∀ x∈q,0≤x∧x<(k:Int))∧q.Nodup) (fun k v q a=>n - k) (0) (.slice none 0 0) ([]) (a) zRc ⟨by omega,by simp,by simp,by simp⟩ ((jaO 3 1 rfl).trans (zWk)) ?_
 intro k v q a ⟨hk,hql,hqm,hqd⟩
 have hml:(q.map D.i).length=q.length:=by simp
 refine xC ?_ ?_<;>intro hc
 ·(
 have hlt:=qc hc
 iterate 7 refine zW ?_
 refine jaq zRc (jd6 _ _ _ _ (by omega)) jaA rfl rfl ?_;rintro _ _ ⟨r14,a14,rfl,hr14,rfl⟩
 refine xC ?_ ?_<;>intro hc
 ·(
 iterate 4 refine zW ?_
 refine xLt 3 1 8 ?_
 refine xEa 3 1 8 fun v20 hv20=>?_
 iterate 11 refine zW ?_
 rw [jbH];refine ⟨k+1,_,q++[(k:Int)],_,⟨by omega,by simp only [qq,qk,qt];omega,jiv (fun y hy=>by have:=hqm y hy;omega) (by omega),jhf hqd (fun y hy=>(hqm y hy).2) (by omega)⟩,by omega,zWk⟩)
 ·(
 iterate 9 refine zW ?_
 refine ⟨k+1,_,q,_,⟨by omega,by omega,fun y hy=>by have:=hqm y hy;omega,hqd⟩,by omega,zWk⟩))
 ·(
 iterate 10 refine zW ?_
 refine zW ?_
 refine xC ?_ ?_<;>intro hc
 rotate_left
 case' _ =>(
 obtain ⟨p,hp⟩:∃ p:List Int,p=q:=⟨_,rfl⟩
 have hpl:1≤p.length∧p.length≤n:=by have:=qd hc;rw [hp];omega
 have hpd:p.Nodup:=by rw [hp];exact hqd
 have hpm:∀ x∈p,0≤x∧x<(n:Int):=fun y hy=>by have:=hqm y (hp ▸ hy);omega
 refine zW ?_)
 rotate_right
 case' _ =>(
 iterate 3 refine zW ?_
 refine jaq zRc (jd6 _ _ _ _ (by omega)) jaA rfl rfl ?_;rintro _ _ ⟨r28,a28,rfl,hr28,rfl⟩;obtain ⟨p,hp⟩:∃ p:List Int,p=[r28]:=⟨_,rfl⟩;have hpl:1≤p.length∧p.length≤n:=(by rw [hp];simp;omega);have hpd:p.Nodup:=(by rw [hp];simp);have hpm:∀ x∈p,0≤x∧x<(n:Int):=(by rw [hp];simp;omega)
 refine xLt 3 1 8 ?_
 iterate 3 refine zW ?_)
 all_goals (
 iterate 3 refine zW ?_
 refine zFz v [0,1,4,5] ?_
 first | (rw [show [D.i r28]=p.map D.i from by rw [hp];rfl]) | rw [← hp]
 have hml2:(p.map D.i).length=p.length:=by simp
 iterate 2 refine zW ?_
 refine jaq zRc (jd6 _ _ _ _ (by omega)) jaA rfl rfl ?_;rintro _ _ ⟨r32,a32,rfl,hr32,rfl⟩
 refine xC ?_ ?_<;>intro hc
 rotate_left
 case' _ =>(
 refine zW ?_)
 rotate_right
 case' _ =>(
 refine zDr [.box b _ _,.box b5 _ _] ?_
 refine zT 0 ?_;refine zT 2 ?_;refine zT 3 ?_
 refine zE2 1 4 ?_ ?_
 rotate_left
 case' _ =>(
 refine jaq zRc (jd6 _ _ _ _ (by omega)) jaA rfl rfl ?_;rintro _ _ ⟨r38,a38,rfl,hr38,rfl⟩
 refine zW ?_
 refine zE2 1 5 ?_ ?_
 rotate_left
 case' _ =>(
 refine xLt 3 1 8 ?_
 refine zW ?_
 refine zT 6 ?_
 refine zE2 1 7 ?_ ?_
 rotate_left
 case' _ =>(
 first | (refine jaD [0,1,4,5,34,35,40] 3 rfl rfl (by repeat (first | exact SelC.nil | apply SelC.cons rfl (Cv.agg (CvL.cons Cv.same (CvL.cons Cv.same (CvL.cons Cv.fz CvL.nil)))) | apply SelC.cons rfl Cv.same)) jb0 ?_;refine xLt 48 3 56 ?_) | (refine jaD [0,1,4,5,34,40] 3 rfl rfl (by repeat (first | exact SelC.nil | apply SelC.cons rfl (Cv.agg (CvL.cons Cv.same (CvL.cons Cv.same (CvL.cons Cv.fz CvL.nil)))) | apply SelC.cons rfl Cv.same)) jb0 ?_;refine xLt 48 3 56 ?_)
 refine zW ?_
 refine zOn 1 ?_
 iterate 2 refine zW ?_
 refine zOn 8 ?_
 first | refine xEa 48 3 56 fun v42 hv42=>?_ | refine xEn 48 3 56 fun v42 hv42=>?_
 refine zW ?_
 refine zT 9 ?_;refine zOn 10 ?_
 iterate 3 refine zW ?_)
 rotate_right
 case' _ =>(
 iterate 2 refine zW ?_
 refine zOn 7 ?_
 refine jaD [0,1,4,5,34,35,40] 3 rfl rfl (by repeat (first | exact SelC.nil | apply SelC.cons rfl (Cv.agg (CvL.cons Cv.same (CvL.cons Cv.same (CvL.cons Cv.fz CvL.nil)))) | apply SelC.cons rfl Cv.same)) jb0 ?_;refine xLt 48 3 56 ?_
 refine zW ?_
 refine zOn 8 ?_
 first | refine xEa 48 3 56 fun v42 hv42=>?_ | refine xEn 48 3 56 fun v42 hv42=>?_
 refine zW ?_
 refine zT 9 ?_;refine zOn 10 ?_
 iterate 3 refine zW ?_))
 rotate_right
 case' _ =>(
 iterate 2 refine zW ?_
 refine zOn 5 ?_
 refine xLt 3 1 8 ?_
 refine zW ?_
 refine zT 6 ?_;refine zOn 7 ?_
 refine jaD [0,1,4,5,34,35,40] 3 rfl rfl (by repeat (first | exact SelC.nil | apply SelC.cons rfl (Cv.agg (CvL.cons Cv.same (CvL.cons Cv.same (CvL.cons Cv.fz CvL.nil)))) | apply SelC.cons rfl Cv.same)) jb0 ?_;refine xLt 48 3 56 ?_
 refine zW ?_
 refine zOn 8 ?_
 first | refine xEa 48 3 56 fun v42 hv42=>?_ | refine xEn 48 3 56 fun v42 hv42=>?_
 refine zW ?_
 refine zT 9 ?_;refine zOn 10 ?_
 iterate 3 refine zW ?_))
 rotate_right
 case' _ =>(
 iterate 2 refine zW ?_
 refine zOn 4 ?_
 refine jaq zRc (jd6 _ _ _ _ (by omega)) jaA rfl rfl ?_;rintro _ _ ⟨r38,a38,rfl,hr38,rfl⟩
 refine zW ?_
 refine zOn 5 ?_
 refine xLt 3 1 8 ?_
 refine zW ?_
 refine zT 6 ?_;refine zOn 7 ?_
 refine jaD [0,1,4,5,34,35,40] 3 rfl rfl (by repeat (first | exact SelC.nil | apply SelC.cons rfl (Cv.agg (CvL.cons Cv.same (CvL.cons Cv.same (CvL.cons Cv.fz CvL.nil)))) | apply SelC.cons rfl Cv.same)) jb0 ?_;refine xLt 48 3 56 ?_
 refine zW ?_
 refine zOn 8 ?_
 first | refine xEa 48 3 56 fun v42 hv42=>?_ | refine xEn 48 3 56 fun v42 hv42=>?_
 refine zW ?_
 refine zT 9 ?_;refine zOn 10 ?_
 iterate 3 refine zW ?_))
 all_goals (
 iterate 2 refine zW ?_
 first | (refine zFz v42 [0,4,5] ?_;obtain ⟨i2,hi2,hii⟩:∃ i2:List Trust,(i2=[]∨∃ r:Int,(0≤r∧r<n)∧i2=[.mk 1 [r] []])∧i2=[.mk 1 [r38] []]:=⟨_,.inr ⟨r38,hr38,rfl⟩,rfl⟩;rw [show [D.agg [.i 1,.sl 1 [.i r38],.sl 3 []]]=avs i2 from by rw [hii];rfl]) | (refine jal [0,4,5] 3 rfl jdy jcK ?_;obtain ⟨i2,hi2,hii⟩:∃ i2:List Trust,(i2=[]∨∃ r:Int,(0≤r∧r<n)∧i2=[.mk 1 [r] []])∧i2=[]:=⟨_,.inl rfl,rfl⟩;rw [show D.sl 3 []=D.sl 3 (avs i2) from by rw [hii];rfl])
 have hil:i2.length≤1:=by rcases hi2 with h | ⟨r,_,h⟩<;>rw [h]<;>simp
 have hal:=jaT i2
 refine xN fun _=>?_
 refine xN fun _=>?_
 iterate 9 refine zW ?_
 refine zP (jrV rfl rfl (by omega)) ?_
 refine zW ?_
 refine jaq zRc (jh4 _ _ _ _ _ (by omega)) jaA rfl rfl ?_;rintro _ _ ⟨r56,a56,rfl,hr56,rfl⟩
 iterate 8 refine zW ?_
 refine jaq zRc (jd6 _ _ _ _ (by omega)) jaA rfl rfl ?_;rintro _ _ ⟨r59,a59,rfl,hr59,rfl⟩
 refine xC ?_ ?_<;>intro hc
 rotate_left
 case' _ =>(
 refine zW ?_)
 rotate_right
 case' _ =>(
 iterate 4 refine zW ?_)
 all_goals (
 iterate 8 refine zW ?_
 first | exact jaQ (.cell rfl jct rfl rfl .nil) jb8 ⟨.mk 1 p i2,_,rfl,jqa hn.2 (by omega) (by omega) hpm hpd hpl.2 hi2,rfl⟩ | exact jaQ (.cell rfl jct rfl rfl .nil) jb8 ⟨.mk r56 p i2,_,rfl,jqa hn.2 (by omega) (by omega) hpm hpd hpl.2 hi2,rfl⟩))))
theorem jni (n:Nat) (hn:n≤1000) (k:Int):C0 44 [.i n,.i k] (av (.mk k (upN n) [])):=by
 refine xI Tryz.func44 Tryz.call44 fun hcap=>?_
 refine xL fun b4=>?_
 refine xL fun b5=>?_
 iterate 10 refine zW ?_
 refine jag [0,4,5] [.box b4 _ _] (fun (j:Nat) (v:Value) r=>(6,.i (j:Int))::r) (fun j v r=>.box b5 48 [.i k,.v v,.nil]::.arr v 3 1 ((upN j).map .i)::r) (fun j v=>j≤n) (fun j v=>n - j) (0) (.slice none 0 0) zRc (by omega) ((jaO 3 1 rfl).trans (zWk)) ?_
 intro j v hj
 have hml:((upN j).map D.i).length=j:=by rw [qu,jiS]
 refine xC ?_ ?_<;>intro hc
 ·(
 have hlt:=qc hc
 iterate 8 refine zW ?_
 refine xLt 3 1 8 ?_
 refine xEa 3 1 8 (hb:=by simp only [qk,qt,qq,qu,jiS];omega) fun v18 hv18=>?_
 iterate 11 refine zW ?_
 refine ⟨j+1,v18,by omega,by omega,?_⟩
 rw [jnU,← jbH];exact zWk)
 ·(
 have hge:=qd hc
 obtain rfl:j=n:=by omega
 refine zFz v [4,5] ?_
 refine jal [4,5] 3 rfl jdy jcK ?_
 refine xP ?_;exact rfl)
theorem jlt (b n:Nat) (l:List Int) (hn:1≤n∧n≤4) (a:Nat):Con none Tryz.prog 10 [.p b 0,.i n] [.box b 97 [.sl 1 (l.map .i),.i ((a:Nat):Int)]] (fun d H=>∃ (c:List Mem) (a':Nat),d=cv c∧(OKA c∧c.length=n)∧H=[.box b 97 [.sl 1 (l.map .i),.i ((a':Nat):Int)]]):=by
 refine xI Tryz.func10 Tryz.call10 fun hcap=>?_
 refine xL fun b4=>?_
 refine xL fun b5=>?_
 iterate 5 refine zW ?_
 refine jaq zRc (jd6 _ _ _ _ (by omega)) jaA rfl rfl ?_;rintro _ _ ⟨r10,a10,rfl,hr10,rfl⟩
 iterate 11 refine zW ?_
 refine jbt [0,1,4,5,6] [.box b4 _ _] (fun (k:Nat) (v:Value) (q:List Mem) (a:Nat) r=>(7,.i (k:Int))::r) (fun k v q a r=>.box b5 28 [.v v]::.arr v 101 4 (q.map mv)::.box b 97 [.sl 1 (l.map .i),.i ((a:Nat):Int)]::r) (fun k v q a=>k≤n∧q.length=k∧∀ m∈q,m.decl=true∧OKS n m.t) (fun k v q a=>n - k) (0) (.slice none 0 0) ([]) (a10) zRc ⟨by omega,rfl,by simp⟩ ((jaO 101 4 rfl).trans (zWk)) ?_
 intro k v q a ⟨hk,hql,hqm⟩
 have hml:(q.map mv).length=q.length:=by simp
 refine xC ?_ ?_<;>intro hc
 ·(
 have hlt:=qc hc
 iterate 8 refine zW ?_
 refine zP (jrV rfl rfl (by omega)) ?_
 refine zW ?_
 refine jaa zRc (jni n (by omega) _) rfl rfl ?_
 refine zAl fun b8=>?_
 refine xC ?_ ?_<;>intro hc
 ·(
 iterate 3 refine zW ?_
 refine jaq zRc (joU _ _ _ (by omega) _) jaA rfl rfl ?_;rintro _ _ ⟨t26,a26,rfl,ht26,rfl⟩
 iterate 8 refine zW ?_
 refine xLt 101 4 64 ?_
 refine xEa 101 4 64 fun v32 hv32=>?_
 iterate 11 refine zW ?_
 have h0:(!decide (0<r10))=true:=(by with_reducible assumption);rw [show .agg [.b true,.i t26.th,.sl 1 (t26.nodes.map .i),.sl 3 (avs t26.inner)]=mv ⟨true,t26⟩ from rfl,jge];refine ⟨k+1,_,q++[⟨true,t26⟩],_,⟨by omega,by simp only [qq,qk,qt];omega,jiv hqm ⟨rfl,ht26⟩⟩,by omega,zWk⟩)
 ·(
 iterate 7 refine zW ?_
 refine xLt 101 4 64 ?_
 refine xEa 101 4 64 fun v32 hv32=>?_
 iterate 11 refine zW ?_
 rw [show .agg [.b true,.i (Trust.mk ((n:Int) / 2+1) (upN n) []).th,.sl 1 ((Trust.mk ((n:Int) / 2+1) (upN n) []).nodes.map .i),.sl 3 (avs (Trust.mk ((n:Int) / 2+1) (upN n) []).inner)]=mv ⟨true,.mk ((n:Int) / 2+1) (upN n) []⟩ from rfl,jge];refine ⟨k+1,_,q++[⟨true,.mk ((n:Int) / 2+1) (upN n) []⟩],_,⟨by omega,by simp only [qq,qk,qt];omega,jiv hqm ⟨rfl,jnK (by omega) (by omega) (by omega)⟩⟩,by omega,zWk⟩))
 ·(
 have hge:=qd hc
 refine zFz v [4,5] ?_
 iterate 12 refine zW ?_
 exact jaQ (.cell rfl jct rfl rfl .nil) jb8 ⟨q,_,rfl,⟨jum (by omega) (fun m hm=>by rw [show q.length=n by omega];exact hqm m hm),by omega⟩,rfl⟩)
theorem jrn (k:Nat):(List.replicate k m3).map mv++[mv m3]=(List.replicate (k+1) m3).map mv:=by rw [jge,List.replicate_succ']
theorem jwM:Con none Tryz.prog 44 [.i 3,.i 2] [] (Is (av (.mk 2 (upN 3) [])) []):=jni 3 (by omega) 2
theorem juB:OKA c3:=jum (by decide) (fun m hm=>by
 have h:m=m3:=by simp only [c3,List.mem_cons,qp,or_false,or_self] at hm;exact hm
 subst h
 exact ⟨rfl,jnK (n:=3) (k:=2) (by omega) (by omega) (by omega)⟩)
theorem jfO:C0 48 [] (cv c3):=by
 refine xI Tryz.func48 Tryz.call48 fun hcap=>?_
 refine xL fun b0=>?_
 refine xL fun b1=>?_
 iterate 9 refine zW ?_
 refine jag [0,1] [.box b0 _ _] (fun (k:Nat) (v:Value) r=>(2,.i (k:Int))::r) (fun k v r=>.box b1 28 [.v v]::.arr v 101 4 ((List.replicate k m3).map mv)::r) (fun k v=>k≤3) (fun k v=>3 - k) (0) (.slice none 0 0) zRc (by omega) ((jaO 101 4 rfl).trans (zWk)) ?_
 intro k v hk
 have hml:((List.replicate k m3).map mv).length=k:=by simp
 refine xC ?_ ?_<;>intro hc
 ·(
 have hlt:=qc hc
 iterate 4 refine zW ?_
 refine zDr [.box b1 _ _,.arr v _ _ _] ?_
 refine zT 0 ?_
 refine zE2 1 2 ?_ ?_
 rotate_left
 case' _ =>(
 refine xA (jwM) ?_
 refine zW ?_
 refine zT 3 ?_
 refine zE2 1 4 ?_ ?_
 rotate_left
 case' _ =>(
 refine xLt 101 4 64 ?_
 refine zW ?_
 refine zOn 1 ?_
 iterate 2 refine zW ?_
 refine zOn 5 ?_
 refine xEa 101 4 64 (hb:=by simp only [qk,qt,qq,qu,List.length_replicate];omega) fun v12 hv12=>?_
 refine zW ?_
 refine zT 6 ?_;refine zOn 7 ?_
 iterate 3 refine zW ?_)
 rotate_right
 case' _ =>(
 iterate 2 refine zW ?_
 refine zOn 4 ?_
 refine xLt 101 4 64 ?_
 refine zW ?_
 refine zOn 5 ?_
 refine xEa 101 4 64 (hb:=by simp only [qk,qt,qq,qu,List.length_replicate];omega) fun v12 hv12=>?_
 refine zW ?_
 refine zT 6 ?_;refine zOn 7 ?_
 iterate 3 refine zW ?_))
 rotate_right
 case' _ =>(
 iterate 2 refine zW ?_
 refine zOn 2 ?_
 refine xA (jwM) ?_
 refine zW ?_
 refine zT 3 ?_;refine zOn 4 ?_
 refine xLt 101 4 64 ?_
 refine zW ?_
 refine zOn 5 ?_
 refine xEa 101 4 64 (hb:=by simp only [qk,qt,qq,qu,List.length_replicate];omega) fun v12 hv12=>?_
 refine zW ?_
 refine zT 6 ?_;refine zOn 7 ?_
 iterate 3 refine zW ?_)
 all_goals (
 iterate 8 refine zW ?_
 rw [show .agg [.b true,.i (Trust.mk 2 (upN 3) []).th,.sl 1 ((Trust.mk 2 (upN 3) []).nodes.map .i),.sl 3 (avs (Trust.mk 2 (upN 3) []).inner)]=mv m3 from rfl,jrn]
 refine ⟨k+1,_,by omega,by omega,zWk⟩))
 ·(
 have hge:=qd hc
 obtain rfl:k=3:=by omega
 refine zFz v [0,1] ?_
 refine xP ?_;exact rfl)
def valV (x:Vd):Value:=.agg #[.int .i64 x.nodes,.bool x.splits,.bool x.halts,.int .i64 x.l,.int .i64 x.r]
theorem juI (x:Vd) (w:World) (O:Nat→Prop):Rep w O (vv x) (valV x):=by
 simp only [vv,valV,Rep,RepL]
 exact ⟨_,rfl,_,_,rfl,rfl,rfl,_,_,rfl,rfl,rfl,_,_,rfl,rfl,rfl,_,_,rfl,rfl,rfl,_,_,rfl,rfl,rfl,rfl⟩
theorem jwZ (x:Vd) (w:World) (O:Nat→Prop) (y:Value) (h:Rep w O (vv x) y):y=valV x:=by
 simp only [vv,Rep,RepL] at h
 obtain ⟨cs,rfl,c1,r1,rfl,rfl,-,c2,r2,rfl,rfl,-,c3,r3,rfl,rfl,-,c4,r4,rfl,rfl,-,c5,r5,rfl,rfl,-,rfl⟩:=h
 rfl
theorem jn2 (c:List Mem) (hok:OKA c) (ch k:Nat) (hk:k<2^c.length):ConW Tryz.prog 82 [.el (.v (.chan (some ch))),.el (cv c),.el (.i k)] ch (valV (judgeC c k)):=by
 refine ju5 4 Tryz.func82 rfl rfl Tryz.call82 rfl (by kernel_rfl) rfl [#[false,false,false,false,false],#[true,false,false,false,false],#[false,true,false,false,false],#[true,true,false,false,false],#[false,false,true,false,false],#[true,false,true,false,false],#[false,true,true,false,false],#[true,true,true,false,false],#[false,true,true,true,false],#[true,true,true,true,false]] (by kernel_rfl) ?_
 refine jeC 0 (by decide) rfl (.none rfl) (by kernel_rfl) (by kernel_rfl) (by kernel_rfl) (AQ.ar (jbY rfl rfl (.v rfl) (fun _ h=>h))) rfl rfl ?_
 refine jeC 1 (by decide) rfl (.none rfl) (by kernel_rfl) (by kernel_rfl) (by kernel_rfl) (AQ.ar (je5 rfl rfl rfl rfl (fun _ h=>h))) rfl rfl ?_
 refine jeC 2 (by decide) rfl (.none rfl) (by kernel_rfl) (by kernel_rfl) (by kernel_rfl) (AQ.ar (jbY rfl rfl (.v rfl) (fun _ h=>h))) rfl rfl ?_
 refine jqw 3 (by decide) (by kernel_rfl) rfl ?_
 refine jaa (by repeat constructor) (jrP c hok k hk) rfl rfl ?_
 refine jaR ?_
 exact jo6 (by kernel_rfl) ⟨rfl,_,rfl,jwZ _⟩
def pdl (f:Nat→Value):Nat→List Value
 | 0=>[]
 | k+1=>f k::pdl f k
def downs:Nat→List Nat
 | 0=>[]
 | k+1=>k::downs k
theorem jpS (f:Nat→Value):∀ n,pdl f n=(downs n).map f
 | 0=>rfl
 | n+1=>by rw [pdl,downs,List.map_cons,jpS f n]
theorem jgu {k:Nat}:∀ {n},k∈downs n↔k<n
 | 0=>by simp [downs]
 | n+1=>by rw [downs,List.mem_cons,jgu];omega
theorem jgY:∀ n,(downs n).length=n
 | 0=>rfl
 | n+1=>by rw [downs,qk,jgY n]
theorem jjH {f:Nat→Value}:∀ {l:List Nat} {l₁:List Value} {v:Value} {l₂:List Value},l.map f=l₁++v::l₂→∃ m₁ k m₂,l=m₁++k::m₂∧l₁=m₁.map f∧v=f k∧l₂=m₂.map f
 | [],l₁,v,l₂,h=>by cases l₁<;>simp at h
 | x::l,[],v,l₂,h=>by
  simp only [List.map_cons,List.nil_append,List.cons.injEq] at h
  exact ⟨[],x,l,rfl,rfl,h.1.symm,h.2.symm⟩
 | x::l,y::l₁,v,l₂,h=>by
  simp only [List.map_cons,List.cons_append,List.cons.injEq] at h
  obtain ⟨m₁,k,m₂,h1,h2,h3,h4⟩:=jjH h.2
  exact ⟨x::m₁,k,m₂,by rw [h1];rfl,by rw [List.map_cons,← h2,h.1],h3,h4⟩
def vd0:Vd:=⟨0,false,false,0,0⟩
def zrow:Nat→List Value
 | 0=>[]
 | n+1=>.int .i64 0::.bool false::.bool false::.int .i64 0::.int .i64 0::zrow n
theorem jnh (w:World) (O:Nat→Prop):∀ n,RepE w O 5 ((List.replicate n vd0).map vv) (zrow n)
 | 0=>by simp [RepE,zrow]
 | n+1=>by
  rw [List.replicate_succ,List.map_cons,zrow]
  simp only [RepE]
  exact ⟨valV vd0,zrow n,rfl,rfl,by simp [valV,Value.cells,Value.oneCell'],juI _ _ _,jnh w O n⟩
theorem jvP (h:n≤4):tmade Tryz.prog 78 (2^n * 5)=some (zrow (2^n)):=by
 rcases (show n=0∨n=1∨n=2∨n=3∨n=4 by omega) with rfl | rfl | rfl | rfl | rfl<;>kernel_rfl
def allV (c:List Mem):List Vd:=(List.range (2^c.length)).map (judgeC c)
theorem jmN (c:List Mem):(allV c).length=2^c.length:=by simp [allV]
theorem jvT {q:List Vd} (hl:q.length=2^c.length) (h:∀ k,k<2^c.length→q[k]?=some (judgeC c k)):q=allV c:=by
 refine List.ext_getElem? fun k=>?_
 by_cases hk:k<2^c.length
 ·rw [h k hk];simp [allV,hk]
 ·rw [List.getElem?_eq_none (by omega),List.getElem?_eq_none (by rw [jmN];omega)]
theorem jv2 (c:List Mem) (hok:OKA c):Con (some Ps) Tryz.prog 28 [cv c] [] (Is (.tup [.sl 5 ((allV c).map vv),.i 0]) []):=by
 refine xI Tryz.func28 Tryz.call28 fun hcap=>?_
 have hp:=juu hok.len
 have hml:(c.map mv).length=c.length:=by simp
 have hrl:((List.replicate (2^c.length) vd0).map vv).length=2^c.length:=by simp
 refine joz ?_
 refine jaX ?_
 refine jaK ?_
 refine zBx fun b1=>?_
 refine zW ?_
 refine zW ?_
 refine jaR ?_
 refine jbe ?_
 refine jaX ?_
 refine jaX ?_
 refine jaK ?_
 refine xA (jk5 c hok 0 (by omega)) ?_
 refine zW ?_
 refine jaR ?_
 refine jbe ?_
 refine jaX ?_
 refine jaK ?_
 refine zW ?_
 refine zW ?_
 refine jaR ?_
 refine jbe ?_
 refine jhx rfl jg9 ?_
 refine jfC ?_
 refine jbe ?_
 refine jaX ?_
 refine jaX ?_
 refine jaK ?_
 refine zW ?_
 refine xN fun _=>?_
 refine zW ?_
 refine jaR ?_
 refine jbe ?_
 refine jhx rfl (by refine qx ?_;have:=hok.len;omega) ?_
 refine jfC ?_
 refine jbe ?_
 refine jaX ?_
 refine jn3 rfl rfl rfl (fun ch=>?_)
 refine jeU rfl zRc rfl rfl (fun b5=>?_)
 refine jeJ rfl rfl jem jct rfl zRc ?_
 refine jaR ?_
 refine jbe ?_
 refine jaX ?_
 refine jaX ?_
 refine jmF (jiX (b:=b1) (d:=cv c) (live:=[1,5]) jxU .agg (by repeat (first | exact .nil | apply SubB.fz rfl | apply SubB.same rfl))) ?_
 refine jmF (jiX (b:=b5) (d:=.v (.chan (some ch))) (live:=[1,5]) jxU (.one (.v rfl)) (by repeat (first | exact .nil | apply SubB.fz rfl | apply SubB.same rfl))) ?_
 refine jaK ?_
 refine xA (jdE c hok.len) ?_
 refine zP (jb7 (m:=((2^c.length:Nat):Int)) rfl rfl (by show some _=_;simp only [ql];omega) (by omega)) ?_
 refine zW ?_
 refine jaR ?_
 refine jbe ?_
 refine jeu ?_
 refine jpM (fun k=>some (ch,pdl (fun k=>valV (judgeC c k)) k)) [1,5,21] [] (fun (k:Nat) r=>(22,.i (k:Int))::r) (fun k r=>r) (fun k=>k≤2^c.length) (fun k=>2^c.length - k) (0) zRc (by omega) (zWk) rfl ?_
 intro k hk
 refine jaX ?_
 refine jaK ?_
 refine zW ?_
 refine jaR ?_
 refine jbe ?_
 refine jaX ?_
 refine jiw rfl (fun hc=>?_) fun hc=>?_
 ·(
 have hlt:=qc hc
 refine jfC ?_
 refine jbe ?_
 refine jaX ?_
 refine jeu ?_
 refine jaX ?_
 refine jaK ?_
 refine xL fun b6=>?_
 refine zW ?_
 refine jaR ?_
 refine jbe ?_
 refine jmF (jiX (b:=b6) (d:=.i (k:Int)) (live:=[1,5,6,21,22]) jxU (.one (.v rfl)) (by repeat (first | exact .nil | apply SubB.fz rfl | apply SubB.same rfl))) ?_
 refine jxn (xs:=[.tmp 5,.tmp 1,.tmp 6]) (valV (judgeC c k)) zRc rfl rfl (jn2 c hok ch k (by omega)) ?_
 refine jnS ?_
 refine jbe ?_
 refine jaK ?_
 refine zW ?_
 refine zW ?_
 refine jaR ?_
 refine jbe ?_
 exact ⟨k+1,by omega,by omega,rfl,zWk⟩)
 ·(
 have hge:=qd hc
 obtain rfl:k=2^c.length:=by omega
 refine jmM ?_
 refine jnr ?_
 refine jnr ?_
 refine jmZ rfl ?_
 refine jbe ?_
 refine jaX ?_
 refine jaK ?_
 refine xA (jdE c hok.len) ?_
 refine zP (jb7 (m:=((2^c.length:Nat):Int)) rfl rfl (by show some _=_;simp only [ql];omega) (by omega)) ?_
 refine jer (N:=2^c.length) (by_:=32) (l:=(List.replicate (2^c.length) vd0).map vv) rfl rfl rfl rfl (jvP hok.len) (by simp) (fun w O=>jnh w O _) ⟨by omega,by omega⟩ rfl rfl (fun g=>?_)
 refine zW ?_
 refine jaR ?_
 refine jbe ?_
 refine jaX ?_
 refine jaX ?_
 refine jaK ?_
 refine zW ?_
 refine zW ?_
 refine zW ?_
 refine jaR ?_
 refine jbe ?_
 refine jeu ?_
 refine jqY (fun l q=>some (ch,l.map (fun k=>valV (judgeC c k)))) [5,7,32] [] (fun (l:List Nat) (q:List Vd) r=>(33,.i ((2^c.length - l.length:Nat):Int))::r) (fun l q r=>.arr (.slice (some ⟨g,0,none⟩) (2^c.length) (2^c.length)) 78 5 (q.map vv)::r) (fun l q=>q.length=2^c.length∧(l.length≤2^c.length∧(∀ k∈l,k<2^c.length))∧∀ k,k<2^c.length→k∈l∨q[k]?=some (judgeC c k)) (fun l q=>l.length) (downs (2^c.length)) (List.replicate (2^c.length) vd0) zRc ⟨by simp,⟨by rw [jgY];omega,fun k hk=>jgu.1 hk⟩,fun k hk=>.inl (jgu.2 hk)⟩ (by rw [show ((2^c.length - (downs (2^c.length)).length:Nat):Int)=0 from by rw [jgY];omega];exact zWk) (by rw [jpS]) ?_
 intro l q ⟨hqn,⟨hql,hlm⟩,hI⟩
 refine jaX ?_
 refine jaK ?_
 refine zW ?_
 refine jaR ?_
 refine jbe ?_
 refine jaX ?_
 refine jiw rfl (fun hc=>?_) fun hc=>?_
 ·(
 have hlt:=qc hc
 refine jfC ?_
 refine jbe ?_
 refine jaX ?_
 refine jeu ?_
 refine jaX ?_
 refine jqX rfl rfl rfl (by intro e;rw [List.map_eq_nil_iff] at e;subst e;simp only [qt] at hlt;omega) ?_
 refine jnV (jbY rfl rfl (.v rfl) (fun _ h=>qo h qp)) rfl rfl rfl ?_
 refine jaR ⟨rfl,fun l₁ v l₂ hl=>?_⟩
 obtain ⟨m₁,k,m₂,rfl,rfl,rfl,rfl⟩:=jjH hl
 have hkN:=hlm k (by simp)
 obtain ⟨y,hy,_⟩:=jab (l:=q) (k:=k) (by omega)
 have hyy:=jad vv hy
 refine ⟨vv (judgeC c k),juI _,?_⟩
 refine jeU rfl zRc rfl rfl (fun b8=>?_)
 refine jeJ rfl rfl jem jct rfl zRc ?_
 refine jaR ?_
 refine jbe ?_
 refine jaK ?_
 refine zW ?_
 refine zW ?_
 refine zW ?_
 refine zW ?_
 refine zP (jaW (k:=k) rfl rfl rfl rfl rfl hkN) ?_
 refine jaI (off:=0) rfl rfl jem jct rfl hyy zRc ?_
 refine jaR ?_
 refine jnS ?_
 refine jbe ?_
 refine jaK ?_
 refine zW ?_
 refine zW ?_
 refine jaR ?_
 refine jbe ?_
 rw [show ((2^c.length - (m₁++k::m₂).length:Nat):Int)+1=((2^c.length - (m₁++m₂).length:Nat):Int) from by simp only [qq,qk] at hql ⊢;omega]
 rw [show (q.map vv).set k (D.agg [.i (judgeC c k).nodes,.b (judgeC c k).splits,.b (judgeC c k).halts,.i (judgeC c k).l,.i (judgeC c k).r])=(q.set k (judgeC c k)).map vv from by rw [List.map_set];rfl]
 refine ⟨m₁++m₂,q.set k (judgeC c k),⟨by rw [List.length_set];exact hqn,⟨by simp only [qq,qk] at hql ⊢;omega,fun j hj=>hlm j ?_⟩,fun j hj=>?_⟩,by simp only [qq,qk];omega,by rw [List.map_append],zWk⟩
 ·rw [List.mem_append] at hj;rw [List.mem_append,List.mem_cons];exact hj.imp id .inr
 ·(
 by_cases e:j=k
 ·subst e;right;rw [List.getElem?_set_self (by omega)]
 ·(
 rcases hI j hj with h | h
 ·(
 left;rw [List.mem_append,List.mem_cons] at h;rw [List.mem_append];rcases h with h | h | h
 ·exact .inl h
 ·exact qo h e
 ·exact .inr h)
 ·right;rw [List.getElem?_set_ne (fun h=>e h.symm)];exact h)))
 ·(
 have hge:=qd hc
 have hl0:l=[]:=List.eq_nil_of_length_eq_zero (by omega)
 subst hl0
 have hqe:=jvT hqn (fun k hk=>(hI k hk).resolve_left qp)
 refine jpZ (ch:=ch) ?_
 refine jn0 (.slice (some ⟨g,0,none⟩) (2^c.length) (2^c.length)) [7] jxU jdy jcK ?_
 refine jmM ?_
 refine jnr ?_
 refine jnr ?_
 refine jmZ rfl ?_
 refine jbe ?_
 refine jaX ?_
 refine jaK ?_
 refine zW ?_
 refine zW ?_
 refine zW ?_
 refine jaR ?_
 refine jbe ?_
 refine jwn ?_
 refine ⟨rfl,?_⟩
 exact jao (.tmp rfl (.tmp rfl .nil)) jb8 (by rw [hqe];rfl)))
theorem jyq:leastV Vd.splits (allV c3)=[1,2,4]:=by kernel_rfl
theorem jyv:leastV Vd.halts (allV c3)=[3,5,6]:=by kernel_rfl
theorem jym:silentC c3 1=false:=by kernel_rfl
theorem jhJ (h:c.length≤4):∀ v∈allV c,v.nodes<1024:=by
 intro v hv
 obtain ⟨k,hk,rfl⟩:=List.mem_map.1 hv
 have hk':=List.mem_range.1 hk
 have hp:=jb3 (show c.length≤10 by omega)
 show k<1024
 omega
theorem jpz (h:c.length≤4):(allV c).length≤1000000:=by
 rw [jmN]
 have hp:=jb3 (show c.length≤10 by omega)
 omega
theorem jpV (c:List Mem) (hok:OKA c):Con (some Ps) Tryz.prog 30 [cv c] [] (Is (.tup [.sl 1 ((leastV Vd.splits (allV c)).map .i),.sl 1 ((leastV Vd.halts (allV c)).map .i),.i 0]) []):=by
 refine xI Tryz.func30 Tryz.call30 fun hcap=>?_
 refine xX fun b1=>?_
 refine xA (jv2 c hok) ?_
 iterate 14 refine zW ?_
 refine jaE rfl jg9 ?_
 refine xA ((jhK 85 Vd.splits jlR (allV c) (jhJ hok.len) (jpz hok.len)).main) ?_
 refine xA ((jhK 86 Vd.halts joR (allV c) (jhJ hok.len) (jpz hok.len)).main) ?_
 refine xP ?_;exact rfl
theorem jpn:Con (some Ps) Tryz.prog 12 [] [] (Is (.b true) []):=by
 refine xI Tryz.func12 Tryz.call12 fun hcap=>?_
 refine xA (jfO.main) ?_
 refine xA (jpV c3 juB) ?_
 iterate 14 refine zW ?_
 all_goals refine zW ?_
 all_goals (refine zY ?_;refine xLt 3 1 8 ?_)
 all_goals (refine zY ?_;refine jaa zRc ((jku (leastV Vd.splits (allV c3)) [1,2,4]).main) rfl rfl ?_)
 iterate 3 all_goals first | refine zW ?_ | refine xG ?_ ?_<;>intro hg
 all_goals first | (refine zY ?_;refine xLt 3 1 8 ?_) | refine zSk ?_
 all_goals first | (refine zY ?_;refine jaa zRc ((jku (leastV Vd.halts (allV c3)) [3,5,6]).main) rfl rfl ?_) | refine zSk ?_
 iterate 2 all_goals refine zW ?_
 all_goals first | (refine zY ?_;refine jaa zRc (jfO.main) rfl rfl ?_) | refine zSk ?_ | (refine zG (fun hg=>?_) fun hg=>?_;case' _=>refine jaa zRc (jfO.main) rfl rfl ?_)
 all_goals first | (refine zY ?_;refine jaa zRc ((jon c3 juB 1 (by decide)).main) rfl rfl ?_) | refine zSk ?_
 iterate 3 all_goals refine zW ?_
 all_goals (
 refine xP ?_
 simp_all [resD,jyq,jyv,jym];done)
theorem jd3 {env:Env} {H:Heap} {dst:Option Tmp} {ty:TypeId} {pos:String} {after:Array Edge} {gd:Option (Nat × Bool)} {x:Operand} {P:Program} {s t k0 p u} (hx:opd env x=some (.v (.int k0 p))) (hs:P.underlying s=some u) (ht:P.underlying t=some (.int .u64)) (hb:0≤p∧p<18446744073709551616):AP P n ⟨dst,.convert s t x,ty,pos,after,gd⟩ env H (.v (.int .u64 p)):=by
 have:=jfM (P:=P) (n:=n) (env:=env) (H:=H) (dst:=dst) (ty:=ty) (pos:=pos) (after:=after) (gd:=gd) hx hs ht
 rwa [jxB hb.1 hb.2] at this
structure Lt (c:List Mem):Prop where
 len:c.length≤4
 size:∀ m∈c,sizeT m.t≤1000
theorem Lt.s9 (h:Lt c):∀ m∈c,sizeT m.t≤1000000000:=fun m hm=>by have:=h.size m hm;omega
theorem OKA.lt (h:OKA c):Lt c:=⟨h.len,fun m hm=>by have:=h.size m hm;omega⟩
structure Stp where
 kind:Int
 node:Int
 to:Int
 slot:Int
 count:Int
 val:ByteArray
 lk:Int
 ls:Int
 en:Int
 es:Int
 eq:Int
 th:Int
 tn:List Int
 ek:Int
 bn:Int
 bv:ByteArray
 lo:Int
 hi:Int
 parts:List Int
def stv (x:Stp):D:=.agg [.i x.kind,.i x.node,.i x.to,.i x.slot,.i x.count,.v (.string x.val),.i 0,.sl 1 [],.sl 3 [],.i x.lk,.i x.ls,.i 0,.i 0,.i 0,.sl 1 [],.sl 3 [],.sl 1 [],.sl 1 [],.i x.en,.i x.es,.i x.eq,.i x.th,.sl 1 (x.tn.map .i),.sl 3 [],.i x.ek,.i x.bn,.v (.string x.bv),.i 0,.v (.string ⟨#[]⟩),.i 0,.v (.string ⟨#[]⟩),.i x.lo,.i x.hi,.sl 1 (x.parts.map .i)]
abbrev sE:ByteArray:=⟨#[]⟩
def prefS (k:Int) (w:ByteArray):Stp:=⟨8,k,0,1,0,w,0,0,0,0,0,0,[],0,0,sE,0,0,[]⟩
def tickS:Stp:=⟨2,0,0,0,12,sE,0,0,0,0,0,0,[],0,0,sE,0,0,[]⟩
theorem jw9 (k:Int) (w:ByteArray):Cv (.slice none 0 0) 1 [] (.agg [.i 8,.i k,.i 0,.i 1,.i 0,.v (.string w),.i 0,.nil,.nil,.i 0,.i 0,.i 0,.i 0,.i 0,.nil,.nil,.nil,.nil,.i 0,.i 0,.i 0,.i 0,.nil,.nil,.i 0,.i 0,.v (.string sE),.i 0,.v (.string ⟨#[]⟩),.i 0,.v (.string ⟨#[]⟩),.i 0,.i 0,.nil]) (stv (prefS k w)):=Cv.agg (by repeat (first | exact CvL.nil | apply CvL.cons (by first | exact Cv.same | exact Cv.nil)))
theorem jxx:Cv (.slice none 0 0) 1 [] (.agg [.i 2,.i 0,.i 0,.i 0,.i 12,.v (.string sE),.i 0,.nil,.nil,.i 0,.i 0,.i 0,.i 0,.i 0,.nil,.nil,.nil,.nil,.i 0,.i 0,.i 0,.i 0,.nil,.nil,.i 0,.i 0,.v (.string sE),.i 0,.v (.string ⟨#[]⟩),.i 0,.v (.string ⟨#[]⟩),.i 0,.i 0,.nil]) (stv tickS):=Cv.agg (by repeat (first | exact CvL.nil | apply CvL.cons (by first | exact Cv.same | exact Cv.nil)))
def prefL (s:Int) (w:ByteArray):List Stp:=(nodesOf s).map fun k=>prefS k w
theorem jnO (s:Int):(nodesOf s).length≤10:=by
 unfold nodesOf
 have:=List.length_filter_le (fun k=>has s k) (upTo 10)
 rw [jsK] at this
 exact this
theorem jpJ (q:List Stp) (x:Stp):q.map stv++[stv x]=(q++[x]).map stv:=by simp
theorem jyj {α:Type} {l:List α} {x:α} (h:l[k]?=some x):l.take (k+1)=l.take k++[x]:=by rw [List.take_add_one,h];rfl
theorem jo1 (v0:Value) (q:List Stp) (hq:q.length≤1000) (s:Int) (w:ByteArray):Con none Tryz.prog 71 [.v v0,.i s,.v (.string w)] [.arr v0 59 34 (q.map stv)] (fun d H=>∃ v,d=.v v∧H=[.arr v 59 34 ((q++prefL s w).map stv)]):=by
 refine xI Tryz.func71 Tryz.call71 fun hcap=>?_
 have hnl:((nodesOf s).map D.i).length=(nodesOf s).length:=by simp
 have hn10:=jnO s
 refine xA (jjQ _) ?_
 refine zLn fun _=>?_
 iterate 4 refine zW ?_
 refine jag [2,10,11] [] (fun (k:Nat) (v:Value) r=>(0,.v v)::(12,.i (k:Int))::r) (fun k v r=>.arr v 59 34 ((q++((nodesOf s).take k).map (fun j=>prefS j w)).map stv)::r) (fun k v=>k≤(nodesOf s).length) (fun k v=>(nodesOf s).length - k) (0) (v0) zRc (by omega) (by rw [List.take_zero,List.map_nil,List.append_nil];exact zWk) ?_
 intro k v hk
 have hql:((q++((nodesOf s).take k).map (fun j=>prefS j w)).map stv).length≤1010:=by simp only [qu,qq,List.length_take];omega
 refine xC ?_ ?_<;>intro hc
 ·(
 have hlt:=qc hc
 obtain ⟨x,hx,_⟩:=jab (l:=nodesOf s) (k:=k) (by omega)
 have hx':=jad D.i hx
 iterate 16 refine zW ?_
 refine jaD [2,10,11,12,16,19] 1 rfl rfl (by repeat (first | exact SelC.nil | apply SelC.cons rfl (jw9 x w) | apply SelC.cons rfl Cv.same)) jb0 ?_;refine xLt 59 34 448 ?_
 refine xEa 59 34 448 (hb:=by simp only [qk,qt];omega) fun v21 hv21=>?_
 iterate 9 refine zW ?_
 rw [jpJ,show q++((nodesOf s).take k).map (fun j=>prefS j w)++[prefS x w]=q++((nodesOf s).take (k+1)).map (fun j=>prefS j w) from by rw [jyj hx,List.map_append,List.append_assoc];rfl]
 refine ⟨k+1,_,by omega,by omega,zWk⟩)
 ·(
 have hge:=qd hc
 rw [qA (show (nodesOf s).length≤k by omega)]
 iterate 12 refine zW ?_
 exact jaQ (.tmp rfl .nil) jb8 ⟨_,rfl,rfl⟩)
def plainL (c:List Mem) (w:ByteArray):List Stp:=if validC c=0 then prefL ((2^c.length - 1:Nat):Int) w++[tickS] else []
theorem jk2 (c:List Mem) (hL:Lt c) (w:ByteArray):C0 20 [cv c,.v (.string w)] (.sl 34 ((plainL c w).map stv)):=by
 refine xI Tryz.func20 Tryz.call20 fun hcap=>?_
 have hp:=juu hL.len
 refine xX fun b2=>?_
 refine xA (jhu c hL.s9) ?_
 refine xC ?_ ?_<;>intro hc
 ·(
 have hv:=jaf hc
 iterate 5 refine zW ?_
 refine jal [4] 34 rfl jdy jcK ?_
 refine xP ?_
 unfold plainL;rw [qe hv];rfl)
 ·(
 have hv:validC c=0:=jae hc
 have hpl:=jnO ((2^c.length - 1:Nat):Int)
 have hql:((prefL ((2^c.length - 1:Nat):Int) w).map stv).length≤10:=by simp only [prefL,qu];omega
 have hql2:(([]++prefL ((2^c.length - 1:Nat):Int) w).map stv).length≤10:=by rw [List.nil_append];exact hql
 refine xA (jdE c hL.len) ?_
 refine zW ?_
 refine jlD rfl (jaO 59 34 rfl) ?_;(refine jaq zRc (jo1 (.slice none 0 0) [] (by simp) ((2^c.length - 1:Nat):Int) w) jaA rfl rfl ?_;rintro _ _ ⟨v11,rfl,rfl⟩)
 refine zW ?_
 refine jaD [11,12] 1 rfl rfl (by repeat (first | exact SelC.nil | apply SelC.cons rfl (jxx) | apply SelC.cons rfl Cv.same)) jb0 ?_;refine xLt 59 34 448 ?_
 refine xEa 59 34 448 (hb:=by simp only [qk,qt];omega) fun v14 hv14=>?_
 iterate 3 refine zW ?_
 refine zFz v14 [4] ?_
 refine xP ?_
 unfold plainL;rw [qf hv,← jpJ]
 simp only [resD,List.nil_append];done)
theorem bcl {x y:Bool} (h:x=y):resD [D.b x]=D.b y:=by rw [h];rfl
theorem icl {x y:Int} (h:x=y):resD [D.i x]=D.i y:=by rw [h];rfl
theorem jdM (q:List Evp) (x:Evp):q.map ev++[ev x]=(q++[x]).map ev:=by simp
theorem jyr {s u:ByteArray} (h:s.toList=u.toList):s=u:=by
 rw [ByteArray.toList_eq,ByteArray.toList_eq] at h
 cases s;cases u
 simp only at h
 congr 1
 exact Array.toList_inj.1 h
theorem jsz (a:Int) (s:ByteArray) (c:Int) (u:ByteArray):EqS Tryz.prog 53 #[.int .i64 a,.string s] #[.int .i64 c,.string u] (decide (a=c)&&decide (s=u)):=by
 have u3:=Tryz.underlying3
 have a3:=Tryz.isAgg3
 have z3:=Tryz.sizeOf3
 have u4:=Tryz.underlying9
 have a4:=Tryz.isAgg9
 have z4:=Tryz.sizeOf9
 have hS:Tryz.prog.underlying 53=some (.struct (Tryz.prog.fieldsOf 53)):=by kernel_rfl
 have hp:Tryz.prog.stoodInHeld 53=false:=by kernel_rfl
 refine ⟨by kernel_rfl,fun w=>⟨?_,?_⟩⟩
 ·(
 rw [show (10000:Nat)=9999+1 from rfl,run_equalIn_agg w 9999 53 _ _ hS hp]
 simp only [Program.fieldsOf,Tryz.underlying53]
 go_simp
 by_cases h1:a=c<;>by_cases h2:s.toList=u.toList<;>simp [h1,h2]
 ·exact jyr h2
 ·exact fun e=>h2 (by rw [e]))
 ·(
 rw [show (10000:Nat)=9999+1 from rfl,jcR w 9999 53 _ _ _ hS hp]
 simp only [Program.fieldsOf,Tryz.underlying53]
 go_simp
 by_cases h1:a=c<;>by_cases h2:s.toList=u.toList<;>simp [h1,h2]
 all_goals simp only [show (9999:Nat)=9998+1 from rfl,jeg _ _ _ _ _ _ _ _ u3,jc3 _ _ _ _ _ _ u4])
theorem jaJ (b:Bal):C0 183 [bv b] (.b (zB b)):=by
 refine xI Tryz.func183 Tryz.call183 fun hcap=>?_
 refine xX fun b1=>?_
 iterate 7 refine zW ?_
 refine zP (jd7 rfl zRc rfl zRc (jsz _ _ _ _)) ?_
 refine xP ?_;exact rfl
theorem jdh (b:Bal):C0 202 [bv b] (.b (vB b)):=by
 refine xI Tryz.func202 Tryz.call202 fun hcap=>?_
 refine xX fun b1=>?_
 iterate 9 refine zW ?_
 iterate 22 all_goals first | refine zW ?_ | refine xG ?_ ?_<;>intro hg
 all_goals (
 refine xP ?_;refine (bcl ?_)
 first | rfl | (simp only [vB];simp [*];done) | grind [vB])
theorem ja2 (a b:Bal):C0 204 [bv a,bv b] (.b (cB a b)):=by
 refine xI Tryz.func204 Tryz.call204 fun hcap=>?_
 refine xX fun b2=>?_
 refine zBx fun b3=>?_
 refine xP ?_;exact rfl
theorem jql (a b:Str):C0 230 [.v (.string a),.v (.string b)] (.b (decide (cV a b<0))):=by
 refine xI Tryz.func230 Tryz.call230 fun hcap=>?_
 refine xC ?_ ?_<;>intro hc
 ·(
 have h1:=jaf hc
 refine xP ?_;refine (bcl ?_)
 rw [jq2,qe (by omega)])
 ·(
 have h1:=jae hc
 refine xP ?_;refine (bcl ?_)
 rw [jq2,qf (by omega)];rfl)
theorem jcJ (a b:Bal):C0 203 [bv a,bv b] (.b (lB a b)):=by
 refine xI Tryz.func203 Tryz.call203 fun hcap=>?_
 refine xX fun b2=>?_
 refine zBx fun b3=>?_
 refine xC ?_ ?_<;>intro hc
 ·(
 have h1:=jaf hc
 refine xP ?_;refine (bcl ?_)
 rw [jlZ,qe h1])
 ·(
 have h1:=jae hc
 refine xA (jql a.v b.v) ?_
 refine xP ?_;refine (bcl ?_)
 rw [jlZ,qf h1])
theorem jdZ (p b:Bal):C0 231 [bv p,bv b] (.b (covB p b)):=by
 refine xI Tryz.func231 Tryz.call231 fun hcap=>?_
 refine xX fun b2=>?_
 refine zBx fun b3=>?_
 refine xA (jaJ p) ?_
 iterate 2 refine zW ?_
 iterate 2 all_goals first | refine zW ?_ | refine xG ?_ ?_<;>intro hg
 all_goals first | (refine zY ?_;refine jaa zRc (ja2 p b) rfl rfl ?_) | refine zSk ?_
 iterate 9 all_goals first | refine zW ?_ | refine xG ?_ ?_<;>intro hg
 all_goals (
 refine xP ?_;refine (bcl ?_)
 first | rfl | (simp only [covB];simp [*];done))
theorem jeS (p b:Bal):C0 206 [bv p,bv b] (.b (abB p b)):=by
 refine xI Tryz.func206 Tryz.call206 fun hcap=>?_
 refine xX fun b2=>?_
 refine zBx fun b3=>?_
 refine xA (jaJ p) ?_
 iterate 2 refine zW ?_
 iterate 2 all_goals first | refine zW ?_ | refine xG ?_ ?_<;>intro hg
 all_goals first | (refine zY ?_;refine jaa zRc (ja2 p b) rfl rfl ?_) | refine zSk ?_
 iterate 5 all_goals first | refine zW ?_ | refine xG ?_ ?_<;>intro hg
 all_goals first | (refine zY ?_;refine jaa zRc (jcJ b p) rfl rfl ?_) | refine zSk ?_
 iterate 2 all_goals refine zW ?_
 all_goals (
 refine xP ?_;refine (bcl ?_)
 first | rfl | (simp only [abB];simp [*];done))
theorem jgl (p q b:Bal):C0 205 [bv p,bv q,bv b] (.b (prB p q b)):=by
 refine xI Tryz.func205 Tryz.call205 fun hcap=>?_
 refine xX fun b3=>?_
 refine zBx fun b4=>?_
 refine zBx fun b5=>?_
 refine xA (jdZ p b) ?_
 refine zW ?_
 iterate 2 all_goals first | refine zW ?_ | refine xG ?_ ?_<;>intro hg
 all_goals first | (refine zY ?_;refine jaa zRc (jdZ q b) rfl rfl ?_) | refine zSk ?_
 iterate 3 all_goals first | refine zW ?_ | refine xG ?_ ?_<;>intro hg
 all_goals first | (refine zY ?_;refine jaa zRc (jaJ q) rfl rfl ?_) | refine zSk ?_
 iterate 4 all_goals first | refine zW ?_ | refine xG ?_ ?_<;>intro hg
 all_goals first | (refine zY ?_;refine jaa zRc (jcJ b q) rfl rfl ?_) | refine zSk ?_
 iterate 3 all_goals refine zW ?_
 all_goals (
 refine xP ?_;refine (bcl ?_)
 first | rfl | (simp only [prB];simp [*];done))
def headR (e:Evp):Bool:=headE e&&vB e.bal
theorem jte {e:Evp} (h:headR e=false):vE e=false:=by
 unfold vE headR at *
 cases h1:headE e with
 | false=>rfl
 | true =>
  rw [h1,qs] at h
  rw [qs]
  unfold kindE prepE finB
  rw [h]
  simp
end Go.Proofs.YtgmpjpaekpefdaaGreat
