import Derived.Test.YtgmpjpaekpefdaaGreatAnalyserSplitsW7
set_option linter.unusedVariables false
set_option linter.unusedSimpArgs false
set_option maxRecDepth 4000
set_option maxHeartbeats 16000000
namespace Go.Tq
open Go Go.Av
theorem u3(p:Int->Bool):∀l,0<=cnt p l
 | []=>by simp[cnt]
 | x::r=>by rw[jcZ];have:=u3 p r;split<;>omega
theorem u4(s:Int):∀l,0<=cntI s l
 | []=>by simp[cntI]
 | x::r=>by rw[jcD];have:=u4 s r;split<;>omega
theorem u1(p:Int->Bool)(x:Int):∀l,cnt p (l++[x])=cnt p l+(if p x then 1 else 0)
 | []=>by simp[cnt]
 | y::r=>by rw[List.cons_append,jcZ,jcZ,u1 p x r];omega
theorem u2(s:Int)(x:Trust):∀l,cntI s (l++[x])=cntI s l+(if sat s x then 1 else 0)
 | []=>by rw[List.nil_append,jcD];simp[cntI]
 | y::r=>by rw[List.cons_append,jcD,jcD,u2 s x r];omega
theorem u5{k:Int}(h:k<=1000000):k - 1<=lw k/\lw k<=1000000:=by
 unfold lw;split
 ·omega
 ·have e:IntKind.i64.wrap (k - 1)=k - 1:=by
   simp only[IntKind.wrap,IntKind.bits,IntKind.signed];simp;omega
  rw[e];omega
section
variable{q s r:Nat}
theorem u6(hr:∀x:Int,has r x=true->has q x=true)(hs:∀x:Int,has s x=true->has q x=true)(l:List Int):∀(th:Int)(p:List Int),th<=1000000->th+cnt (has r) (lessN s l th p).2<=(lessN s l th p).1+cnt (has q) l+cnt (has r) p/\(lessN s l th p).1<=1000000:=by
 induction l with
 | nil=>intro th p h;simp only[cnt,lessN];omega
 | cons x l ih =>
  intro th p h;rw[jcZ];simp only[lessN];cases hx:has (s:Int) x with
  | true =>
   rw[qf rfl,hs x hx,qf rfl];have h1:=u5 h;have h2:=ih (lw th) p h1.2;omega
  | false =>
   rw[qe zd];have h2:=ih th (p++[x]) h;rw[u1] at h2;cases e:has (r:Int) x with
   | true=>rw[e,qf rfl] at h2;rw[hr x e,qf rfl];omega
   | false=>rw[e,qe zd] at h2;split<;>omega
theorem u7:∀(l:List Trust),(∀t∈l,(less s t).th<=0\/sat r (less s t)=true->sat q t=true)->∀(th:Int)(p:List Trust),th<=1000000->th+cntI r (lessI s l th p).2<=(lessI s l th p).1+cntI q l+cntI r p
 | [],_,th,p,h=>by simp only[cntI,lessI];omega
 | x::l,hx,th,p,h=>by
  rw[jcD];have hx1:=hx x (za);have hx2:=λt ht=>hx t (qj _ ht);rw[jb9];split
  ·rename_i h0
   rw[hx1 (.inl h0),qf rfl];have h1:=u5 h;have h2:=u7 l hx2 (lw th) p h1.2;omega
  ·have h2:=u7 l hx2 th (p++[less s x]) h
   rw[u2] at h2;cases e:sat (r:Int) (less s x) with
   | true=>rw[e,qf rfl] at h2;rw[hx1 (.inr e),qf rfl];omega
   | false=>rw[e,qe zd] at h2;split<;>omega
theorem u8(hr:∀x:Int,has r x=true->has q x=true)(hs:∀x:Int,has s x=true->has q x=true)(hq:q<1024):∀t,checkT t=0->sizeT t<=100000->(less s t).th<=0\/sat r (less s t)=true->sat q t=true:=by
 intro t
 induction t using Trust.ind with
 | _ t ih =>
  intro hc hz h;have hgd:=jhy hc;have hz':sizeT t=t.nodes.length+t.inner.length+sizeL t.inner:=rfl;have h1:=u6 hr hs t.nodes t.th [] (by have:=hgd.hi;omega);have h2:=u7 t.inner (λx hx=>ih x hx (hgd.inner x hx) (by have:=jbM hx;omega)) (lessN s t.nodes t.th []).1 [] h1.2;simp only[cnt,cntI] at h1 h2;have hp:=u3 (has r) (lessN s t.nodes t.th []).2;have hp2:=u4 r (lessI s t.inner (lessN s t.nodes t.th []).1 []).2;unfold sat;rw[jfp hq,qx];refine qg ?_;rcases h with h | h
  ·have h:(lessI s t.inner (lessN s t.nodes t.th []).1 []).1<=0:=h
   omega
  ·unfold sat at h
   rw[qh] at h;have h:(lessI s t.inner (lessN s t.nodes t.th []).1 []).1<=cnt (has r) (lessN s t.nodes t.th []).2+cntI r (lessI s t.inner (lessN s t.nodes t.th []).1 []).2:=qc h.2;omega
end
theorem u9{c:List Mem}(hc:CfgOk c){s a:Nat}(hs:s<1024)(ha:a<1024)(h:quorumC (delC c s) a=true):∀i:Nat,a.testBit i=true->i<c.length/\s.testBit i=false/\sat (a|||s:Nat) (tOf c i)=true:=by
 obtain⟨_,hd,hq⟩:=(jck ha).1 h;intro i hi;obtain⟨m,h1,h2,h3⟩:=jc0.1 (hd i hi);have hil:i<c.length:=by have:=(List.getElem?_eq_some_iff.1 h2).1;unfold delC at this;rwa [jgu] at this
 have hm:=List.getElem?_eq_getElem hil;have hok:=hc.ok i _ hm;have e:=jl1 s c 0 i _ hm;rw[Nat.zero_add] at e;have e2:(delC c s)[i]?=some (delM s i c[i]):=e;rw[h2,qs] at e2
 have hsi:s.testBit i=false:=by
  cases hx:s.testBit i with
  | false=>rfl
  | true =>
   rw[e2] at h3;unfold delM at h3;rw[qf ((jaX hs).2 ⟨by omega,by omega,by rw[qq];exact hx⟩)] at h3;cases h3
 refine⟨hil,hsi,?_⟩;have hw:a|||s<1024:=Nat.or_lt_two_pow (n:=10) ha hs
 have hb:=hq i ((jaX ha).2 ⟨by omega,by omega,by rw[qq];exact hi⟩)
 have et:tOf (delC c s) (i:Int)=delT s i c[i].t:=by
  rw[jbp h2,e2];unfold delM;rw[qe (λhx=>by have:=((jaX hs).1 hx).2.2;rw[qq,hsi] at this;cases this),qf hok.1]
 rw[et] at hb;rw[jbp hm];refine u8 (q:=a|||s) (s:=s) (r:=a) (λx hx=>?_) (λx hx=>?_) hw _ (jbA hok.2) (hc.sz _ (List.getElem_mem hil)) ?_
 ·have:=(jaX ha).1 hx
  exact(jaX hw).2 ⟨this.1,this.2.1,by rw[Nat.testBit_or,this.2.2];rfl⟩
 ·have:=(jaX hs).1 hx
  exact(jaX hw).2 ⟨this.1,this.2.1,by rw[Nat.testBit_or,this.2.2];simp⟩
 ·unfold delT at hb
  by_cases h0:(less s c[i].t).th<=0
  ·exact .inl h0
  ·rw[qe h0] at hb;exact .inr hb
theorem v1{x k:Nat}(hx:x<1024):hasP (x:Int) (k:Int)=x.testBit k:=by
 unfold hasP;rw[qg (p:=(x:Int)>=0) zo,qg (p:=(x:Int)<=1023) zo,qq,qq];rfl
theorem v2{k:Int}:∀(l:List Int)(i:Nat),partGo k l i>=0↔∃x∈l,hasP x k=true
 | [],i=>by
  unfold partGo;constructor
  ·intro h;omega
  ·rintro⟨x,hx,_⟩;cases hx
 | x::r,i=>by
  unfold partGo
  by_cases h:hasP x k=true
  ·rw[qf h]
   exact⟨λ_=>⟨x,za,h⟩,λ_=>by omega⟩
  ·rw[qe h,v2 r (i+1)]
   constructor
   ·rintro⟨y,hy,h2⟩;exact⟨y,qj _ hy,h2⟩
   ·rintro⟨y,hy,h2⟩
    rcases List.mem_cons.1 hy with rfl | hy
    ·exact qp h2 h
    ·exact⟨y,hy,h2⟩
theorem v3{ps:List Int}{j i:Nat}(hj:j<10)(hi:i<10)(hne:¬j=i):apN ps j i=false↔(∃x∈ps,hasP x j=true/\hasP x i=true)\/(¬ ∃x∈ps,hasP x j=true)\/¬ ∃x∈ps,hasP x i=true:=by
 have hn:∀k:Nat,k<10->nodeN (k:Int)=true:=λk hk=>by
  unfold nodeN;rw[qg (p:=(k:Int)>=0) zo,qg (p:=(k:Int)<=9) zo];rfl
 unfold apN apartV;rw[qe (by rw[hn j hj,hn i hi];simp)]
 by_cases h:ps.any (λs=>hasP s (j:Int)&&hasP s (i:Int))=true
 ·rw[qf h]
  obtain⟨x,hx,h2⟩:=List.any_eq_true.1 h;rw[qh] at h2;exact⟨λ_=>.inl ⟨x,hx,h2⟩,λ_=>rfl⟩
 ·rw[qe h,qz (p:=(j:Int)=i) zo]
  unfold partV;rw[Bool.not_false,Bool.and_true,Bool.and_eq_false_iff,decide_eq_false_iff_not,decide_eq_false_iff_not,v2,v2];constructor
  ·intro h2;exact .inr h2
  ·rintro(⟨x,hx,h2,h3⟩ | h2)
   ·exact qp (List.any_eq_true.2 ⟨x,hx,by rw[h2,h3];rfl⟩) h
   ·exact h2
theorem spl_of{c:List Mem}{s l r x:Nat}{a b:Str}{ps:List Int}(hc:CfgOk c)(hs:s<2^c.length)(t:Two c s l r)(va:1<=a.size/\a.size<=200)(vb:1<=b.size/\b.size<=200)(hx:x<1024)(hxb:∀i:Nat,i<c.length->(x.testBit i=true↔s.testBit i=false/\l.testBit i=false/\r.testBit i=false))(hxn:∀i:Nat,x.testBit i=true->i<c.length)(hps:ps=if x=0 then [(l:Int),(r:Int)] else [(l:Int),(r:Int),(x:Int)]):Spl c s l r a b ps:=by
 have hp:=jaC hc.len.2;have hl10:=hc.len.2;have h1:=t.a1;have h2:=t.an;have h3:=t.b1;have h4:=t.bn
 have hdis:∀i:Nat,l.testBit i=true->r.testBit i=false:=λi hi=>by
  have:(l&&&r).testBit i=false:=by rw[t.dis,Nat.zero_testBit]
  rw[Nat.testBit_and,hi,qx] at this;exact this
 have ql:=u9 hc (by omega:s<1024) (by omega:l<1024) t.qa;have qr:=u9 hc (by omega:s<1024) (by omega:r<1024) t.qb
 have hm:∀y:Int,y∈ps↔y=(l:Int)\/y=(r:Int)\/(y=(x:Int)/\¬x=0):=λy=>by
  rw[hps]
  by_cases h0:x=0
  ·rw[qf h0];simp[h0]
  ·rw[qe h0];simp[h0]
 have hb:∀j i:Nat,(∃y∈ps,hasP y j=true/\hasP y i=true)↔(l.testBit j=true/\l.testBit i=true)\/(r.testBit j=true/\r.testBit i=true)\/(x.testBit j=true/\x.testBit i=true):=λj i=>by
  constructor
  ·rintro⟨y,hy,hh,hh2⟩
   rcases(hm y).1 hy with rfl | rfl | ⟨rfl,_⟩
   ·rw[v1 zo] at hh hh2;exact .inl ⟨hh,hh2⟩
   ·rw[v1 zo] at hh hh2;exact .inr (.inl ⟨hh,hh2⟩)
   ·rw[v1 hx] at hh hh2;exact .inr (.inr ⟨hh,hh2⟩)
  ·rintro(⟨hh,hh2⟩ | ⟨hh,hh2⟩ | ⟨hh,hh2⟩)
   ·exact⟨_,(hm _).2 (.inl rfl),by rw[v1 zo];exact hh,by rw[v1 zo];exact hh2⟩
   ·exact⟨_,(hm _).2 (.inr (.inl rfl)),by rw[v1 zo];exact hh,by rw[v1 zo];exact hh2⟩
   ·exact⟨_,(hm _).2 (.inr (.inr ⟨rfl,λe=>by rw[e,Nat.zero_testBit] at hh;cases hh⟩)),by rw[v1 hx];exact hh,by rw[v1 hx];exact hh2⟩
 have hin:∀k:Nat,(∃y∈ps,hasP y k=true)↔l.testBit k=true\/r.testBit k=true\/x.testBit k=true:=λk=>by
  have h:=hb k k;simpa only[and_self] using h
 refine⟨hc,hs,by omega,by omega,ql,qr,hdis,va,vb,?_,λi j hi hsi hj hne=>?_,λi j hj hi=>?_⟩
 ·have hlx:(l|||r)&&&x=0:=by
   apply Nat.eq_of_testBit_eq;intro i;rw[Nat.zero_testBit,Nat.testBit_and,Nat.testBit_or];cases e:x.testBit i with
   | false=>rw[Bool.and_false]
   | true =>
    have:=(hxb i (hxn i e)).1 e;rw[this.2.1,this.2.2];rfl
  have z1:(0:Nat)|||l=l:=Nat.zero_or l
  rw[hps];unfold partsV
  by_cases h0:x=0
  ·rw[qf h0]
   unfold partsGo;rw[qe (by rw[qq,Nat.zero_and];omega)];unfold partsGo;rw[qe (by rw[qq,qq,z1,t.dis];omega)];rfl
  ·rw[qe h0]
   unfold partsGo;rw[qe (by rw[qq,Nat.zero_and];omega)];unfold partsGo;rw[qe (by rw[qq,qq,z1,t.dis];omega)];unfold partsGo;rw[qe (by rw[qq,qq,qq,z1,hlx];omega)];rfl
 ·have hj10:j<10:=by
   rcases hj with h | h
   ·exact jbc zo h
   ·exact jbc zo h
  have hxj:¬x.testBit j=true:=λe=>by
   have:=(hxb j (hxn j e)).1 e;rcases hj with h | h
   ·rw[h] at this;cases this.2.1
   ·rw[h] at this;cases this.2.2
  rw[v3 hj10 zo hne,hb,hin,hin];constructor
  ·rintro((h | h | h) | h | h)
   ·exact .inl h
   ·exact .inr h
   ·exact qp h.1 hxj
   ·exact qp (hj.imp_right .inl) h
   ·refine qp ?_ h
    cases e1:l.testBit i with
    | true=>exact .inl rfl
    | false =>
     cases e2:r.testBit i with
     | true=>exact .inr (.inl rfl)
     | false=>exact .inr (.inr ((hxb i hi).2 ⟨hsi,e1,e2⟩))
  ·rintro(h | h)
   ·exact .inl (.inl h)
   ·exact .inl (.inr (.inl h))
 ·have hj10:=jbc (by omega:s<1024) hj
  have hin2:i<10:=by
   rcases hi with h | h
   ·exact jbc zo h
   ·exact jbc zo h
  have hne:¬j=i:=λe=>by
   subst e;rcases hi with h | h
   ·have:=(ql j h).2.1;rw[hj] at this;cases this
   ·have:=(qr j h).2.1;rw[hj] at this;cases this
  rw[v3 hj10 hin2 hne];refine .inr (.inl λhh=>?_);rcases(hin j).1 hh with h | h | h
  ·have:=(ql j h).2.1;rw[hj] at this;cases this
  ·have:=(qr j h).2.1;rw[hj] at this;cases this
  ·have:=(hxb j (hxn j h)).1 h
   rw[hj] at this;cases this.1
end Go.Tq
namespace Go.Proofs.YtgmpjpaekpefdaaGreat
open Go Go.Av Go.Tq
variable{c:List Mem}{w:Wld}{s i k n d l:Nat}{now:Int}{y:Ptc}{r:Ptc × Int}{q:List Otc}{f:Ptc->Ptc × Int}{a:Otc}
theorem jco(w:Wld)(hW:WI w):C0 52 [wv w] (.b (checkW w)):=by
 refine xI Tryz.func52 Tryz.call52 λhcap=>?_;have hml:(w.nodes.map ptv).length=w.nodes.length:=by simp
 have htl:(w.trs.map trv).length=w.trs.length:=by simp
 have hwl:=hW.len;have hpw:=jaC hwl;refine xX λb1=>?_;refine xN λ_=>?_;iterate 10 refine zW ?_
 iterate 22 all_goals first | refine zW ?_ | refine xG ?_ ?_<;>intro hg
 all_goals first | (refine zY ?_;(rw[jvr (by omega:(w.nodes.map ptv).length<=62)];refine zP (jaZ (p:=1) rfl rfl rfl zo (by rw[hml];omega)) ?_)) | refine zSk ?_
 iterate 5 all_goals first | refine zW ?_ | refine xG ?_ ?_<;>intro hg
 all_goals first | (refine zY ?_;refine jaa zRc (jbX w.net hW.net) rfl rfl ?_) | refine zSk ?_
 iterate 5 all_goals first | refine zW ?_ | refine xG ?_ ?_<;>intro hg
 all_goals first | (refine zY ?_;(first | refine zLn λ_=>?_ | refine zW ?_)) | refine zSk ?_
 iterate 3 all_goals refine zW ?_
 all_goals (
 refine xC ?_ ?_<;>intro hc
 ·(
 first
 | (exact xQ hc)
 |(
 have h52:badW w=true:=by unfold badW;rw[<-hml,<-htl];first | (simp only[*,Bool.or_true,Bool.true_or,Bool.or_false,Bool.false_or,Bool.and_true,qx,qB,qy,Bool.not_true,Bool.not_false];done) | (simp[*];done) | grind
 refine xP ?_
 rw[juI h52];rfl))
 ·(
 first
 | (exact xQ hc)
 |(
 have h52:badW w=false:=by unfold badW;rw[<-hml,<-htl];first | (simp only[*,Bool.or_true,Bool.true_or,Bool.or_false,Bool.false_or,Bool.and_true,qx,qB,qy,Bool.not_true,Bool.not_false];done) | (simp[*];done) | grind
 refine xN λ_=>?_;iterate 4 refine zW ?_
 have htn:=jtY h52;refine jah [1,54,55] [.box b1 _ _] (λ(k:Nat) r=>(56,.i (k:Int))::r) (λk r=>r) (λk=>k<=w.nodes.length/\wnGo (w.nodes.drop k) (w.trs.drop k) k=wnGo w.nodes w.trs 0) (λk=>w.nodes.length - k) (0) zRc ⟨by omega,rfl⟩ (zWk) ?_;intro k ⟨hk,hI⟩;refine xC ?_ ?_<;>intro hc
 ·(
 have hlt:=qc hc;obtain⟨x,hx,hd⟩:=jab (l:=w.nodes) (k:=k) zo;have hx':=jad ptv hx;obtain⟨q,hq,hdq⟩:=jab (l:=w.trs) (k:=k) zo;have hq':=jad trv hq;have hqs:=(hW.trs q (qk hq)).2;have hqm:=jaQ q;refine xL λb5=>?_;iterate 6 refine zW ?_
 refine zDr [] ?_;refine zT 0 ?_;refine zT 1 ?_;refine zT 2 ?_;refine zT 3 ?_;refine zT 4 ?_;refine jai 4 rfl (λhg=>?_) λhg=>?_
 rotate_left
 case' _ =>(
 refine zT 5 ?_;refine zOn 6 ?_;refine xA (ja6 x (hW.nd k x hx).2) ?_;refine zW ?_;refine zT 7 ?_;refine zT 8 ?_;refine zT 9 ?_;refine jai 9 rfl (λhg=>?_) λhg=>?_
 rotate_left
 case' _ =>(
 refine zT 10 ?_;refine zT 11 ?_;refine zT 12 ?_;refine jam 13 rfl zGd zKr zKr zKr (AP.ar (jap (k:=k) rfl rfl rfl rfl zd rfl hq')) rfl rfl ?_;refine zT 14 ?_;refine zT 15 ?_;refine zT 16 ?_;refine zT 17 ?_;refine zT 18 ?_;refine jai 18 rfl (λhg=>?_) λhg=>?_
 rotate_left
 case' _ =>(
 refine zT 19 ?_;refine zT 20 ?_;refine zT 21 ?_;refine jam 22 rfl zGd zKr zKr zKr (AP.ar (jap (k:=k) rfl rfl rfl rfl zd rfl hq')) rfl rfl ?_;refine zT 23 ?_;refine zT 24 ?_;refine zT 25 ?_;refine zOn 26 ?_;refine xA (jiI q x.t) ?_;refine zW ?_;refine zT 27 ?_;refine zT 28 ?_
 refine zW ?_)
 rotate_right
 case' _ =>(
 refine zK 19 ?_;refine zK 20 ?_;refine zK 21 ?_;refine zK 22 ?_;refine zK 23 ?_;refine zK 24 ?_;refine zK 25 ?_;refine zK 26 ?_;refine zK 27 ?_;refine zT 28 ?_
 refine zW ?_))
 rotate_right
 case' _ =>(
 refine zK 10 ?_;refine zK 11 ?_;refine zK 12 ?_;refine zK 13 ?_;refine zK 14 ?_;refine zK 15 ?_;refine zK 16 ?_;refine zT 17 ?_;refine zT 18 ?_;refine zK 19 ?_;refine zK 20 ?_;refine zK 21 ?_;refine zK 22 ?_;refine zK 23 ?_;refine zK 24 ?_;refine zK 25 ?_;refine zK 26 ?_;refine zK 27 ?_;refine zT 28 ?_
 refine zW ?_))
 rotate_right
 case' _ =>(
 refine zK 5 ?_;refine zK 6 ?_;refine zK 7 ?_;refine zT 8 ?_;refine zT 9 ?_;refine zK 10 ?_;refine zK 11 ?_;refine zK 12 ?_;refine zK 13 ?_;refine zK 14 ?_;refine zK 15 ?_;refine zK 16 ?_;refine zT 17 ?_;refine zT 18 ?_;refine zK 19 ?_;refine zK 20 ?_;refine zK 21 ?_;refine zK 22 ?_;refine zK 23 ?_;refine zK 24 ?_;refine zK 25 ?_;refine zK 26 ?_;refine zK 27 ?_;refine zT 28 ?_
 refine zW ?_)
 all_goals (
 refine xC ?_ ?_<;>intro hc
 ·(
 first
 | (exact xQ hc)
 |(
 have h89:((((decide (x.node=(k:Int))&&checkP x)&&decide (q.length<=4))&&hasTr q x.t)=false):=by first | (simp_all;done) | (simp_all;omega) | grind
 refine xP ?_;rw[hd,hdq,wnGo,h89,qy,qy] at hI
 rw[ji7 h52 hI.symm];rfl))
 ·(
 first
 | (exact xQ hc)
 |(
 have h89:((((decide (x.node=(k:Int))&&checkP x)&&decide (q.length<=4))&&hasTr q x.t)=true):=by first | (simp_all;done) | (simp_all;omega) | grind
 iterate 7 refine zW ?_
 refine zP (jap (k:=k) rfl rfl rfl rfl zd rfl hq') ?_;refine xN λ_=>?_;iterate 4 refine zW ?_
 refine jah [1,4,54,55,56,94,95] [.box b1 _ _] (λ(i:Nat) r=>(96,.i (i:Int))::r) (λi r=>r) (λi=>i<=q.length/\trsGo (q.take i) (q.drop i)=trsGo [] q) (λi=>q.length - i) (0) zRc ⟨by omega,by simp⟩ (zWk) ?_;intro i ⟨hi,hI2⟩;refine xC ?_ ?_<;>intro hc
 ·(
 have hlt2:=qc hc;obtain⟨y,hy,hd2⟩:=jab (l:=q) (k:=i) zo;have hy':=jbo hy;refine xL λb7=>?_;iterate 5 refine zW ?_
 refine zDr [] ?_;refine zT 0 ?_;refine zT 1 ?_;refine zT 2 ?_;refine jam 3 rfl zGd zKr zKr zKr (AP.ar (jap (k:=k) rfl rfl rfl rfl zd rfl hq')) rfl rfl ?_;refine zT 4 ?_;refine zT 5 ?_;refine jam 6 rfl zGd zKr zKr zKr (AP.ar (jd5 rfl rfl rfl rfl rfl (by rw[jaQ];omega))) rfl rfl ?_;refine zT 7 ?_;refine zOn 8 ?_
 (rw[jud];refine jaa zRc (jiI (q.take i) y) rfl rfl ?_)
 refine zW ?_;refine zT 9 ?_;refine jai 9 rfl (λhg=>?_) λhg=>?_
 rotate_left
 case' _ =>(
 refine zT 10 ?_;refine zOn 11 ?_;refine xA (jaI y (by have:=hqs y (qk hy);omega)) ?_;refine zW ?_;refine zT 12 ?_;refine zT 13 ?_
 refine zW ?_)
 rotate_right
 case' _ =>(
 refine zK 10 ?_;refine zK 11 ?_;refine zK 12 ?_;refine zT 13 ?_
 refine zW ?_)
 all_goals (
 refine xC ?_ ?_<;>intro hc
 ·(
 first
 | (exact xQ hc)
 |(
 have h114:(!hasTr (q.take i) y&&decide (validT y=0))=false:=by first | (simp_all;done) | grind
 refine xP ?_;rw[hd2,jyv h114] at hI2;rw[hd,hdq,wnGo,h89,qx,<-hI2,qy] at hI
 rw[ji7 h52 hI.symm];rfl))
 ·(
 first
 | (exact xQ hc)
 |(
 have h114:(!hasTr (q.take i) y&&decide (validT y=0))=true:=by first | (simp_all;done) | grind
 iterate 8 refine zW ?_
 rw[hd2,jxo h114,<-jqz hy] at hI2
 refine⟨i+1,⟨by omega,hI2⟩,by omega,zWk⟩))))
 ·(
 have hge2:=qd hc;rw[jae zo,trsGo] at hI2;iterate 11 refine zW ?_
 rw[hd,hdq,wnGo,h89,qx,<-hI2,qx] at hI
 refine⟨k+1,⟨by omega,hI⟩,by omega,zWk⟩)))))
 ·(
 have hge:=qd hc;rw[jae zo,jae zo] at hI;refine xP ?_;rw[wnGo] at hI
 rw[ji7 h52 hI.symm];rfl))))
theorem jfH(m:Mem):∀(l:List Mem)(i:Nat),newPtcs (l++[m]) i=newPtcs l i++[⟨((i+l.length:Nat):Int),false,m.t,[]⟩]
 | [],i=>rfl
 | x::r,i=>by
  rw[List.cons_append,newPtcs,newPtcs,jfH m r (i+1),qi,List.cons_append,show i+1+r.length=i+(r.length+1) by omega]
theorem jgx:∀(l:List Mem)(i:Nat),(newPtcs l i).length=l.length
 | [],i=>rfl
 | x::r,i=>by rw[newPtcs,qi,jgx r,qi]
theorem jiD{α:Type}{l:List α}{x:α}(h:l[i]?=some x):l.take (i+1)=l.take i++[x]:=by rw[List.take_add_one,h];rfl
theorem jk7{m:Mem}(h:c[k]?=some m):newPtcs (c.take (k+1)) 0=newPtcs (c.take k) 0++[⟨(k:Int),false,m.t,[]⟩]:=by
 have hk:=(List.getElem?_eq_some_iff.1 h).1;rw[jiD h,jfH,List.length_take,Nat.min_eq_left zo,Nat.zero_add]
theorem ju1{x:Nat}(h:(List.range n)[k]?=some x):x=k:=by
 rw[List.getElem?_range (by have:=(List.getElem?_eq_some_iff.1 h).1;simpa using this)] at h;exact(Option.some.inj h).symm
theorem jbF(h:k<n):(List.range n).drop k=k::(List.range n).drop (k+1):=by
 obtain⟨x,hx,hd⟩:=jab (l:=List.range n) (k:=k) (by rw[List.length_range];exact h);rw[hd,ju1 hx]
theorem jgM(h:n<=k):(List.range n).drop k=[]:=jae (by rw[List.length_range];exact h)
theorem jrM{p:Pcl}(h:(decide (p.dst>=w.nodes.length)||sickV w p.dst)=true):inW now w p=w:=qf h
theorem jtq{p:Pcl}(h:(decide (p.dst>=w.nodes.length)||sickV w p.dst)=false)(hd:p.dst=(d:Int))(hy:w.nodes[d]?=some y):inW now w p=if (hearP y p.l now).2=0 then withW w (hearP y p.l now).1 else w:=by
 unfold inW;rw[qe (by rw[h];decide),show p.dst.toNat=d by omega,hy]
theorem jta(h:sickV w i=true):tkW now w i=w:=qf h
theorem jsT(h:sickV w i=false)(hy:w.nodes[i]?=some y):tkW now w i=if (tickP y now).2=0 then withW w (tickP y now).1 else w:=by
 unfold tkW;rw[qe (by rw[h];decide),hy]
theorem jyi{n:Ntw}(h:sickV w i=true):outN now w n i=n:=qf h
theorem jxO{n:Ntw}(h:sickV w i=false)(hy:w.nodes[i]?=some y):outN now w n i=(lettersP y).foldl (outL now w.nodes.length i) n:=by
 unfold outN;rw[qe (by rw[h];decide),hy]
theorem jmY{c:Wld}{x:Pcl}(hW:WI c)(hy:c.nodes[d]?=some y)(hl:LB x.l)(hr:r=hearP y x.l now)(h0:r.2=0):WI (withW c r.1)/\r.1.node=(d:Int):=by
 subst hr;have h1:=hW.nd d y hy;have h2:=jeG h1.2 hl h0;exact⟨jdL hW hy h2.1 h2.2,h2.2.trans h1.1⟩
theorem jmg{c:Wld}(hW:WI c)(hy:c.nodes[d]?=some y)(hr:r=tickP y now)(h0:r.2=0):WI (withW c r.1)/\r.1.node=(d:Int):=by
 subst hr;have h1:=hW.nd d y hy;have h2:=jev h1.2 h0;exact⟨jdL hW hy h2.1 h2.2,h2.2.trans h1.1⟩
theorem je7(c:Wld)(p:Ptc):(withW c p).nodes.length=c.nodes.length:=by unfold withW;simp
theorem jqy(c:List Mem)(hlen:1<=c.length/\c.length<=10)(hs:∀m∈c,sizeT m.t<=100000)(hv:validC c=0)(hdc:∀m∈c,m.decl=true)(ill:Int)(hi:0<=ill/\ill<(2^c.length:Nat)):C0 13 [cv c,.i ill] (.tup [wv ⟨0,newPtcs c 0,ill,zNtw,c.map (λm=>[m.t])⟩,.i 0]):=by
 refine xI Tryz.func13 Tryz.call13 λhcap=>?_;have hml:(c.map mv).length=c.length:=by simp
 have hpw:=jaC hlen.2;refine xX λb2=>?_;refine zAl λb4=>?_;refine xA (jch c (λm hm=>by have:=hs m hm;omega)) ?_;iterate 9 refine zW ?_
 refine jan rfl (by simp[hv]) ?_;refine xN λ_=>?_;refine xN λ_=>?_;iterate 4 refine zW ?_
 refine jah [1,2,4,7,23,24] [.box b2 _ _,.box b4 _ _] (λ(k:Nat) r=>(25,.i (k:Int))::r) (λk r=>r) (λk=>k<=c.length) (λk=>c.length - k) (0) zRc zo (zWk) ?_;intro k hk;refine xC ?_ ?_<;>intro hc
 ·(
 have hlt:=qc hc;obtain⟨x,hx,hd⟩:=jab (l:=c) (k:=k) zo;have hx':=jad mv hx;refine xL λb9=>?_;iterate 10 refine zW ?_
 refine jan rfl (by rw[hdc x (qk hx)];rfl) ?_;iterate 8 refine zW ?_
 refine⟨k+1,by omega,by omega,zWk⟩)
 ·(
 have hge:=qd hc;iterate 11 refine zW ?_
 iterate 7 all_goals refine zW ?_
 all_goals (refine zY ?_;(rw[jvr (by omega:(c.map mv).length<=62),hml];refine zP (jaZ (p:=1) rfl rfl rfl zo zo) ?_))
 iterate 2 all_goals refine zW ?_
 all_goals (
 iterate 2 refine zW ?_
 refine jan rfl jcm ?_;iterate 5 refine zW ?_
 refine zP (AP.up (jaj zKr rfl zRc jay) (d':=.agg [.i 0,.v (.slice none 0 0),.i ill,.sl 28 [],.i 0,.sl 1 [],.sl 1 [],.v (.slice none 0 0)]) xUp) ?_;refine zAl λb10=>?_;refine xN λ_=>?_;iterate 4 refine zW ?_
 refine jax [4,10,51,52] [.box b4 _ _] (λ(k:Nat)(v:Value)(u:Value) r=>(53,.i (k:Int))::r) (λk v u r=>.box b10 40 [.i 0,.v v,.i ill,.sl 28 [],.i 0,.sl 1 [],.sl 1 [],.v u]::.arr v 107 6 ((newPtcs (c.take k) 0).map ptv)::.arr u 46 1 ((c.take k).map (λm=>trv [m.t]))::r) (λk v u=>k<=c.length) (λk v u=>c.length - k) (0) (.slice none 0 0) (.slice none 0 0) zRc zo ((jaF 107 6 rfl).trans ((jaF 46 1 rfl).trans (zWk))) ?_;intro k v u hk;have hqm:(newPtcs (c.take k) 0).length=k:=by rw[jgx,List.length_take];omega
 have hqn:((c.take k).map (λm=>trv [m.t])).length=k:=by simp;omega
 refine xC ?_ ?_<;>intro hc
 ·(
 have hlt:=qc hc;obtain⟨x,hx,hd⟩:=jab (l:=c) (k:=k) zo;have hx':=jad mv hx;refine xL λb12=>?_;iterate 11 refine zW ?_
 refine zP (AP.up (jaj zKr rfl zRc jay) (d':=ptv ⟨(k:Int),false,x.t,[]⟩) xUp) ?_;refine xLt 107 6 96 ?_;refine xEa 107 6 96 (hb:=xLb) λv65 hv65=>?_;iterate 9 refine zW ?_
 refine xLt 48 3 56 ?_;refine xLt 46 1 24 ?_;refine xEa 46 1 24 (hb:=xLb) λv73 hv73=>?_;iterate 10 refine zW ?_
 rw[show D.sl 3 [D.agg [.i x.t.th,.sl 1 (x.t.nodes.map .i),.sl 3 (avs x.t.inner)]]=trv [x.t] by unfold trv;rw[<-jyb];rfl,show List.map ptv (newPtcs (c.take k) 0)++[ptv ⟨(k:Int),false,x.t,[]⟩]=List.map ptv (newPtcs (c.take (k+1)) 0) by rw[jk7 hx,List.map_append];rfl,show (c.take k).map (λm=>trv [m.t])++[trv [x.t]]=(c.take (k+1)).map (λm=>trv [m.t]) by rw[jiD hx,List.map_append];rfl]
 refine⟨k+1,_,_,by omega,by omega,zWk⟩)
 ·(
 have hge:=qd hc;rw[qC (show c.length<=k by omega),show c.map (λm=>trv [m.t])=(c.map λm=>[m.t]).map trv by rw[List.map_map];rfl];iterate 6 refine zW ?_
 refine zFz v [4,10] ?_;refine zFz u [4,10] ?_;refine xP ?_
 rfl)))
theorem jmN(w:Wld)(hW:WI w):C0 54 [wv w] (.tup [wv (tickW w).1,.i (tickW w).2]):=by
 refine xI Tryz.func54 Tryz.call54 λhcap=>?_;have hml:(w.nodes.map ptv).length=w.nodes.length:=by simp
 have hwl:=hW.len;have hwt:=hW.time;refine xX λb1=>?_;refine zAl λb2=>?_;refine xC ?_ ?_<;>intro hc
 ·(
 have h22:w.time>=200:=qc hc;iterate 2 refine zW ?_
 refine zP (AP.up (jaj zKr rfl zRc jay) (d':=wv zWld) xUp) ?_;refine xP ?_
 unfold tickW;rw[qf h22];rfl)
 ·(
 have h22:¬w.time>=200:=qd hc;refine xB (ju2 w.net hW.net (w.time+1)) ?_;rintro _ _ ⟨rfl,rfl⟩;have hPl:=(jg3 (now:=w.time+1) hW.net).2;have hPn:=ji2 (n:=w.net) (now:=w.time+1);obtain⟨P,hP⟩:∃z9,z9=(dueV w.net (w.time+1)).1:=⟨_,rfl⟩;obtain⟨N0,hN0⟩:∃z9,z9=(dueV w.net (w.time+1)).2:=⟨_,rfl⟩;rw[<-hP] at hPl hPn ⊢;rw[<-hN0];refine xL λb5=>?_;refine xN λ_=>?_;iterate 4 refine zW ?_
 have hA:tickA w={ w with time:=w.time+1,net:=N0 }:=by unfold tickA;rw[<-hN0]
 have hPm:(P.map pcv).length=P.length:=by simp
 refine jag [1,2,38,39] [.box b2 _ _] (λ(i:Nat)(c:Wld) r=>(40,.i (i:Int))::r) (λi c r=>.box b1 40 [.i c.time,.sl 6 (c.nodes.map ptv),.i c.ill,.sl 28 (c.net.pcs.map pcv),.i c.net.next,.sl 1 (c.net.parts.map .i),.sl 1 (c.net.dls.map .i),.sl 1 (c.trs.map trv)]::r) (λi c=>i<=P.length/\WI c/\(c.time=w.time+1/\c.nodes.length=w.nodes.length)/\(P.drop i).foldl (inW (w.time+1)) c=tickB w) (λi c=>P.length - i) (0) ({ w with time:=w.time+1,net:=N0 }) zRc ⟨by omega,hA ▸ jgj hW zo,⟨rfl,rfl⟩,by rw[List.drop_zero,<-hA,hP];rfl⟩ (zWk) ?_;intro i c ⟨hi,hWc,⟨hct,hcl⟩,hI⟩;have hcm:(c.nodes.map ptv).length=c.nodes.length:=by simp
 refine xC ?_ ?_<;>intro hc
 ·(
 have hlt:=qc hc;obtain⟨x,hx,hd⟩:=jab (l:=P) (k:=i) zo;have hx':=jad pcv hx;have hxn:=hPn x (qk hx);have hxl:=hPl x (qk hx);refine xL λb7=>?_;refine xN λ_=>?_;iterate 2 refine zW ?_
 iterate 3 all_goals first | refine zW ?_ | refine xG ?_ ?_<;>intro hg
 all_goals first | (refine zY ?_;refine jaa zRc (jcB c x.dst hxn.1 hWc.ill) rfl rfl ?_) | refine zSk ?_
 all_goals refine zW ?_
 all_goals (
 refine xC ?_ ?_<;>intro hc
 ·(
 first
 | (exact xQ hc)
 |(
 have h55:(decide (x.dst>=c.nodes.length)||sickV c x.dst)=true:=by rw[<-hcm];first | (simp_all;done) | grind
 have mk55t:True:=trivial;iterate 9 refine zW ?_
 rw[hd,List.foldl_cons] at hI
 rw[jrM h55] at hI;refine⟨i+1,c,⟨by omega,hWc,⟨hct,hcl⟩,hI⟩,by omega,zWk⟩))
 ·(
 first
 | (exact xQ hc)
 |(
 have h55:(decide (x.dst>=c.nodes.length)||sickV c x.dst)=false:=by rw[<-hcm];first | (simp_all;done) | grind
 have hdl:x.dst<c.nodes.length:=by simp only[Bool.or_eq_false_iff,decide_eq_false_iff_not] at h55;omega
 obtain⟨d,hdd,hd9⟩:=jhN hxn.1;obtain⟨y,hy⟩:∃y,c.nodes[d]?=some y:=⟨_,ze zo⟩
 iterate 3 refine zW ?_
 refine zDr [] ?_;refine zT 0 ?_;refine zT 1 ?_;refine zT 2 ?_;refine zT 3 ?_;refine jam 4 rfl zGd zKr zKr zKr (AP.ar (jap (k:=d) rfl rfl rfl rfl zd hdd (jad ptv hy))) rfl rfl ?_;refine zT 5 ?_;refine zT 6 ?_;refine zT 7 ?_;refine zT 8 ?_;refine zT 9 ?_;refine zE2 10 14 ?_ ?_
 rotate_left
 case' _ =>(
 refine zAl λb8=>?_;refine zW ?_;refine zOn 10 ?_;refine xB (jkF y (hWc.nd d y hy).2 x.l hxl c.time) ?_;rintro _ _ ⟨rfl,rfl⟩;obtain⟨r,hr⟩:∃z9,z9=hearP y x.l c.time:=⟨_,rfl⟩;rw[<-hr];refine zW ?_;refine zT 11 ?_;refine zT 12 ?_;refine zT 13 ?_;refine zOn 15 ?_;iterate 2 refine zW ?_
 refine zT 16 ?_
 refine zW ?_)
 rotate_right
 case' _ =>(
 refine xB (jkF y (hWc.nd d y hy).2 x.l hxl c.time) ?_;rintro _ _ ⟨rfl,rfl⟩;obtain⟨r,hr⟩:∃z9,z9=hearP y x.l c.time:=⟨_,rfl⟩;rw[<-hr];refine zW ?_;refine zT 11 ?_;refine zT 12 ?_;refine zT 13 ?_;refine zOn 14 ?_;refine zAl λb8=>?_;refine zW ?_;refine zOn 15 ?_;iterate 2 refine zW ?_
 refine zT 16 ?_
 refine zW ?_)
 all_goals (
 refine xC ?_ ?_<;>intro hc
 ·(
 have h71:r.2=0:=qc hc;have mk71t:True:=trivial;refine xA (jci c r.1 d (jmY hWc hy hxl hr h71).2 zo zo) ?_;iterate 9 refine zW ?_
 rw[hd,List.foldl_cons] at hI
 first
 | (have:=mk71t;rw[jtq h55 hdd hy,<-hct,<-hr,qf h71] at hI;refine⟨i+1,withW c r.1,⟨by omega,(jmY hWc hy hxl hr h71).1,⟨hct,(je7 c r.1).trans hcl⟩,by rw[<-hct];exact hI⟩,by omega,zWk⟩))
 ·(
 have h71:¬r.2=0:=qd hc;have mk71f:True:=trivial;iterate 8 refine zW ?_
 rw[hd,List.foldl_cons] at hI
 first
 | (have:=mk71f;rw[jtq h55 hdd hy,<-hct,<-hr,qe h71] at hI;refine⟨i+1,c,⟨by omega,hWc,⟨hct,hcl⟩,by rw[<-hct];exact hI⟩,by omega,zWk⟩)))))))
 ·(
 have hge:=qd hc;rw[jae zo] at hI;refine xN λ_=>?_;iterate 4 refine zW ?_
 have hcB:c=tickB w:=hI;have hcm2:(c.nodes.map ptv).length=w.nodes.length:=by rw[qw];exact hcl
 refine jag [1,2,78] [.box b2 _ _] (λ(i:Nat)(c2:Wld) r=>(79,.i (i:Int))::r) (λi c2 r=>.box b1 40 [.i c2.time,.sl 6 (c2.nodes.map ptv),.i c2.ill,.sl 28 (c2.net.pcs.map pcv),.i c2.net.next,.sl 1 (c2.net.parts.map .i),.sl 1 (c2.net.dls.map .i),.sl 1 (c2.trs.map trv)]::r) (λi c2=>i<=w.nodes.length/\WI c2/\(c2.time=w.time+1/\c2.nodes.length=w.nodes.length)/\((List.range w.nodes.length).drop i).foldl (tkW (w.time+1)) c2=tickC w) (λi c2=>w.nodes.length - i) (0) (c) zRc ⟨by omega,hWc,⟨hct,hcl⟩,by rw[List.drop_zero];unfold tickC;rw[<-hcB,hcl]⟩ (zWk) ?_;intro i c2 ⟨hi,hWc,⟨hct,hcl⟩,hI⟩;have hcm:(c2.nodes.map ptv).length=c2.nodes.length:=by simp
 refine xC ?_ ?_<;>intro hc
 ·(
 have hlt:=qc hc;have hlt':i<w.nodes.length:=by omega
 obtain⟨y,hy⟩:∃y,c2.nodes[i]?=some y:=⟨_,ze zo⟩
 refine xA (jcB c2 (i:Int) zo hWc.ill) ?_;refine xC ?_ ?_<;>intro hc
 ·(
 have h84:sickV c2 i=true:=hc;have mk84t:True:=trivial;iterate 9 refine zW ?_
 rw[jbF hlt',List.foldl_cons] at hI
 rw[jta h84] at hI;refine⟨i+1,c2,⟨by omega,hWc,⟨hct,hcl⟩,hI⟩,by omega,zWk⟩)
 ·(
 have h84:sickV c2 i=false:=hc;iterate 3 refine zW ?_
 refine zDr [] ?_;refine zT 0 ?_;refine zT 1 ?_;refine zT 2 ?_;refine jam 3 rfl zGd zKr zKr zKr (AP.ar (jap (k:=i) rfl rfl rfl rfl zd rfl (jad ptv hy))) rfl rfl ?_;refine zT 4 ?_;refine zT 5 ?_;refine zT 6 ?_;refine zE2 7 11 ?_ ?_
 rotate_left
 case' _ =>(
 refine zAl λb11=>?_;refine zW ?_;refine zOn 7 ?_;refine xB (jhn y (hWc.nd i y hy).2 c2.time) ?_;rintro _ _ ⟨rfl,rfl⟩;obtain⟨r,hr⟩:∃z9,z9=tickP y c2.time:=⟨_,rfl⟩;rw[<-hr];refine zW ?_;refine zT 8 ?_;refine zT 9 ?_;refine zT 10 ?_;refine zOn 12 ?_;iterate 2 refine zW ?_
 refine zT 13 ?_
 refine zW ?_)
 rotate_right
 case' _ =>(
 refine xB (jhn y (hWc.nd i y hy).2 c2.time) ?_;rintro _ _ ⟨rfl,rfl⟩;obtain⟨r,hr⟩:∃z9,z9=tickP y c2.time:=⟨_,rfl⟩;rw[<-hr];refine zW ?_;refine zT 8 ?_;refine zT 9 ?_;refine zT 10 ?_;refine zOn 11 ?_;refine zAl λb11=>?_;refine zW ?_;refine zOn 12 ?_;iterate 2 refine zW ?_
 refine zT 13 ?_
 refine zW ?_)
 all_goals (
 refine xC ?_ ?_<;>intro hc
 ·(
 have h97:r.2=0:=qc hc;have mk97t:True:=trivial;refine xA (jci c2 r.1 i (jmg hWc hy hr h97).2 zo zo) ?_;iterate 9 refine zW ?_
 rw[jbF hlt',List.foldl_cons] at hI
 first
 | (have:=mk97t;rw[jsT h84 hy,<-hct,<-hr,qf h97] at hI;refine⟨i+1,withW c2 r.1,⟨by omega,(jmg hWc hy hr h97).1,⟨hct,(je7 c2 r.1).trans hcl⟩,by rw[<-hct];exact hI⟩,by omega,zWk⟩))
 ·(
 have h97:¬r.2=0:=qd hc;have mk97f:True:=trivial;iterate 8 refine zW ?_
 rw[jbF hlt',List.foldl_cons] at hI
 first
 | (have:=mk97f;rw[jsT h84 hy,<-hct,<-hr,qe h97] at hI;refine⟨i+1,c2,⟨by omega,hWc,⟨hct,hcl⟩,by rw[<-hct];exact hI⟩,by omega,zWk⟩)))))
 ·(
 have hge:=qd hc;rw[jgM zo] at hI;refine xN λ_=>?_;iterate 4 refine zW ?_
 have hcC:c2=tickC w:=hI;have hWc2:=hWc;have hcm3:(c2.nodes.map ptv).length=w.nodes.length:=by rw[qw];exact hcl
 refine jag [1,2,103,104] [.box b2 _ _] (λ(i:Nat)(m:Ntw) r=>(105,.i (i:Int))::r) (λi m r=>.box b1 40 [.i c2.time,.sl 6 (c2.nodes.map ptv),.i c2.ill,.sl 28 (m.pcs.map pcv),.i m.next,.sl 1 (m.parts.map .i),.sl 1 (m.dls.map .i),.sl 1 (c2.trs.map trv)]::r) (λi m=>i<=w.nodes.length/\NtI m/\((List.range w.nodes.length).drop i).foldl (outN (w.time+1) c2) m=(List.range w.nodes.length).foldl (outN (w.time+1) c2) c2.net) (λi m=>w.nodes.length - i) (0) (c2.net) zRc ⟨by omega,hWc2.net,rfl⟩ (zWk) ?_;intro i m ⟨hi,hNm,hI3⟩;refine xC ?_ ?_<;>intro hc
 ·(
 have hlt:=qc hc;have hlt':i<w.nodes.length:=by omega
 obtain⟨y,hy⟩:∃y,c2.nodes[i]?=some y:=⟨_,ze zo⟩
 have hy':=jad ptv hy;refine xL λb14=>?_;refine xA (jcB { c2 with net:=m } (i:Int) zo hWc2.ill) ?_;refine xC ?_ ?_<;>intro hc
 ·(
 have h112:sickV c2 i=true:=hc;iterate 9 refine zW ?_
 rw[jbF hlt',List.foldl_cons] at hI3
 rw[jyi h112] at hI3;refine⟨i+1,m,⟨by omega,hNm,hI3⟩,by omega,zWk⟩)
 ·(
 have h112:sickV c2 i=false:=hc;refine xA (jhM y (hWc2.nd i y hy).2) ?_;refine zLn λ_=>?_;iterate 4 refine zW ?_
 obtain⟨Ls,hLs⟩:∃z9,z9=lettersP y:=⟨_,rfl⟩
 rw[<-hLs];have hLb:∀l∈Ls,LB l:=hLs ▸ jgs (hWc2.nd i y hy).2;have hLm:(Ls.map ltv).length=Ls.length:=by simp
 have hLc:Ls.length<=capB:=by rename_i hcp;rw[<-hLs,hLm] at hcp;exact hcp
 refine jag [1,2,13,103,104,105,114,115] [.box b2 _ _] (λ(j:Nat)(m2:Ntw) r=>(116,.i (j:Int))::r) (λj m2 r=>.box b1 40 [.i c2.time,.sl 6 (c2.nodes.map ptv),.i c2.ill,.sl 28 (m2.pcs.map pcv),.i m2.next,.sl 1 (m2.parts.map .i),.sl 1 (m2.dls.map .i),.sl 1 (c2.trs.map trv)]::r) (λj m2=>j<=Ls.length/\NtI m2/\(Ls.drop j).foldl (outL (w.time+1) w.nodes.length i) m2=Ls.foldl (outL (w.time+1) w.nodes.length i) m) (λj m2=>Ls.length - j) (0) (m) zRc ⟨by omega,hNm,rfl⟩ (zWk) ?_;intro j m2 ⟨hj,hN2,hI4⟩;refine xC ?_ ?_<;>intro hc
 ·(
 have hlt4:=qc hc;obtain⟨l,hl,hd4⟩:=jab (l:=Ls) (k:=j) zo;have hl':=jad ltv hl;refine xL λb16=>?_;refine xN λ_=>?_;iterate 4 refine zW ?_
 refine jag [1,2,13,16,103,104,105,114,115,116,122] [.box b2 _ _,.box b16 _ _] (λ(k:Nat)(m3:Ntw) r=>(123,.i (k:Int))::r) (λk m3 r=>.box b1 40 [.i c2.time,.sl 6 (c2.nodes.map ptv),.i c2.ill,.sl 28 (m3.pcs.map pcv),.i m3.next,.sl 1 (m3.parts.map .i),.sl 1 (m3.dls.map .i),.sl 1 (c2.trs.map trv)]::r) (λk m3=>k<=w.nodes.length/\NtI m3/\((List.range w.nodes.length).drop k).foldl (sndN (w.time+1) i l) m3=(List.range w.nodes.length).foldl (sndN (w.time+1) i l) m2) (λk m3=>w.nodes.length - k) (0) (m2) zRc ⟨by omega,hN2,rfl⟩ (zWk) ?_;intro k m3 ⟨hk,hN3,hI5⟩;refine xC ?_ ?_<;>intro hc
 ·(
 have hltk:=qc hc;have hlt5:k<w.nodes.length:=by omega
 refine xC ?_ ?_<;>intro hc
 ·(
 have h128:k=i:=by have:=qc hc;omega
 iterate 9 refine zW ?_
 rw[jbF hlt5,List.foldl_cons] at hI5
 rw[show sndN (w.time+1) i l m3 k=m3 from qf h128] at hI5;refine⟨k+1,m3,⟨by omega,hN3,hI5⟩,by omega,zWk⟩)
 ·(
 have h128:¬k=i:=by have:=qd hc;omega
 refine xB (jlw m3 hN3 (i:Int) (k:Int) l c2.time) ?_;rintro _ _ ⟨rfl,rfl⟩;obtain⟨r,hr⟩:∃z9,z9=sendV m3 (i:Int) (k:Int) l c2.time:=⟨_,rfl⟩;rw[<-hr];refine xL λb18=>?_;refine xC ?_ ?_<;>intro hc
 ·(
 have h141:r.2=0:=qc hc;iterate 12 refine zW ?_
 rw[jbF hlt5,List.foldl_cons] at hI5
 rw[show sndN (w.time+1) i l m3 k=r.1 by unfold sndN;rw[qe h128,<-hct,<-hr,qf h141]] at hI5;refine⟨k+1,r.1,⟨by omega,hr ▸ jgo hN3 (hLb l (qk hl)) (hr ▸ h141),hI5⟩,by omega,zWk⟩)
 ·(
 have h141:¬r.2=0:=qd hc;iterate 8 refine zW ?_
 rw[jbF hlt5,List.foldl_cons] at hI5
 rw[show sndN (w.time+1) i l m3 k=m3 by unfold sndN;rw[qe h128,<-hct,<-hr,qe h141]] at hI5;refine⟨k+1,m3,⟨by omega,hN3,hI5⟩,by omega,zWk⟩)))
 ·(
 have hge5:=qd hc;rw[jgM zo,List.foldl_nil] at hI5;iterate 11 refine zW ?_
 rw[hd4,List.foldl_cons,show outL (w.time+1) w.nodes.length i m2 l=m3 from hI5.symm] at hI4
 refine⟨j+1,m3,⟨by omega,hN3,hI4⟩,by omega,zWk⟩))
 ·(
 have hge4:=qd hc;rw[jae zo,List.foldl_nil] at hI4;iterate 11 refine zW ?_
 rw[jbF hlt',List.foldl_cons] at hI3
 rw[jxO h112 hy,hcl,<-hLs,<-hI4] at hI3;refine⟨i+1,m2,⟨by omega,hN2,hI3⟩,by omega,zWk⟩)))
 ·(
 have hge:=qd hc;rw[jgM zo] at hI3;refine xP ?_
 unfold tickW;rw[qe h22];unfold tickD;rw[<-hcC,hcl,<-hI3];rfl))))
def spv(s:Sp):D:=.agg [.i s.kind,.i s.node,.i s.to,.i s.slot,.i s.count,.v (.string s.val),.i s.t.th,.sl 1 (s.t.nodes.map .i),.sl 3 (avs s.t.inner),.i s.l.kind,.i s.l.slot,.i s.l.nom.node,.i s.l.nom.seq,.i s.l.nom.t.th,.sl 1 (s.l.nom.t.nodes.map .i),.sl 3 (avs s.l.nom.t.inner),.sl 1 (s.l.nom.votes.map strv),.sl 1 (s.l.nom.accs.map strv),.i s.l.env.node,.i s.l.env.slot,.i s.l.env.seq,.i s.l.env.t.th,.sl 1 (s.l.env.t.nodes.map .i),.sl 3 (avs s.l.env.t.inner),.i s.l.env.kind,.i s.l.env.bal.n,.v (.string s.l.env.bal.v),.i s.l.env.prep.n,.v (.string s.l.env.prep.v),.i s.l.env.prime.n,.v (.string s.l.env.prime.v),.i s.l.env.low,.i s.l.env.high,.sl 1 (s.parts.map .i)]
theorem jth{k:Int}(hW:WI w)(h:thereW w k=true):(0<=k/\k<=9)/\k<w.nodes.length:=by
 have hl:=hW.len;simp only[thereW,qh,qo] at h;omega
theorem jcY(hW:WI w)(hy:w.nodes[d]?=some y)(hf:∀p,PI p->(f p).2=0->PI (f p).1/\(f p).1.node=p.node)(hr:r=f y)(h0:r.2=0):r.1.node=(d:Int):=by
 subst hr;have h1:=hW.nd d y hy;exact(hf y h1.2 h0).2.trans h1.1
theorem jeR{s:Sp}(hs:sickV w s.node=false)(hd:s.node=(d:Int))(hy:w.nodes[d]?=some y)(hr:r=f y):nodeW w s f=if ¬r.2=0 then (zWld,r.2) else (withW w r.1,0):=by
 unfold nodeW;rw[qe (by rw[hs];decide),show s.node.toNat=d by omega,hy,hr]
theorem jjq{s:Sp}(hs:sickV w s.node=true):nodeW w s f=(zWld,63):=qf hs
theorem jsr(w:Wld)(hW:WI w)(s:Sp)(hs:SB s)(hn:0<=s.node/\s.node<=9):C0 57 [wv w,spv s] (.tup [wv (showW w s).1,.i (showW w s).2]):=by
 refine xI Tryz.func57 Tryz.call57 λhcap=>?_;refine xX λb2=>?_;refine zBx λb3=>?_;refine zAl λb4=>?_;refine xL λb6=>?_;refine xA (jcB w s.node hn hW.ill) ?_;iterate 2 refine zW ?_
 iterate 3 all_goals first | refine zW ?_ | refine xG ?_ ?_<;>intro hg
 all_goals first | (refine zY ?_;refine jaa zRc (jiW w s.to) rfl rfl ?_) | refine zSk ?_
 iterate 10 all_goals first | refine zW ?_ | refine xG ?_ ?_<;>intro hg
 all_goals (
 refine xC ?_ ?_<;>intro hc
 ·(
 first
 | (exact xQ hc)
 |(
 have h11:(sickV w s.node=false\/thereW w s.to=false)\/s.to=s.node:=by first | (simp_all;done) | grind
 iterate 2 refine zW ?_
 refine zP (AP.up (jaj zKr rfl zRc jay) (d':=wv zWld) xUp) ?_;refine xP ?_
 unfold showW;rw[qf h11];rfl))
 ·(
 first
 | (exact xQ hc)
 |(
 have h11:¬((sickV w s.node=false\/thereW w s.to=false)\/s.to=s.node):=by first | (simp_all;done) | grind
 iterate 6 refine zW ?_
 iterate 21 all_goals first | refine zW ?_ | refine xG ?_ ?_<;>intro hg
 all_goals (
 refine xC ?_ ?_<;>intro hc
 ·(
 first
 | (exact xQ hc)
 |(
 have hq32:(s.l.kind=1/\¬s.l.nom.node=s.node)\/(s.l.kind=2/\¬s.l.env.node=s.node):=by first | (simp_all;done) | grind
 iterate 2 refine zW ?_
 refine zP (AP.up (jaj zKr rfl zRc jay) (d':=wv zWld) xUp) ?_;refine xP ?_
 unfold showW;rw[qe h11,qf hq32];rfl))
 ·(
 first
 | (exact xQ hc)
 |(
 have hq32:¬((s.l.kind=1/\¬s.l.nom.node=s.node)\/(s.l.kind=2/\¬s.l.env.node=s.node)):=by first | (simp_all;done) | grind
 iterate 6 refine zW ?_
 iterate 5 all_goals first | refine zW ?_ | refine xG ?_ ?_<;>intro hg
 all_goals (
 refine xC ?_ ?_<;>intro hc
 ·(
 first
 | (exact xQ hc)
 |(
 have h58:¬s.l.kind=1/\¬s.l.kind=2:=by first | (simp_all;done) | grind
 iterate 2 refine zW ?_
 refine zP (AP.up (jaj zKr rfl zRc jay) (d':=wv zWld) xUp) ?_;refine xP ?_
 unfold showW;rw[qe h11,qe hq32,qf h58];rfl))
 ·(
 first
 | (exact xQ hc)
 |(
 have h58:¬(¬s.l.kind=1/\¬s.l.kind=2):=by first | (simp_all;done) | grind
 refine xB (jlw w.net hW.net s.node s.to s.l w.time) ?_;rintro _ _ ⟨rfl,rfl⟩;obtain⟨r,hr⟩:∃z9,z9=sendV w.net s.node s.to s.l w.time:=⟨_,rfl⟩;rw[<-hr];refine xL λb7=>?_;refine xC ?_ ?_<;>intro hc
 ·(
 have h82:¬r.2=0:=jaf hc;iterate 2 refine zW ?_
 refine zP (AP.up (jaj zKr rfl zRc jay) (d':=wv zWld) xUp) ?_;refine xP ?_
 unfold showW;rw[qe h11,qe hq32,qe h58,<-hr,qf h82];rfl)
 ·(
 have h82:r.2=0:=jac hc;refine xP ?_
 unfold showW;rw[qe h11,qe hq32,qe h58,<-hr,qe (λh=>h h82)];rfl))))))))))
theorem joE{cnt:Nat}{c:Wld}(h:k<cnt):ticksW (cnt - k) c=if ¬(tickW c).2=0 then (zWld,(tickW c).2) else ticksW (cnt - (k+1)) (tickW c).1:=by
 rw[show cnt - k=(cnt - (k+1))+1 by omega,ticksW]
theorem jwx(w:Wld)(hW:WI w)(s:Sp)(hs:SB s)(hk3:¬s.kind=3):C0 15 [wv w,spv s] (.tup [wv (doW w s).1,.i (doW w s).2]):=by
 refine xI Tryz.func15 Tryz.call15 λhcap=>?_;have hml:(w.nodes.map ptv).length=w.nodes.length:=by simp
 have hwl:=hW.len;refine xX λb2=>?_;refine zBx λb3=>?_;refine zAl λb4=>?_;refine xA (jco w hW) ?_;refine xC ?_ ?_<;>intro hc
 ·(
 have h18:checkW w=false:=jaw hc;iterate 2 refine zW ?_
 refine zP (AP.up (jaj zKr rfl zRc jay) (d':=wv zWld) xUp) ?_;refine xP ?_
 unfold doW;rw[qf h18];rfl)
 ·(
 have h18:checkW w=true:=jav hc;iterate 9 refine zW ?_
 iterate 4 all_goals first | refine zW ?_ | refine xG ?_ ?_<;>intro hg
 all_goals (
 refine xC ?_ ?_<;>intro hc
 ·(
 first
 | (exact xQ hc)
 |(
 have h27:s.kind<1\/s.kind>8:=by first | exact .inl (qc hg) | exact .inr (qc hc)
 iterate 2 refine zW ?_
 refine zP (AP.up (jaj zKr rfl zRc jay) (d':=wv zWld) xUp) ?_;refine xP ?_
 unfold doW;rw[qe (by rw[h18];decide),qf h27];rfl))
 ·(
 first
 | (exact xQ hc)
 |(
 have h27:¬(s.kind<1\/s.kind>8):=by rintro(h | h);exact qd hg h;exact qd hc h
 iterate 9 refine zW ?_
 iterate 8 all_goals first | refine zW ?_ | refine xG ?_ ?_<;>intro hg
 all_goals first | (refine zY ?_;refine jaa zRc (jiW w s.node) rfl rfl ?_) | refine zSk ?_
 iterate 2 all_goals refine zW ?_
 all_goals (
 refine xC ?_ ?_<;>intro hc
 ·(
 first
 | (exact xQ hc)
 |(
 have h43:(¬s.kind=2/\¬s.kind=6)/\thereW w s.node=false:=by first | (simp_all;done) | grind
 iterate 2 refine zW ?_
 refine zP (AP.up (jaj zKr rfl zRc jay) (d':=wv zWld) xUp) ?_;refine xP ?_
 unfold doW;rw[qe (by rw[h18];decide),qe h27,qf h43];rfl))
 ·(
 first
 | (exact xQ hc)
 |(
 have h43:¬((¬s.kind=2/\¬s.kind=6)/\thereW w s.node=false):=by first | (simp_all;done) | grind
 refine xC ?_ ?_<;>intro hc
 ·(
 have h47:s.kind=2:=qc hc;iterate 7 refine zW ?_
 iterate 4 all_goals first | refine zW ?_ | refine xG ?_ ?_<;>intro hg
 all_goals (
 refine xC ?_ ?_<;>intro hc
 ·(
 first
 | (exact xQ hc)
 |(
 have h56:s.count<1\/s.count>200:=by first | exact .inl (qc hg) | exact .inr (qc hc)
 iterate 2 refine zW ?_
 refine zP (AP.up (jaj zKr rfl zRc jay) (d':=wv zWld) xUp) ?_;refine xP ?_
 unfold doW;rw[qe (by rw[h18];decide),qe h27,qe h43,qf h47,qf h56];rfl))
 ·(
 first
 | (exact xQ hc)
 |(
 have h56:¬(s.count<1\/s.count>200):=by rintro(h | h);exact qd hg h;exact qd hc h
 iterate 9 refine zW ?_
 obtain⟨cnt,hcnt⟩:∃n:Nat,s.count=(n:Int):=⟨s.count.toNat,by omega⟩
 refine jag [2,3,4] [.box b3 _ _,.box b4 _ _] (λ(k:Nat)(c:Wld) r=>(6,.i (k:Int))::r) (λk c r=>.box b2 40 [.i c.time,.sl 6 (c.nodes.map ptv),.i c.ill,.sl 28 (c.net.pcs.map pcv),.i c.net.next,.sl 1 (c.net.parts.map .i),.sl 1 (c.net.dls.map .i),.sl 1 (c.trs.map trv)]::r) (λk c=>k<=cnt/\WI c/\ticksW (cnt - k) c=ticksW cnt w) (λk c=>cnt - k) (0) (w) zRc ⟨by omega,hW,by rw[Nat.sub_zero]⟩ (zWk) ?_;intro k c ⟨hk,hWc,hI⟩;refine xC ?_ ?_<;>intro hc
 ·(
 have hlt:k<cnt:=by have:=qc hc;omega
 refine xB (jmN c hWc) ?_;rintro _ _ ⟨rfl,rfl⟩;obtain⟨r,hr⟩:∃z9,z9=tickW c:=⟨_,rfl⟩;rw[<-hr];refine xL λb7=>?_;refine xC ?_ ?_<;>intro hc
 ·(
 have h70:¬r.2=0:=jaf hc;rw[joE hlt,<-hr,qf h70] at hI;iterate 2 refine zW ?_
 refine zP (AP.up (jaj zKr rfl zRc jay) (d':=wv zWld) xUp) ?_;refine xP ?_
 unfold doW;rw[qe (by rw[h18];decide),qe h27,qe h43,qf h47,qe h56,show s.count.toNat=cnt by omega,<-hI];rfl)
 ·(
 have h70:r.2=0:=jac hc;iterate 14 refine zW ?_
 rw[joE hlt,<-hr,qe (λh=>h h70)] at hI
 refine⟨k+1,r.1,⟨by omega,hr ▸ jnn hWc (hr ▸ h70),hI⟩,by omega,zWk⟩))
 ·(
 have hke:k=cnt:=by have:=qd hc;omega
 rw[hke,Nat.sub_self,ticksW] at hI;refine xP ?_
 unfold doW;rw[qe (by rw[h18];decide),qe h27,qe h43,qf h47,qe h56,show s.count.toNat=cnt by omega,<-hI];rfl)))))
 ·(
 have h47:¬s.kind=2:=qd hc;refine xC ?_ ?_<;>intro hc
 ·(
 have h75:s.kind=6:=qc hc;refine xB (jm2 w.net hW.net s.parts) ?_;rintro _ _ ⟨rfl,rfl⟩;obtain⟨r,hr⟩:∃z9,z9=partN w.net s.parts:=⟨_,rfl⟩;rw[<-hr];refine xL λb9=>?_;refine xC ?_ ?_<;>intro hc
 ·(
 have h86:¬r.2=0:=jaf hc;iterate 2 refine zW ?_
 refine zP (AP.up (jaj zKr rfl zRc jay) (d':=wv zWld) xUp) ?_;refine xP ?_
 unfold doW;rw[qe (by rw[h18];decide),qe h27,qe h43,qe h47,qf h75,<-hr,qf h86];rfl)
 ·(
 have h86:r.2=0:=jac hc;refine xP ?_
 unfold doW;rw[qe (by rw[h18];decide),qe h27,qe h43,qe h47,qf h75,<-hr,qe (λh=>h h86)];rfl))
 ·(
 have h75:¬s.kind=6:=qd hc;have hnr:=jth hW (show thereW w s.node=true by cases hh:thereW w s.node;exact qp ⟨⟨h47,h75⟩,hh⟩ h43;rfl);refine xC ?_ ?_<;>intro hc
 ·(
 have h92:s.kind=7:=qc hc;refine xB (jly w.net hW.net s.node s.to s.count) ?_;rintro _ _ ⟨rfl,rfl⟩;obtain⟨r,hr⟩:∃z9,z9=delayN w.net s.node s.to s.count:=⟨_,rfl⟩;rw[<-hr];refine xL λb11=>?_;refine xC ?_ ?_<;>intro hc
 ·(
 have h107:¬r.2=0:=jaf hc;iterate 2 refine zW ?_
 refine zP (AP.up (jaj zKr rfl zRc jay) (d':=wv zWld) xUp) ?_;refine xP ?_
 unfold doW;rw[qe (by rw[h18];decide),qe h27,qe h43,qe h47,qe h75,qf h92,<-hr,qf h107];rfl)
 ·(
 have h107:r.2=0:=jac hc;refine xP ?_
 unfold doW;rw[qe (by rw[h18];decide),qe h27,qe h43,qe h47,qe h75,qf h92,<-hr,qe (λh=>h h107)];rfl))
 ·(
 have h92:¬s.kind=7:=qd hc;refine xC ?_ ?_<;>intro hc
 ·(
 have h113:s.kind=5:=qc hc;refine xA (jsr w hW s hs hnr.1) ?_;refine xP ?_
 unfold doW;rw[qe (by rw[h18];decide),qe h27,qe h43,qe h47,qe h75,qe h92,qf h113];rfl)
 ·(
 have h113:¬s.kind=5:=qd hc;refine xA (jcB w s.node hnr.1 hW.ill) ?_;refine xC ?_ ?_<;>intro hc
 ·(
 have h123:sickV w s.node=true:=hc;iterate 2 refine zW ?_
 refine zP (AP.up (jaj zKr rfl zRc jay) (d':=wv zWld) xUp) ?_;refine xP ?_;unfold doW;rw[qe (by rw[h18];decide),qe h27,qe h43,qe h47,qe h75,qe h92,qe h113];rw[jjq h123,jjq h123,jjq h123];by_cases ha:s.kind=1
 ·rw[qf ha];rfl
 ·rw[qe ha,ite_self];rfl)
 ·(
 have h123:sickV w s.node=false:=hc;obtain⟨d,hdd,hd9⟩:=jhN hnr.1;obtain⟨y,hy⟩:∃y,w.nodes[d]?=some y:=⟨_,ze zo⟩
 have hyP:=(hW.nd d y hy).2;iterate 8 refine zW ?_
 refine zP (jap (k:=d) rfl rfl rfl rfl zd hdd (jad ptv hy)) ?_;refine xL λb13=>?_;refine xL λb14=>?_;refine xC ?_ ?_<;>intro hc
 ·(
 have h138:s.kind=1:=qc hc;have mk138t:True:=trivial;refine xB (jpQ y hyP s.slot s.val w.time) ?_;rintro _ _ ⟨rfl,rfl⟩;obtain⟨r,hr⟩:∃z9,z9=beginP y s.slot s.val w.time:=⟨_,rfl⟩;rw[<-hr];refine xC ?_ ?_<;>intro hc
 ·(
 first
 | (exact xQ hc)
 |(
 have h169:¬r.2=0:=jaf hc;iterate 2 refine zW ?_
 refine zP (AP.up (jaj zKr rfl zRc jay) (d':=wv zWld) xUp) ?_;refine xP ?_
 unfold doW;rw[qe (by rw[h18];decide),qe h27,qe h43,qe h47,qe h75,qe h92,qe h113,qf h138,jeR (f:=λp=>beginP p s.slot s.val w.time) h123 hdd hy hr,qf h169];rfl))
 ·(
 first
 | (exact xQ hc)
 |(
 have h169:r.2=0:=by first | exact jac hc | rw[hr]
 have hrn:r.1.node=(d:Int):=by first | (have:=mk138t;exact jcY hW hy (f:=λp=>beginP p s.slot s.val w.time) (λp hp e=>jeV hp e) hr h169) | (have:=mk151t;exact jcY hW hy (f:=λp=>prefP p s.slot s.val w.time) (λp hp e=>jeu hp e) hr h169) | (have:=mk164t;exact jcY hW hy (f:=λp=>(stopP p,0)) (λp hp e=>jgc hp) hr h169)
 refine xA (jci w r.1 d hrn zo zo) ?_;refine xP ?_
 unfold doW;rw[qe (by rw[h18];decide),qe h27,qe h43,qe h47,qe h75,qe h92,qe h113,qf h138,jeR (f:=λp=>beginP p s.slot s.val w.time) h123 hdd hy hr,qe (λh=>h h169)];rfl)))
 ·(
 have h138:¬s.kind=1:=qd hc;refine xC ?_ ?_<;>intro hc
 ·(
 have h151:s.kind=8:=qc hc;have mk151t:True:=trivial;refine xB (jjG y hyP s.slot s.val w.time) ?_;rintro _ _ ⟨rfl,rfl⟩;obtain⟨r,hr⟩:∃z9,z9=prefP y s.slot s.val w.time:=⟨_,rfl⟩;rw[<-hr];refine xC ?_ ?_<;>intro hc
 ·(
 first
 | (exact xQ hc)
 |(
 have h169:¬r.2=0:=jaf hc;iterate 2 refine zW ?_
 refine zP (AP.up (jaj zKr rfl zRc jay) (d':=wv zWld) xUp) ?_;refine xP ?_
 unfold doW;rw[qe (by rw[h18];decide),qe h27,qe h43,qe h47,qe h75,qe h92,qe h113,qe h138,qf h151,jeR (f:=λp=>prefP p s.slot s.val w.time) h123 hdd hy hr,qf h169];rfl))
 ·(
 first
 | (exact xQ hc)
 |(
 have h169:r.2=0:=by first | exact jac hc | rw[hr]
 have hrn:r.1.node=(d:Int):=by first | (have:=mk138t;exact jcY hW hy (f:=λp=>beginP p s.slot s.val w.time) (λp hp e=>jeV hp e) hr h169) | (have:=mk151t;exact jcY hW hy (f:=λp=>prefP p s.slot s.val w.time) (λp hp e=>jeu hp e) hr h169) | (have:=mk164t;exact jcY hW hy (f:=λp=>(stopP p,0)) (λp hp e=>jgc hp) hr h169)
 refine xA (jci w r.1 d hrn zo zo) ?_;refine xP ?_
 unfold doW;rw[qe (by rw[h18];decide),qe h27,qe h43,qe h47,qe h75,qe h92,qe h113,qe h138,qf h151,jeR (f:=λp=>prefP p s.slot s.val w.time) h123 hdd hy hr,qe (λh=>h h169)];rfl)))
 ·(
 have h151:¬s.kind=8:=qd hc;have h164:s.kind=4:=by omega
 have mk164t:True:=trivial;iterate 6 refine zW ?_
 refine jbx rfl (qg h164) ?_;refine xB (jtJ y hyP) ?_;rintro _ _ ⟨rfl,rfl⟩;obtain⟨r,hr⟩:∃z9:Ptc × Int,z9=(stopP y,0):=⟨_,rfl⟩;rw[show stopP y=r.1 by rw[hr]];refine xC ?_ ?_<;>intro hc
 ·exact xQ hc
 ·(
 first
 | (exact xQ hc)
 |(
 have h169:r.2=0:=by first | exact jac hc | rw[hr]
 have hrn:r.1.node=(d:Int):=by first | (have:=mk138t;exact jcY hW hy (f:=λp=>beginP p s.slot s.val w.time) (λp hp e=>jeV hp e) hr h169) | (have:=mk151t;exact jcY hW hy (f:=λp=>prefP p s.slot s.val w.time) (λp hp e=>jeu hp e) hr h169) | (have:=mk164t;exact jcY hW hy (f:=λp=>(stopP p,0)) (λp hp e=>jgc hp) hr h169)
 refine xA (jci w r.1 d hrn zo zo) ?_;refine xP ?_
 unfold doW;rw[qe (by rw[h18];decide),qe h27,qe h43,qe h47,qe h75,qe h92,qe h113,qe h138,qe h151,jeR (f:=λp=>(stopP p,0)) h123 hdd hy hr,qe (λh=>h h169)];rfl))))))))))))))))
def otv(o:Otc):D:=.agg [.i o.node,.i o.slot,.v (.string o.val)]
theorem jrD(q:List Otc)(x:Otc):List.map otv q++[otv x]=(q++[x]).map otv:=by rw[List.map_append];rfl
theorem ju7(c:List Mem)(hlen:1<=c.length/\c.length<=10)(hs:∀m∈c,sizeT m.t<=100000)(hv:validC c=0)(hdc:∀m∈c,m.decl=true)(ill:Int)(hi:0<=ill/\ill<(2^c.length:Nat))(l:List Sp)(hl:∀s∈l,SB s/\¬s.kind=3):C0 19 [cv c,.i ill,.sl 34 (l.map spv)] (.tup [wv (runV (startW c ill) l).1,.i ((runV (startW c ill) l).2.1:Int),.i (runV (startW c ill) l).2.2]):=by
 refine xI Tryz.func19 Tryz.call19 λhcap=>?_;have hml:(l.map spv).length=l.length:=by simp
 have hW0:=jg5 hlen.2 hs hi;refine xX λb3=>?_;refine zAl λb6=>?_;refine xB (jqy c hlen hs hv hdc ill hi) ?_;rintro _ _ ⟨rfl,rfl⟩;rw[show (⟨0,newPtcs c 0,ill,zNtw,c.map (λm=>[m.t])⟩:Wld)=startW c ill from rfl];refine xL λb9=>?_;iterate 11 refine zW ?_
 refine jan rfl jcm ?_;refine xN λ_=>?_;refine xC ?_ ?_<;>intro hc
 ·(
 have h27:l.length>300:=by have:=qc hc;omega
 refine xP ?_
 unfold runV;rw[qf h27];rfl)
 ·(
 have h27:¬l.length>300:=by have:=qd hc;omega
 refine xN λ_=>?_;iterate 4 refine zW ?_
 refine jag [2,6,9,29,30] [.box b6 _ _] (λ(i:Nat)(c2:Wld) r=>(31,.i (i:Int))::r) (λi c2 r=>.box b9 40 [.i c2.time,.sl 6 (c2.nodes.map ptv),.i c2.ill,.sl 28 (c2.net.pcs.map pcv),.i c2.net.next,.sl 1 (c2.net.parts.map .i),.sl 1 (c2.net.dls.map .i),.sl 1 (c2.trs.map trv)]::r) (λi c2=>i<=l.length/\WI c2/\runGo c2 (l.drop i) i=runGo (startW c ill) l 0) (λi c2=>l.length - i) (0) (startW c ill) zRc ⟨by omega,hW0,rfl⟩ (zWk) ?_;intro i c2 ⟨hi9,hWc,hI⟩;refine xC ?_ ?_<;>intro hc
 ·(
 have hlt:=qc hc;obtain⟨s,hx,hd⟩:=jab (l:=l) (k:=i) zo;have hx':=jad spv hx;have hsl:=hl s (qk hx);refine xL λb12=>?_;refine xB (jwx c2 hWc s hsl.1 hsl.2) ?_;rintro _ _ ⟨rfl,rfl⟩;obtain⟨r,hr⟩:∃z9,z9=doW c2 s:=⟨_,rfl⟩;rw[<-hr];refine xL λb13=>?_;refine xC ?_ ?_<;>intro hc
 ·(
 have h43:¬r.2=0:=jaf hc;rw[hd,runGo,<-hr,qf h43] at hI;refine xP ?_
 unfold runV;rw[qe h27,<-hI];rfl)
 ·(
 have h43:r.2=0:=jac hc;iterate 13 refine zW ?_
 rw[hd,runGo,<-hr,qe (λh=>h h43)] at hI
 refine⟨i+1,r.1,⟨by omega,hr ▸ jwf hWc hsl.1 (hr ▸ h43),hI⟩,by omega,zWk⟩))
 ·(
 have hge:=qd hc;rw[jae zo,runGo] at hI;refine xN λ_=>?_;refine xP ?_
 unfold runV;rw[qe h27,<-hI,hml,show i=l.length by omega];rfl))
theorem jjc(w:Wld)(hW:WI w):C0 21 [wv w] (.sl 3 ((outcomes w).map otv)):=by
 refine xI Tryz.func21 Tryz.call21 λhcap=>?_;have hml:(w.nodes.map ptv).length=w.nodes.length:=by simp
 have hwl:=hW.len;refine xX λb1=>?_;refine xA (jco w hW) ?_;refine xC ?_ ?_<;>intro hc
 ·(
 have h12:checkW w=false:=jaw hc;iterate 5 refine zW ?_
 refine jhq 71 3 rfl ?_;refine zFz (.slice none 0 0) [2] ?_;refine xP ?_
 unfold outcomes;rw[qf h12];rfl)
 ·(
 have h12:checkW w=true:=jav hc;refine xN λ_=>?_;iterate 4 refine zW ?_
 refine jax [1,14,15] [.box b1 _ _] (λ(i:Nat)(v:Value)(q:List Otc) r=>(3,.v v)::(16,.i (i:Int))::r) (λi v q r=>.arr v 71 3 (q.map otv)::r) (λi v q=>(i<=w.nodes.length/\q.length<=20 * i)/\q++otcGo w (w.nodes.drop i) i=otcGo w w.nodes 0) (λi v q=>w.nodes.length - i) (0) (.slice none 0 0) ([]) zRc ⟨⟨by omega,by simp⟩,by simp⟩ ((jaF 71 3 rfl).trans (zWk)) ?_;intro i v q ⟨⟨hi,hql⟩,hI⟩;refine xC ?_ ?_<;>intro hc
 ·(
 have hlt:=qc hc;obtain⟨y,hy,hd⟩:=jab (l:=w.nodes) (k:=i) zo;have hy':=jad ptv hy;have hyP:=hW.nd i y hy;refine xL λb5=>?_;refine xN λ_=>?_;iterate 4 refine zW ?_
 have hsm:(y.slots.map slv).length=y.slots.length:=by simp
 have hsl20:=hyP.2.hl;refine jax [1,4,5,14,15,16,22,23] [.box b1 _ _,.box b5 _ _] (λ(j:Nat)(v2:Value)(q2:List Otc) r=>(3,.v v2)::(24,.i (j:Int))::r) (λj v2 q2 r=>.arr v2 71 3 (q2.map otv)::r) (λj v2 q2=>(j<=y.slots.length/\q2.length<=20 * i+j)/\q2++(y.slots.drop j).flatMap (otcS w i y)=q++y.slots.flatMap (otcS w i y)) (λj v2 q2=>y.slots.length - j) (0) (v) (q) zRc ⟨⟨by omega,by omega⟩,rfl⟩ (zWk) ?_;intro j v2 q2 ⟨⟨hj,hql2⟩,hI2⟩;have hqm:(q2.map otv).length=q2.length:=by simp
 refine xC ?_ ?_<;>intro hc
 ·(
 have hlt2:=qc hc;obtain⟨s,hx,hd2⟩:=jab (l:=y.slots) (k:=j) zo;have hx':=jad slv hx;refine xL λb7=>?_;refine xB (jhK y hyP.2 s.mach.slot) ?_;rintro _ _ ⟨rfl,rfl⟩;obtain⟨r,hr⟩:∃z9,z9=decidedP y s.mach.slot:=⟨_,rfl⟩;rw[<-hr];iterate 11 refine zW ?_
 iterate 2 all_goals first | refine zW ?_ | refine xG ?_ ?_<;>intro hg
 all_goals first | (refine zY ?_;refine jaa zRc (jcB w (i:Int) zo hW.ill) rfl rfl ?_) | refine zSk ?_
 iterate 2 all_goals refine zW ?_
 all_goals (
 refine xC ?_ ?_<;>intro hc
 ·(
 first
 | (exact xQ hc)
 |(
 have h42:(r.2&&!sickV w i)=true:=by first | (simp_all;done) | grind
 have mk42t:True:=trivial;iterate 8 refine zW ?_
 refine xLt 71 3 32 ?_;refine xEa 71 3 32 (hb:=xLb) λv51 hv51=>?_;iterate 9 refine zW ?_
 rw[hd2,List.flatMap_cons,<-List.append_assoc] at hI2
 rw[show otcS w i y s=[⟨(i:Int),s.mach.slot,r.1⟩] by unfold otcS;rw[<-hr,qf h42]] at hI2;rw[show D.agg [.i (i:Int),.i s.mach.slot,.v (.string r.1)]=otv ⟨(i:Int),s.mach.slot,r.1⟩ from rfl,jrD];refine⟨j+1,_,q2++[⟨(i:Int),s.mach.slot,r.1⟩],⟨⟨by omega,by simp;omega⟩,hI2⟩,by omega,zWk⟩))
 ·(
 first
 | (exact xQ hc)
 |(
 have h42:¬(r.2&&!sickV w i)=true:=by first | (simp_all;done) | grind
 have mk42f:True:=trivial;iterate 8 refine zW ?_
 rw[hd2,List.flatMap_cons,<-List.append_assoc] at hI2
 first
 | (have:=mk42f;rw[show otcS w i y s=[] by unfold otcS;rw[<-hr,qe h42],List.append_nil] at hI2;refine⟨j+1,v2,q2,⟨⟨by omega,by omega⟩,hI2⟩,by omega,zWk⟩)))))
 ·(
 have hge2:=qd hc;rw[jae zo,List.flatMap_nil,List.append_nil] at hI2;iterate 11 refine zW ?_
 rw[hd,otcGo,<-List.append_assoc,<-hI2] at hI
 refine⟨i+1,v2,q2,⟨⟨by omega,by omega⟩,hI⟩,by omega,zWk⟩))
 ·(
 have hge:=qd hc;rw[jae zo,otcGo,List.append_nil] at hI;refine zFz v [3] ?_;refine xP ?_
 unfold outcomes;rw[qe (by rw[h12];decide),<-hI];rfl))
theorem jeJ{n:Nat}:∀(c:List Mem),memsV n c=0->∀m∈c,m.decl=true->validT m.t=0
 | [],_,m,hm,_=>qp hm qv
 | x::r,h,m,hm,hd=>by
  simp only[memsV] at h
  by_cases h0:memV x n=0
  ·rw[qf h0] at h
   rcases zf hm with rfl | hm
   ·unfold memV at h0
    rw[qf hd] at h0;split at h0
    ·assumption
    ·assumption
   ·exact jeJ r h m hm hd
  ·rw[qe h0] at h
   exact qp h h0
theorem OKA.trusts(h:OKA c):∀m∈c,validT m.t=0:=λm hm=>by
 have h1:=h.ok;unfold validC at h1;rw[qe (by have:=h.l10;omega)] at h1;exact jeJ c h1 m hm (h.decl m hm)
theorem OKA.cfg(h:OKA c)(h1:1<=c.length):CfgOk c:=⟨⟨h1,h.l10⟩,λk m hm=>⟨h.decl m (qk hm),h.trusts m (qk hm)⟩,λm hm=>by have:=h.size m hm;omega⟩
theorem ji8(s:Sp)(h:s.l=zLtr):SB s:=⟨by rw[h];exact⟨jjX,jq9⟩⟩
theorem jqI{P:Program}{o:Oper}{env:Env}{H:Heap}{d d':D}(h:AP P n o env H d)(e:d=d'):AP P n o env H d':=e ▸ h
def hdB(a:Otc):List Otc->Bool
 | []=>true
 | x::_=>decide (a.slot<x.slot)
theorem jm9{s:Int}{b:Otc}{r:List Otc}:divIn s a (b::r) q=divIn s a r (if divB s a b=true/\hdB a q=true then [a,b] else q):=by
 cases q<;>rfl
theorem jvT{y:Otc}(h:0<q.length->q[0]?=some y)(hn:¬q=[]):hdB a q=decide (a.slot<y.slot):=by
 cases q with
 | nil=>exact qp rfl hn
 | cons x r =>
  have:=h (by simp);simp only[List.getElem?_cons_zero,qs] at this;subst this;rfl
theorem jAd(h:decide (((q.map otv).length:Int)=0)=true):q=[]:=List.eq_nil_of_length_eq_zero (by have:=qc h;simpa using this)
theorem lenN(h:decide (((q.map otv).length:Int)=0)=false):¬q=[]:=by rintro rfl;exact qp h zd
theorem jld{P:Program}{o:Oper}{env:Env}{H:Heap}{d d':D}(h:AP P n o env H d)(e:d=d'):AP P n o env H d':=e ▸ h
theorem bitZ:decide (((s / 2^k&&&1:Nat):Int)=0)=!s.testBit k:=by
 rw[Nat.testBit_eq_decide_div_mod_eq,Nat.and_one_is_mod];have:=Nat.mod_two_eq_zero_or_one (s / 2^k);rcases this with h | h<;>rw[h]<;>rfl
theorem jyQ(h:s<1024):s / 2^k<9223372036854775808:=Nat.lt_of_le_of_lt (Nat.div_le_self _ _) zo
theorem jqJ{j:Nat}{b:Otc}(ha:a.node=(i:Int))(hb:b.node=(j:Int)):divB (s:Int) a b=(((decide (a.slot=b.slot)&&!decide (a.val=b.val))&&s.testBit i)&&s.testBit j):=by
 unfold divB;rw[ha,hb];rfl
theorem jeM(w:Wld)(hW:WI w)(s:Nat)(hs:s<1024):C0 64 [wv w,.i (s:Int)] (.sl 3 ((divV w (s:Int)).map otv)):=by
 have hcap:=jbK;obtain⟨l,hl⟩:∃l,l=outcomes w:=⟨_,rfl⟩
 have hml:(l.map otv).length=l.length:=by simp
 have hln:∀o∈l,0<=o.node/\o.node<=9:=λo ho=>ji4 hW o (hl ▸ ho);refine jar Tryz.func64 rfl Tryz.call64 rfl ?_;refine xX λb2=>?_;refine xA ((jjc w hW).is (by rw[<-hl])) ?_;iterate 10 refine zW ?_
 refine jak [1,2,5,6] 3 rfl jcb jcr ?_;iterate 2 refine zW ?_
 first | refine zLn λ_=>?_ | refine zW ?_
 iterate 4 refine zW ?_
 refine jag [1,5,13,14] [.box b2 _ _] (λ(i:Nat)(q:List Otc) r=>(6,.sl 3 (q.map otv))::(15,.i (i:Int))::r) (λi q r=>r) (λi q=>i<=l.length/\divGo (s:Int) (l.drop i) q=divGo (s:Int) l []) (λi q=>l.length - i) (0) ([]) zRc ⟨by omega,rfl⟩ (zWk) ?_;intro i q ⟨hi,hI⟩;refine xC ?_ ?_<;>intro hc
 ·(
 have hlt:=qc hc;obtain⟨a,hx,hd⟩:=jab (l:=l) (k:=i) zo;have hx':=jad otv hx;refine xL λb8=>?_;iterate 9 refine zW ?_
 refine zP (jeW (k:=i+1) rfl rfl rfl rfl zo zo) ?_
 first | refine zLn λ_=>?_ | refine zW ?_
 iterate 4 refine zW ?_
 obtain⟨na,ha9,ha10⟩:=jhN (hln a (qk hx));have hmd:(List.drop (i+1) (l.map otv)).length=(l.drop (i+1)).length:=by simp
 refine jag [1,5,8,13,14,15,23,24] [.box b8 _ _,.box b2 _ _] (λ(j:Nat)(q2:List Otc) r=>(6,.sl 3 (q2.map otv))::(25,.i (j:Int))::r) (λj q2 r=>r) (λj q2=>j<=(l.drop (i+1)).length/\divIn (s:Int) a ((l.drop (i+1)).drop j) q2=divIn (s:Int) a (l.drop (i+1)) q) (λj q2=>(l.drop (i+1)).length - j) (0) (q) zRc ⟨by omega,rfl⟩ (zWk) ?_;intro j q2 ⟨hj,hI2⟩;refine xC ?_ ?_<;>intro hc
 ·(
 have hlt2:=qc hc;obtain⟨b,hxb,hd2⟩:=jab (l:=l.drop (i+1)) (k:=j) zo;have hxb':(List.drop (i+1) (l.map otv))[j]?=some (otv b):=by rw[<-List.map_drop];exact jad otv hxb
 have hq1:=jyQ (k:=na) hs;obtain⟨nb,hb9,hb10⟩:=jhN (hln b (List.mem_of_mem_drop (qk hxb)));have hq2:=jyQ (k:=nb) hs;refine xL λb10=>?_;iterate 12 refine zW ?_
 iterate 10 all_goals first | refine zW ?_ | refine xG ?_ ?_<;>intro hg
 all_goals first | (refine zY ?_;refine zP (jld (jc4 rfl rfl rfl zo) (congrArg (λz=>D.v (.int .u64 z)) ha9)) ?_) | refine zSk ?_ | (refine zG (λhg=>?_) λhg=>?_;case' _=>refine zP (jld (jc4 rfl rfl rfl zo) (congrArg (λz=>D.v (.int .u64 z)) ha9)) ?_)
 all_goals first | (refine zY ?_;refine zP (jeQ rfl rfl zo) ?_) | refine zSk ?_ | (refine zG (λhg=>?_) λhg=>?_;case' _=>refine zP (jeQ rfl rfl zo) ?_)
 all_goals first | (refine zY ?_;refine zP (jcz (q:=1) rfl rfl rfl zo zo) ?_) | refine zSk ?_ | (refine zG (λhg=>?_) λhg=>?_;case' _=>refine zP (jcz (q:=1) rfl rfl rfl zo zo) ?_)
 iterate 6 all_goals first | refine zW ?_ | refine xG ?_ ?_<;>intro hg
 all_goals first | (refine zY ?_;refine zP (jld (jc4 rfl rfl rfl zo) (congrArg (λz=>D.v (.int .u64 z)) hb9)) ?_) | refine zSk ?_ | (refine zG (λhg=>?_) λhg=>?_;case' _=>refine zP (jld (jc4 rfl rfl rfl zo) (congrArg (λz=>D.v (.int .u64 z)) hb9)) ?_)
 all_goals first | (refine zY ?_;refine zP (jeQ rfl rfl zo) ?_) | refine zSk ?_ | (refine zG (λhg=>?_) λhg=>?_;case' _=>refine zP (jeQ rfl rfl zo) ?_)
 all_goals first | (refine zY ?_;refine zP (jcz (q:=1) rfl rfl rfl zo zo) ?_) | refine zSk ?_ | (refine zG (λhg=>?_) λhg=>?_;case' _=>refine zP (jcz (q:=1) rfl rfl rfl zo zo) ?_)
 iterate 2 all_goals first | refine zW ?_ | refine xG ?_ ?_<;>intro hg
 all_goals (
 refine xC ?_ ?_<;>intro hc
 ·(
 first
 | (exact xQ hc)
 |(
 have h58:divB (s:Int) a b=false:=by rw[jqJ ha9 hb9];first | (simp_all[bitZ];done) | grind
 have mk58t:True:=trivial;iterate 9 refine zW ?_
 rw[hd2,jm9] at hI2
 first
 | (have:=mk58t;rw[qe (λh=>by rw[h58] at h;exact qp h.1 zd)] at hI2;exact⟨j+1,q2,⟨by omega,hI2⟩,by omega,zWk⟩)))
 ·(
 first
 | (exact xQ hc)
 |(
 have h58:divB (s:Int) a b=true:=by rw[jqJ ha9 hb9];first | (simp_all[bitZ];done) | grind
 have mk58f:True:=trivial;iterate 3 refine zW ?_
 obtain⟨y,hy⟩:=jgB q2 0 a;have hqm:(q2.map otv).length=q2.length:=by simp
 refine zDr [] ?_;refine zT 0 ?_;refine zT 1 ?_;refine zT 2 ?_;refine zT 3 ?_;refine jai 3 rfl (λhg=>?_) λhg=>?_
 rotate_left
 case' _ =>(
 first
 | (exact xQ hg)
 | (exfalso;simp at hg;done)
 |(
 refine zT 4 ?_;refine zT 5 ?_;refine zT 6 ?_;refine jam 7 rfl zGd zKr zKr zKr (AP.ar (jap (k:=0) rfl rfl rfl rfl zd rfl (jad otv (hy (by have h9:decide (((q2.map otv).length:Int)=0)=false:=(by first | with_reducible assumption | exact hg);have:=qd h9;omega))))) rfl rfl ?_;refine zT 8 ?_;refine zT 9 ?_;refine zT 10 ?_;refine zT 11 ?_
 refine zW ?_))
 rotate_right
 case' _ =>(
 first
 | (exact xQ hg)
 | (exfalso;simp at hg;done)
 |(
 refine zK 4 ?_;refine zK 5 ?_;refine zK 6 ?_;refine zK 7 ?_;refine zK 8 ?_;refine zK 9 ?_;refine zK 10 ?_;refine zT 11 ?_
 refine zW ?_))
 all_goals (
 refine xC ?_ ?_<;>intro hc
 ·(
 first
 | (exact xQ hc)
 |(
 have h70:hdB a q2=true:=by first | (have h9:=jAd (q:=q2) (by first | with_reducible assumption | exact hg);rw[h9];rfl) | (rw[jvT hy (lenN (by first | with_reducible assumption | exact hg))];exact hc)
 have mk70t:True:=trivial;iterate 3 refine zW ?_
 refine xLt 71 3 32 ?_;iterate 9 refine zW ?_
 rw[hd2,jm9] at hI2
 first
 | (have:=mk70t;rw[qf ⟨h58,h70⟩] at hI2;exact⟨j+1,[a,b],⟨by omega,hI2⟩,by omega,zWk⟩)))
 ·(
 first
 | (exact xQ hc)
 |(
 have h70:¬hdB a q2=true:=by first | (rw[jvT hy (lenN (by first | with_reducible assumption | exact hg))];exact λh=>qp (h.symm.trans hc) zd) | exact xQ hc
 have mk70f:True:=trivial;iterate 8 refine zW ?_
 rw[hd2,jm9] at hI2
 first
 | (have:=mk70f;rw[qe (λh=>h70 h.2)] at hI2;exact⟨j+1,q2,⟨by omega,hI2⟩,by omega,zWk⟩))))))))
 ·(
 have hge2:=qd hc;rw[jae (l:=l.drop (i+1)) (k:=j) zo] at hI2;have hI2:q2=divIn (s:Int) a (l.drop (i+1)) q:=hI2;iterate 11 refine zW ?_
 rw[hd,divGo,<-hI2] at hI
 exact⟨i+1,q2,⟨by omega,hI⟩,by omega,zWk⟩))
 ·(
 have hge:=qd hc;rw[jae zo,divGo] at hI;refine xP ?_
 unfold divV;rw[<-hl,<-hI];rfl)
theorem ji9(w:Wld)(hW:WI w):C0 16 [wv w] (.sl 3 ((divV w 1023).map otv)):=by
 refine xI Tryz.func16 Tryz.call16 λhcap=>?_;refine xX λb1=>?_;refine xA (jeM w hW 1023 zo) ?_;refine xP ?_;rfl
theorem jsY(t:Trust):C0 221 [.sl 3 [av t]] (.sl 3 [av t]):=by
 refine xI Tryz.func221 Tryz.call221 λhcap=>?_;refine xN λ_=>?_;iterate 4 refine zW ?_
 refine jax [11,12] [] (λ(k:Nat)(v:Value)(q:List Trust) r=>(3,.v v)::(13,.i (k:Int))::r) (λk v q r=>.arr v 48 3 (avs q)::r) (λk v q=>k<=1/\(k=0->q=[])/\(k=1->q=[t])) (λk v q=>1 - k) (0) (.slice none 0 0) ([]) zRc ⟨by omega,λ_=>rfl,λh=>by omega⟩ ((jaF 48 3 rfl).trans (zWk)) ?_;intro k v q ⟨hk,hq0,hq1⟩;refine xC ?_ ?_<;>intro hc
 ·(
 have hlt:=qc hc;have hk0:k=0:=by simp only[qi,qu] at hlt;omega
 subst hk0;obtain rfl:=hq0 rfl;have ht':([av t]:List D)[0]?=some (av t):=rfl;refine xL λb5=>?_;iterate 13 refine zW ?_
 refine zW ?_;iterate 4 refine zW ?_
 refine jah [3,5,11,12,13,17,18] [.arr v 48 3 (avs []),.box b5 _ _] (λ(i:Nat) r=>(6,.i 0)::(7,.b false)::(19,.i (i:Int))::r) (λi r=>r) (λi=>i=0) (λi=>0) (0) zRc rfl (zWk) ?_;intro i hi;subst hi;iterate 6 refine zW ?_
 refine jan rfl jcm ?_;iterate 11 refine zW ?_
 refine jan rfl jcm ?_;iterate 6 refine zW ?_
 (refine jau [5,6,11,12,13,38,39] 1 rfl rfl (by repeat (first | exact SelC.nil | apply SelC.cons rfl (Cv.agg (CvL.cons Cv.same (CvL.cons Cv.fz (CvL.cons Cv.same CvL.nil)))) | apply SelC.cons rfl Cv.same)) ja4 ?_;refine jau [5,6,11,12,13,38,39] 3 rfl rfl jcb ja4 ?_;refine xLt 48 3 56 ?_)
 refine xEa 48 3 56 λv41 hv41=>?_;iterate 4 refine zW ?_
 rw[show D.agg [.i 0,.sl 1 [],.sl 3 []]=av Trust.none from rfl];refine jjs jct (by simp) (λg cap hcap2 hv=>?_);subst hv;refine zDr [.arr _ _ _ _] ?_;refine zT 0 ?_;refine zT 1 ?_;refine zT 2 ?_;refine jam 3 rfl zGd zKr zKr zKr (AP.ar (jbR (k:=1) rfl jct rfl rfl rfl (by simp) (by simp))) rfl rfl ?_;refine zT 4 ?_;refine zT 5 ?_;refine jam 6 rfl zGd zKr zKr zKr (AP.ar (jbR (k:=0) rfl jct rfl rfl rfl (by simp) (by simp))) rfl rfl ?_;refine zOn 7 ?_;refine zP (juV rfl rfl rfl rfl) ?_;iterate 2 refine zW ?_
 all_goals (
 iterate 5 refine zW ?_
 refine zP (jaU (k:=0) rfl rfl rfl rfl rfl (by simp)) ?_;refine jaD (k:=0) (off:=0) (sz:=3) (r:=[.i 0,.sl 1 [],.sl 3 []]) (r':=[.i t.th,.sl 1 (t.nodes.map .i),.sl 3 (avs t.inner)]) rfl rfl jdZ jct rfl rfl zRc ?_;iterate 8 refine zW ?_
 rw[show (avs []++[av Trust.none]).set 0 (D.agg [.i t.th,.sl 1 (t.nodes.map .i),.sl 3 (avs t.inner)])=avs [t] from by rw[jcU [t],jcU []];rfl]
 refine⟨1,_,[t],⟨by omega,λh=>by omega,λ_=>rfl⟩,by omega,zWk⟩))
 ·(
 have hge:=qd hc;obtain rfl:=hq1 (by simp only[qi,qu] at hge;omega);refine zFz v [3] ?_;refine xP ?_;show D.sl 3 (avs [t])=_
 rw[jcU];rfl)
theorem jyF(q:List Mem)(x:Mem):List.map mv q++[mv x]=List.map mv (q++[x]):=by rw[List.map_append];rfl
theorem jgY(c:List Mem)(hok:OKA c)(al:Bool):C0 194 [.sl 1 (c.map λm=>.sl 3 [av m.t]),.b al] (.tup [cv c,.i 0]):=by
 refine xI Tryz.func194 Tryz.call194 λhcap=>?_;have hll:(c.map λm:Mem=>(D.sl 3 [av m.t])).length=c.length:=by simp
 have hc4:=hok.len;refine xL λb4=>?_;refine xN λ_=>?_;iterate 3 refine zW ?_
 refine jan rfl jcm ?_;refine xL λb6=>?_;refine xN λ_=>?_;iterate 4 refine zW ?_
 refine jax [1,4,6,19,20] [.box b4 _ _] (λ(k:Nat)(v:Value)(q:List Mem) r=>(21,.i (k:Int))::r) (λk v q r=>.box b6 28 [.v v]::.arr v 101 4 (q.map mv)::r) (λk v q=>k<=c.length/\q=c.take k) (λk v q=>c.length - k) (0) (.slice none 0 0) ([]) zRc ⟨by omega,by simp⟩ ((jaF 101 4 rfl).trans (zWk)) ?_;intro k v q ⟨hk,hI⟩;have hql:q.length=k:=by rw[hI];simp;omega
 have hqm:(q.map mv).length=q.length:=by simp
 refine xC ?_ ?_<;>intro hc
 ·(
 have hlt:=qc hc;obtain⟨m,hm,hd⟩:=jab (l:=c) (k:=k) zo;have hx':=jad (λm:Mem=>D.sl 3 [av m.t]) hm;have hmm:=qk hm;have hms:sizeT m.t<=100000:=by have:=hok.size m hmm;omega
 have hmv:validT m.t=0:=(hok.cfg zo).ok k m hm |>.2
 have hmd:m.decl=true:=(hok.cfg zo).ok k m hm |>.1
 have hone:([av m.t]:List D).length=1:=rfl;refine xN λ_=>?_;iterate 4 refine zW ?_
 refine jah [1,4,6,8,19,20,21,25,26] [.box b6 _ _,.arr v 101 4 (q.map mv),.box b4 _ _] (λ(j:Nat) r=>(27,.i (j:Int))::r) (λj r=>r) (λj=>j<=1) (λj=>1 - j) (0) zRc zo (zWk) ?_;intro j hj;refine xC ?_ ?_<;>intro hc
 ·(
 have hlt2:=qc hc;have hj0:j=0:=by simp only[qi,qu] at hlt2;omega
 subst hj0;have ht':([av m.t]:List D)[0]?=some (av m.t):=rfl;refine xL λb10=>?_;refine xA (((jaI m.t zo).is (by rw[hmv]))) ?_;iterate 9 refine zW ?_
 refine jan rfl jcm ?_;iterate 8 refine zW ?_
 refine⟨1,by omega,by omega,zWk⟩)
 ·(
 refine xA (jsY m.t) ?_;refine xN λ_=>?_;iterate 3 refine zW ?_
 refine jan rfl jcm ?_;refine xL λb13=>?_;refine xN λ_=>?_;iterate 4 refine zW ?_
 refine jbx rfl jcm ?_;iterate 13 refine zW ?_
 refine jau [1,4,6,19,20,21,65,66] 1 rfl rfl (by repeat (first | exact SelC.nil | apply SelC.cons rfl (Cv.agg (CvL.cons Cv.same (CvL.cons Cv.same (CvL.cons Cv.fz (CvL.cons Cv.same CvL.nil))))) | apply SelC.cons rfl Cv.same)) ja4 ?_;refine jau [1,4,6,19,20,21,65,66] 3 rfl rfl jcb ja4 ?_;refine xLt 101 4 64 ?_;refine xEa 101 4 64 λv68 hv68=>?_;iterate 10 refine zW ?_
 rw[show D.agg [.b true,.i m.t.th,.sl 1 (m.t.nodes.map .i),.sl 3 (avs m.t.inner)]=mv m from by rw[<-hmd];rfl,jyF]
 refine⟨k+1,_,q++[m],⟨by omega,by rw[hI,List.take_add_one,hm];rfl⟩,by omega,zWk⟩))
 ·(
 have hge:=qd hc;have hF:q=c:=by rw[hI,qC zo]
 rw[hF];iterate 7 refine zW ?_
 refine zFz v [4,6] ?_;refine xA (((jch c (λm hm=>by have:=hok.size m hm;omega)).is (by rw[hok.ok]))) ?_;iterate 9 refine zW ?_
 refine jan rfl jcm ?_
 refine xP ?_;exact rfl)
theorem jvs(c:List Mem)(hok:OKA c):C0 154 [.sl 1 (c.map λm=>.sl 3 [av m.t])] (.tup [cv c,.i 0]):=by
 refine xI Tryz.func154 Tryz.call154 λhcap=>?_;refine xL λb2=>?_;refine xA (jgY c hok false) ?_;refine xP ?_;exact rfl
theorem jtE(c:List Mem)(hok:OKA c):C0 155 [.sl 1 (c.map λm=>.sl 3 [av m.t])] (.tup [cv c,.i 0]):=by
 refine xI Tryz.func155 Tryz.call155 λhcap=>?_;refine xL λb2=>?_;refine xA (jgY c hok true) ?_;refine xP ?_;exact rfl
theorem jsG(c:List Mem)(hc:c.length<=10):C0 227 [cv c] (.i ((2^c.length - 1:Nat):Int)):=by
 refine xI Tryz.func227 Tryz.call227 λhcap=>?_;have h10:=jaC hc;have hpos:0<2^c.length:=Nat.pow_pos zo;have hml:(c.map mv).length=c.length:=by simp
 refine xX λb1=>?_;refine xN λ_=>?_
 (rw[hml];refine zP (jaZ (p:=1) rfl rfl rfl zo zo) ?_)
 (rw[Nat.one_mul];refine zW ?_)
 refine xP ?_;simp only[resD];congr 2;omega
theorem jmZ(c:List Mem)(hc:c.length<=10):C0 157 [cv c] (.i ((2^c.length - 1:Nat):Int)):=by
 refine xI Tryz.func157 Tryz.call157 λhcap=>?_;have h10:=jaC hc;have hpos:0<2^c.length:=Nat.pow_pos zo;have hml:(c.map mv).length=c.length:=by simp
 refine xX λb1=>?_;refine xN λ_=>?_
 (rw[hml];refine zP (jaZ (p:=1) rfl rfl rfl zo zo) ?_)
 (rw[Nat.one_mul];refine zW ?_)
 refine xP ?_;simp only[resD];congr 2;omega
theorem rvl(h:validC c=0):C0 49 [cv c] (.i 0):=by
 have h1:=jch c (λm hm=>by have:=jbS h m hm;omega)
 rwa [h] at h1
theorem jwW(lo hi:List Mem)(hp:PairOK lo hi):C0 222 [cv lo,cv hi] (.i 0):=by
 refine xI Tryz.func222 Tryz.call222 λhcap=>?_;have hl1:=hp.len;have hl2:=hp.len2;have h10l:=jaC (n:=lo.length) zo;have hpl:0<2^lo.length:=Nat.pow_pos zo;have hml:(lo.map mv).length=lo.length:=by simp
 have hmh:(hi.map mv).length=hi.length:=by simp
 have hsl:=jbS hp.vl;have hsh:=jbS hp.vh;refine xX λb2=>?_;refine zBx λb3=>?_;refine xA (rvl hp.vl) ?_;iterate 9 refine zW ?_
 refine jan rfl jcm ?_;refine xA (rvl hp.vh) ?_;iterate 9 refine zW ?_
 refine jan rfl jcm ?_;iterate 4 refine zW ?_
 refine zDr [] ?_;refine zT 0 ?_;refine zT 1 ?_;refine zT 2 ?_;refine zT 3 ?_;refine zT 4 ?_;refine zT 5 ?_;refine zT 6 ?_;refine zT 7 ?_;refine jai 7 rfl (λhg=>?_) λhg=>?_
 rotate_left
 case' _ =>(
 refine zT 8 ?_;refine zT 10 ?_;refine zOn 9 ?_;refine xA (jcE lo) ?_;refine zW ?_;refine zOn 11 ?_;refine xA (jcE hi) ?_;refine zW ?_;refine zT 12 ?_;refine zT 13 ?_
 refine zW ?_)
 rotate_right
 case' _ =>(
 refine zK 8 ?_;refine zK 9 ?_;refine zK 10 ?_;refine zK 11 ?_;refine zK 12 ?_;refine zT 13 ?_
 refine zW ?_)
 all_goals (
 refine xC ?_ ?_<;>intro hc
 ·(
 first
 | (exact xQ hc)
 | (exfalso;have h0:=jaf hg;omega)
 | (exfalso;exact jaf hc (by rw[hp.decl])))
 ·(
 first
 | (exact xQ hc)
 |(
 iterate 7 refine zW ?_
 refine zLn λ_=>?_;iterate 3 refine zW ?_
 refine jan rfl jcm ?_;refine xN λ_=>?_;iterate 4 refine zW ?_
 refine jah [2,3,39] [.box b2 _ _,.box b3 _ _] (λ(k:Nat) r=>(40,.i (k:Int))::r) (λk r=>r) (λk=>k<=lo.length) (λk=>lo.length - k) (0) zRc zo (zWk) ?_;intro k hk;refine xC ?_ ?_<;>intro hc
 ·(
 have hlt:=qc hc;obtain⟨a,ha,_⟩:=jab (l:=lo) (k:=k) zo;have ha':=jad mv ha;obtain⟨b,hb,_⟩:=jab (l:=hi) (k:=k) zo;have hb':=jad mv hb;refine xC ?_ ?_<;>intro hc
 ·(
 iterate 9 refine zW ?_
 refine⟨k+1,by omega,by omega,zWk⟩)
 ·(
 iterate 8 refine zW ?_
 refine jah [2,3,7,39,40] [.box b2 _ _,.box b3 _ _] (λ(s:Nat) r=>(8,.i (s:Int))::r) (λs r=>r) (λs=>s<=2^lo.length) (λs=>2^lo.length - s) (0) zRc zo (zWk) ?_;intro s hs;refine xA (jsG lo zo) ?_;refine xC ?_ ?_<;>intro hc
 ·(
 have hle:=qc hc;refine xE (je3 s b.t) λc63 hc63=>?_;refine zW ?_
 iterate 7 all_goals first | refine zW ?_ | refine xG ?_ ?_<;>intro hg
 all_goals first | (refine zY ?_;refine jbE zRc (je3 s a.t) rfl rfl λc72 hc72=>?_) | refine zSk ?_
 iterate 2 all_goals refine zW ?_
 all_goals (
 refine xC ?_ ?_<;>intro hc
 ·(
 first
 | (exact xQ hc)
 | (exfalso;have h1:c63=true:=zO;have h2:=hp.sat k a b ha hb s (hc63.trans h1);have h3:=hc72.trans (jaw hc);rw[h2] at h3;cases h3))
 ·(
 first
 | (exact xQ hc)
 | (exfalso;have h1:c63=true:=zO;have h2:=hp.sat k a b ha hb s (hc63.trans h1);have h3:=hc72.trans (jaw hc);rw[h2] at h3;cases h3)
 |(
 iterate 9 refine zW ?_
 refine⟨s+1,by omega,by omega,zWk⟩))))
 ·(
 iterate 11 refine zW ?_
 refine⟨k+1,by omega,by omega,zWk⟩)))
 ·refine xP ?_;exact rfl)))
theorem jrC(c:List Mem)(hc:c.length<=10)(u:Nat)(hu:u<2^c.length):C0 223 [cv c,.i u] (.i 0):=by
 refine xI Tryz.func223 Tryz.call223 λhcap=>?_;have h10:=jaC hc;refine xX λb2=>?_;iterate 9 refine zW ?_
 iterate 2 all_goals refine zW ?_
 all_goals (refine zY ?_;refine jaa zRc (jsG c hc) rfl rfl ?_)
 iterate 2 all_goals refine zW ?_
 all_goals (
 iterate 2 refine zW ?_
 refine jan rfl jcm ?_
 refine xP ?_;exact rfl)
theorem jmk(lo hi:List Mem)(hp:PairOK lo hi)(u:Nat)(hu:u<2^lo.length):C0 195 [cv lo,cv hi,.i u] (.i 0):=by
 refine xI Tryz.func195 Tryz.call195 λhcap=>?_;have hl1:=hp.len;have hl2:=hp.len2;have h10l:=jaC (n:=lo.length) zo;have hpl:0<2^lo.length:=Nat.pow_pos zo;have hml:(lo.map mv).length=lo.length:=by simp
 have hmh:(hi.map mv).length=hi.length:=by simp
 have hsl:=jbS hp.vl;have hsh:=jbS hp.vh;refine xX λb3=>?_;refine zBx λb4=>?_;refine xA (jwW lo hi hp) ?_;iterate 9 refine zW ?_
 refine jan rfl jcm ?_;iterate 8 refine zW ?_
 iterate 2 all_goals refine zW ?_
 all_goals (refine zY ?_;refine jaa zRc (jmZ lo zo) rfl rfl ?_)
 iterate 2 all_goals refine zW ?_
 all_goals (
 iterate 2 refine zW ?_
 refine jan rfl jcm ?_
 refine xP ?_;exact rfl)
theorem jm6(c:List Mem)(hv:validC c=0)(u:Nat)(hu:u<2^c.length):C0 196 [cv c,.i u] (.tup [.b (holdsV (delC c u)).1,.i 0]):=by
 refine xI Tryz.func196 Tryz.call196 λhcap=>?_;have hcl:=jiH hv;have h10:=jaC hcl;have hsz:=jbS hv;have hds:∀m∈delC c u,sizeT m.t<=200+1:=jq2 hsz;refine xX λb2=>?_;refine xA (rvl hv) ?_;iterate 9 refine zW ?_
 refine jan rfl jcm ?_;refine xA (jrC c hcl u hu) ?_;iterate 9 refine zW ?_
 refine jan rfl jcm ?_;refine xA (jrc c hcl u zo (λm hm=>by have:=hsz m hm;omega)) ?_;refine xA (jqb (delC c u) (λm hm=>by have:=hds m hm;omega)) ?_;refine xP ?_;exact rfl
theorem juJ(hc:c.length<=4)(h:(pairC c s).2.2=true):(holdsV (delC c s)).1=false:=by
 have t:=jgl hc h;have hp:=jaC (show c.length<=10 by omega);have hd:=dlen c s;have han:=t.an;have hbn:=t.bn
 have hi:interB (delC c s)=false:=by
  cases e:interB (delC c s) with
  | false=>rfl
  | true =>
   have h1:=jiu.1 e (pairC c s).1 (by rw[hd];exact han) t.qa;refine qp h1 (jpJ (q:=(pairC c s).2.1) (jzV zo) zo t.qb (λi hi=>?_));have h2:=jbc (by omega:(pairC c s).2.1<1024) hi;rw[jmJ zo zo]
   have h3:(pairC c s).1.testBit i=false:=by
    cases e2:(pairC c s).1.testBit i with
    | false=>rfl
    | true =>
     have:=congrArg (λz=>z.testBit i) t.dis;simp only[Nat.testBit_and,Nat.zero_testBit,e2,hi] at this;cases this
   have h4:i<(delC c s).length:=by
    refine zi λhn=>?_;have:=Nat.testBit_lt_two_pow (qA hbn (Nat.pow_le_pow_right zo (show c.length<=i by omega)));rw[hi] at this;cases this
   rw[h3,qg h4];rfl
 unfold holdsV;split
 ·exact hi
 ·rfl
theorem OKA.pair(h:OKA c)(h1:1<=c.length):PairOK c c:=⟨h.ok,h.ok,⟨h1,by have:=h.len;omega⟩,rfl,rfl,λk a b ha hb s hs=>by rw[ha] at hb;cases hb;exact hs⟩
structure DW(c:List Mem)(s:Nat)(w:Wld):Prop where
 wi:WI w
 ck:checkW w=true
 trs:w.trs=c.map (λm=>[m.t])
 ill:w.ill=(s:Int)
 stop:∀(i:Nat) p,w.nodes[i]?=some p->p.stopped=false
theorem jzy(h:w.trs=c.map (λm=>[m.t])):w.trs.map trv=c.map (λm=>D.sl 3 [av m.t]):=by
 rw[h,List.map_map];refine List.map_congr_left λm _=>?_;show D.sl 3 (avs [m.t])=_;rw[jcU];rfl
theorem div0:divV w ((0:Nat):Int)=[]:=by
 unfold divV;refine jlX _ λa _ b _=>?_;unfold divB;rw[show (((0:Nat):Int)).toNat=0 from rfl,Nat.zero_testBit,qB,qy]
theorem jue(c:List Mem)(hok:OKA c)(h1:1<=c.length)(u:Nat)(hu:u<2^c.length)(hH:(holdsV (delC c u)).1=false):C0 156 [cv c,cv c,.i u] (.tup [.i ((2^c.length - 1:Nat):Int),.i 0]):=by
 refine xI Tryz.func156 Tryz.call156 λhcap=>?_;refine xX λb3=>?_;refine zBx λb4=>?_;refine xA (jmk c c (hok.pair h1) u hu) ?_;iterate 9 refine zW ?_
 refine jan rfl jcm ?_;refine xA (jmZ c hok.l10) ?_;refine xA (((jm6 c hok.ok u hu).is (by rw[hH]))) ?_;iterate 13 refine zW ?_
 refine jbx rfl jcm ?_;refine xP ?_;exact rfl
theorem jwL(c:List Mem)(hok:OKA c)(h1:1<=c.length)(u:Nat)(hu:u<2^c.length)(hH:(holdsV (delC c u)).1=false):C0 121 [cv c,cv c,.i u] (.tup [.i 0,.i 0]):=by
 refine xI Tryz.func121 Tryz.call121 λhcap=>?_;have hpw:=jsJ hok.len;refine xX λb3=>?_;refine zBx λb4=>?_;refine xA (jue c hok h1 u hu hH) ?_;iterate 14 refine zW ?_
 refine jan rfl jcm ?_;refine xA (jmZ c hok.l10) ?_;refine zW ?_;refine zP (jld (jem rfl rfl rfl) (d':=.i 0) (congrArg D.i (by rw[Int.sub_self];rfl))) ?_;refine xP ?_;exact rfl
theorem jvq(c:List Mem)(s:Nat)(w:Wld)(hw:DW c s w):C0 122 [wv w] (.i s):=by
 refine xI Tryz.func122 Tryz.call122 λhcap=>?_;have hml:(w.nodes.map ptv).length=w.nodes.length:=by simp
 have hwl:=hw.wi.len;refine xX λb1=>?_;refine xA (((jco w hw.wi).is (by rw[hw.ck]))) ?_;iterate 3 refine zW ?_
 refine jan rfl jcm ?_;iterate 3 refine zW ?_
 rw[hw.ill];refine xN λ_=>?_;iterate 4 refine zW ?_
 refine jah [12,13] [.box b1 _ _] (λ(i:Nat) r=>(3,.i (s:Int))::(14,.i (i:Int))::r) (λi r=>r) (λi=>i<=w.nodes.length) (λi=>w.nodes.length - i) (0) zRc zo (zWk) ?_;intro i hi;refine xC ?_ ?_<;>intro hc
 ·(
 have hlt:=qc hc;obtain⟨y,hy,hd⟩:=jab (l:=w.nodes) (k:=i) zo;have hy':=jad ptv hy;have hst:=hw.stop i y hy;refine xL λb5=>?_;iterate 10 refine zW ?_
 refine jan rfl (by rw[hst]) ?_;iterate 8 refine zW ?_
 refine⟨i+1,by omega,by omega,zWk⟩)
 ·refine xP ?_;exact rfl
theorem jpt(c:List Mem)(hok:OKA c)(s:Nat)(w:Wld)(hw:DW c s w):C0 120 [wv w] (.tup [cv c,cv c,.i 0]):=by
 refine xI Tryz.func120 Tryz.call120 λhcap=>?_;have htr:=jzy hw.trs;refine xX λb1=>?_;refine zAl λb2=>?_;refine zAl λb3=>?_;refine xA (((jco w hw.wi).is (by rw[hw.ck]))) ?_;iterate 3 refine zW ?_
 refine jan rfl jcm ?_;iterate 3 refine zW ?_
 rw[htr];refine xA (jvs c hok) ?_;refine xL λb5=>?_;iterate 11 refine zW ?_
 refine jan rfl jcm ?_;refine xA (jtE c hok) ?_;refine xL λb7=>?_;iterate 11 refine zW ?_
 refine jan rfl jcm ?_;iterate 3 refine zW ?_
 refine zDr [.box b3 _ _,.box b2 _ _] ?_;refine zT 0 ?_;refine zT 1 ?_;refine zOn 2 ?_;iterate 2 refine zW ?_
 refine zOn 3 ?_;iterate 2 refine zW ?_
 refine zT 4 ?_;refine zW ?_
 all_goals (
 refine xP ?_;exact rfl)
theorem jna(c:List Mem)(hok:OKA c)(h1:1<=c.length)(s:Nat)(hs:s<2^c.length)(hH:(holdsV (delC c s)).1=false)(w:Wld)(hw:DW c s w):C0 80 [wv w] (.tup [.i 0,.i 0]):=by
 refine xI Tryz.func80 Tryz.call80 λhcap=>?_;refine xX λb1=>?_;refine xA (jpt c hok s w hw) ?_;refine xL λb4=>?_;refine zAl λb5=>?_;iterate 12 refine zW ?_
 refine jan rfl jcm ?_;iterate 3 refine zW ?_
 refine zDr [] ?_;refine zT 0 ?_;refine zT 1 ?_;refine zT 2 ?_;refine zOn 3 ?_;refine xA (jvq c s w hw) ?_;refine zW ?_;refine zOn 4 ?_;refine xA (jwL c hok h1 s hs hH) ?_;refine zW ?_;refine zT 5 ?_;refine zT 6 ?_;refine zT 7 ?_;refine zT 8 ?_;refine zW ?_
 all_goals (
 refine xP ?_;exact rfl)
theorem jvb(c:List Mem)(hok:OKA c)(h1:1<=c.length)(s:Nat)(hs:s<2^c.length)(hH:(holdsV (delC c s)).1=false)(w:Wld)(hw:DW c s w):C0 26 [wv w] (.b true):=by
 refine xI Tryz.func26 Tryz.call26 λhcap=>?_;refine xX λb1=>?_;refine xA (jna c hok h1 s hs hH w hw) ?_;iterate 12 refine zW ?_
 iterate 2 all_goals refine zW ?_
 all_goals (refine zY ?_;refine jaa zRc (((jeM w hw.wi 0 zo).is (by rw[div0]))) rfl rfl ?_)
 all_goals (refine zY ?_;(first | refine zLn λ_=>?_ | refine zW ?_))
 iterate 3 all_goals refine zW ?_
 all_goals (
 refine xP ?_;exact rfl)
def bitsOf(l:Nat):List Nat:=(List.range 10).filter λi=>l.testBit i
theorem jbB(hl:l<1024):i∈bitsOf l↔l.testBit i=true:=by
 unfold bitsOf;rw[List.mem_filter,List.mem_range];exact⟨λh=>h.2,λh=>⟨jbc hl h,h⟩⟩
theorem jiR(l:Nat):(bitsOf l).Nodup:=List.nodup_range.filter _
theorem jep(l:Nat):(bitsOf l).length<=10:=by
 have:=List.length_filter_le (λi=>l.testBit i) (List.range 10);rw[List.length_range] at this;exact this
theorem jcF(hl:l<1024):nodesOf (l:Int)=(bitsOf l).map λi:Nat=>(i:Int):=by
 unfold nodesOf upTo bitsOf;rw[List.filter_map]
 have e:(List.range 10).filter ((λk=>has (l:Int) k) ∘ Int.ofNat)=(List.range 10).filter (λi=>l.testBit i):=by
  apply List.filter_congr;intro i hi;have hi:=List.mem_range.1 hi
  have key:has (l:Int) (Int.ofNat i)=l.testBit i:=by
   rw[show Int.ofNat i=(i:Int) from rfl,Bool.eq_iff_iff,jaX hl,qq];exact⟨λh=>h.2.2,λh=>⟨by omega,by omega,h⟩⟩
  rw[Function.comp_apply];exact key
 rw[e];rfl
def lzOf(s l r:Nat):List (Nat × Nat):=(bitsOf s).flatMap λj=>(bitsOf l).map (λk=>(j,k))++(bitsOf r).map (λk=>(j,k))
theorem jzz{r:Nat}(hs:s<1024)(hl:l<1024)(hr:r<1024)(x:Nat × Nat):x∈lzOf s l r↔s.testBit x.1=true/\onB l r x.2=true:=by
 unfold lzOf;simp only[List.mem_flatMap,List.mem_append,List.mem_map,jbt];constructor
 ·(
 rintro⟨j,hj,⟨k,hk,rfl⟩ | ⟨k,hk,rfl⟩⟩
 ·exact⟨(jbB hs).1 hj,.inl ((jbB hl).1 hk)⟩
 ·exact⟨(jbB hs).1 hj,.inr ((jbB hr).1 hk)⟩)
 ·(
 rintro⟨h1,h2 | h2⟩
 ·exact⟨x.1,(jbB hs).2 h1,.inl ⟨x.2,(jbB hl).2 h2,rfl⟩⟩
 ·exact⟨x.1,(jbB hs).2 h1,.inr ⟨x.2,(jbB hr).2 h2,rfl⟩⟩)
theorem jzT(s l r:Nat):(lzOf s l r).length<=200:=by
 have key:∀q:List Nat,(q.flatMap λj=>(bitsOf l).map (λk=>(j,k))++(bitsOf r).map (λk=>(j,k))).length<=20 * q.length:=λq=>by
  induction q with
  | nil=>simp
  | cons j t ih =>
   have h1:=jep l;have h2:=jep r;simp only[List.flatMap_cons,qm,qw,qi] at ih ⊢;omega
 have h1:=key (bitsOf s);have h2:=jep s;unfold lzOf;omega
def scr(ps:List Int)(s l r:Nat):List Sp:=partSp ps::(((bitsOf l).map λi:Nat=>prefSp sa i)++(((bitsOf r).map λi:Nat=>prefSp sb i)++((lzOf s l r).map λx=>lieSp (valB l sa sb x.2) x.1 x.2)))++[tickSp]
theorem jxC(ps:List Int)(s l r:Nat):(scr ps s l r).length=2+(bitsOf l).length+(bitsOf r).length+(lzOf s l r).length:=by
 unfold scr;simp only[qi,qm,qw,qu];omega
theorem jwi{ps:List Int}{r:Nat}:∀x∈scr ps s l r,SB x/\¬x.kind=3:=by
 intro x hx;unfold scr at hx;simp only[List.mem_append,List.mem_cons,List.mem_map,qv,or_false] at hx;rcases hx with(rfl | ⟨i,_,rfl⟩ | ⟨i,_,rfl⟩ | ⟨i,_,rfl⟩) | rfl
 ·exact⟨ji8 _ rfl,by show ¬(6:Int)=3;omega⟩
 ·exact⟨ji8 _ rfl,by show ¬(8:Int)=3;omega⟩
 ·exact⟨ji8 _ rfl,by show ¬(8:Int)=3;omega⟩
 ·exact⟨⟨jjX,by show sizeT (.mk 1 [(i.1:Int)] [])<=100000;rw[jjQ];simp[sizeL]⟩,by show ¬(5:Int)=3;omega⟩
 ·exact⟨ji8 _ rfl,by show ¬(2:Int)=3;omega⟩
theorem jw9{r:Nat}(hs:s<1024)(hl:l<1024)(hr:r<1024)(hd:∀i:Nat,l.testBit i=true->r.testBit i=false):(liesL l r (nodesOf (s:Int))).map stv=((lzOf s l r).map λx=>lieSp (valB l sa sb x.2) x.1 x.2).map spv:=by
 have hA:∀j:Nat,(lieA l j).map stv=((bitsOf l).map λk=>lieSp (valB l sa sb k) j k).map spv:=λj=>by
  unfold lieA;rw[jcF hl,List.map_map,List.map_map,List.map_map];refine List.map_congr_left λk hk=>?_;have hv:valB l sa sb k=sa:=by unfold valB;rw[qf ((jbB hl).1 hk)]
  show stv (lieS j k 1 sa)=spv (lieSp (valB l sa sb k) j k);rw[hv];rfl
 have hB:∀j:Nat,(lieB r j).map stv=((bitsOf r).map λk=>lieSp (valB l sa sb k) j k).map spv:=λj=>by
  unfold lieB;rw[jcF hr,List.map_map,List.map_map,List.map_map];refine List.map_congr_left λk hk=>?_
  have hv:valB l sa sb k=sb:=by
   unfold valB;rw[qe (λe=>by have:=hd k e;rw[(jbB hr).1 hk] at this;cases this)]
  show stv (lieS j k 1 sb)=spv (lieSp (valB l sa sb k) j k);rw[hv];rfl
 rw[jcF hs];unfold lzOf liesL
 generalize bitsOf s=q
 induction q with
 | nil=>rfl
 | cons j t ih =>
  simp only[List.map_cons,List.flatMap_cons,List.map_append,List.map_map] at ih hA hB ⊢;rw[ih,hA,hB];rfl
theorem jv6(hok:OKA c)(hs:s<2^c.length)(hp:(pairC c s).2.2=true):(splitE c s).1.map stv=(scr (partsL c s (pairC c s).1 (pairC c s).2.1) s (pairC c s).1 (pairC c s).2.1).map spv:=by
 have t:=jgl hok.len hp;have hpw:=jaC hok.l10;have han:=t.an;have hbn:=t.bn;rw[jjF (jcI hok hs) hp];unfold scr headL prefL
 rw[List.map_append,List.map_append,jw9 zo zo zo (λi hi=>by
  have:=congrArg (λz=>z.testBit i) t.dis;simp only[Nat.testBit_and,Nat.zero_testBit,hi,qx] at this
  exact this),jcF (by omega:(pairC c s).1<1024),jcF (by omega:(pairC c s).2.1<1024)]
 simp only[List.map_append,List.map_cons,List.map_map,List.map_nil,List.cons_append,List.nil_append,List.append_assoc];rfl
theorem juR(hok:OKA c)(hs:s<2^c.length)(h:¬(splitE c s).2=0):(splitE c s).2=11/\(pairC c s).2.2=false:=by
 cases hp:(pairC c s).2.2 with
 | true=>rw[jjF (jcI hok hs) hp] at h;exact qp rfl h
 | false=>rw[jfd (jcI hok hs) hp];exact⟨rfl,rfl⟩
theorem jxW(hok:OKA c)(hs:s<2^c.length)(h:(splitE c s).2=0):(pairC c s).2.2=true:=by
 cases hp:(pairC c s).2.2 with
 | true=>rfl
 | false=>rw[jfd (jcI hok hs) hp] at h;exact qp h zd
theorem jmI(hok:OKA c)(h1:1<=c.length)(hs:s<2^c.length)(hp:(pairC c s).2.2=true):∃w x y,runV (startW c s) (scr (partsL c s (pairC c s).1 (pairC c s).2.1) s (pairC c s).1 (pairC c s).2.1)=(w,(scr (partsL c s (pairC c s).1 (pairC c s).2.1) s (pairC c s).1 (pairC c s).2.1).length,0)/\DW c s w/\divV w 1023=[x,y]/\¬x.val=y.val:=by
 have t:=jgl hok.len hp;have hpw:=jaC hok.l10;have h4:=hok.len;have ha1:=t.a1;have han:=t.an;have hb1:=t.b1;have hbn:=t.bn;have hc:=hok.cfg h1
 have hrx:∀i:Nat,(restC c s (pairC c s).1 (pairC c s).2.1).testBit i=true->i<c.length:=λi hi=>by
  unfold restC at hi;rw[Nat.testBit_and,Nat.testBit_two_pow_sub_one,qh] at hi;exact qc hi.1
 have hor:(pairC c s).1|||(pairC c s).2.1|||s<1024:=Nat.or_lt_two_pow (n:=10) (Nat.or_lt_two_pow (n:=10) zo zo) zo
 have hspl:Spl c s (pairC c s).1 (pairC c s).2.1 sa sb (partsL c s (pairC c s).1 (pairC c s).2.1):=by
  refine spl_of (x:=restC c s (pairC c s).1 (pairC c s).2.1) hc hs t zd zd ?_ (λi hi=>?_) hrx rfl
  ·refine Nat.lt_of_le_of_lt (Nat.and_le_left (n:=2^c.length - 1)) zo
  ·unfold restC
   rw[Nat.testBit_and,Nat.testBit_two_pow_sub_one,jgG hor zo,qg hi,qx,Nat.testBit_or,Nat.testBit_or];cases s.testBit i<;>cases (pairC c s).1.testBit i<;>cases (pairC c s).2.1.testBit i<;>simp
 have hex:∀z:Nat,1<=z->∃i,z.testBit i=true:=λz hz=>by
  refine zi λhn=>?_
  have:z=0:=by
   apply Nat.eq_of_testBit_eq;intro i;rw[Nat.zero_testBit];cases e:z.testBit i with
   | false=>rfl
   | true=>exact qp ⟨i,e⟩ hn
  omega
 have q1:=jep (pairC c s).1;have q2:=jep (pairC c s).2.1;have q3:=jzT s (pairC c s).1 (pairC c s).2.1;obtain⟨w,r1,r2,r3,r4,r5,r6,x,y,r7,r8⟩:=jxT hspl h4 zd (hex _ ha1) (hex _ hb1) (bitsOf (pairC c s).1) (bitsOf (pairC c s).2.1) (lzOf s (pairC c s).1 (pairC c s).2.1) (λi=>jbB zo) (λi=>jbB zo) (jzz zo zo zo) (jiR _) (jiR _) zo;have h5:=jwP (l:=scr (partsL c s (pairC c s).1 (pairC c s).2.1) s (pairC c s).1 (pairC c s).2.1) (jg5 (c:=c) hok.l10 (λm hm=>by have:=hok.size m hm;omega) (ill:=(s:Int)) ⟨by omega,by exact_mod_cast hs⟩) (λx hx=>(jwi x hx).1);have e:runV (startW c s) (scr (partsL c s (pairC c s).1 (pairC c s).2.1) s (pairC c s).1 (pairC c s).2.1)=(w,(scr (partsL c s (pairC c s).1 (pairC c s).2.1) s (pairC c s).1 (pairC c s).2.1).length,0):=by rw[jxC];exact r1
 rw[e] at h5;exact⟨w,x,y,e,⟨h5,r2,r3,r4,r6⟩,r7,r8⟩
theorem juE(hok:OKA c)(h1:1<=c.length)(hs:s<2^c.length)(hp:(pairC c s).2.2=true)(h:runV (startW c s) (scr (partsL c s (pairC c s).1 (pairC c s).2.1) s (pairC c s).1 (pairC c s).2.1)=(w,n,0)):C0 19 [cv c,.i s,.sl 34 ((splitE c s).1.map stv)] (.tup [wv w,.i (n:Nat),.i 0]):=by
 rw[jv6 hok hs hp];have:=ju7 c ⟨h1,hok.l10⟩ (λm hm=>by have:=hok.size m hm;omega) hok.ok hok.decl (s:Int) ⟨by omega,by exact_mod_cast hs⟩ (scr (partsL c s (pairC c s).1 (pairC c s).2.1) s (pairC c s).1 (pairC c s).2.1) jwi
 rwa [h] at this
theorem jup(c:List Mem)(hok:OKA c)(n:Nat)(hn:n<2^c.length):C0 25 [cv c,.i n] (.tup [.i ((pairC c n).1:Nat),.i ((pairC c n).2.1:Nat),.b (pairC c n).2.2]):=by
 have h:=jqD c hok.lt n
 rwa [jjK (jcI hok hn)] at h
theorem jt3(w:Wld)(hW:WI w){x y:Otc}(h:divV w 1023=[x,y]):C0 16 [wv w] (.sl 3 [otv x,otv y]):=by
 have:=ji9 w hW
 rwa [h] at this
theorem jAl(hok:OKA c)(hs:s<2^c.length)(hp:(pairC c s).2.2=true):decide (((scr (partsL c s (pairC c s).1 (pairC c s).2.1) s (pairC c s).1 (pairC c s).2.1).length:Int)=(((splitE c s).1.map stv).length:Int))=true:=by
 rw[jv6 hok hs hp,qw];exact qg rfl
theorem jm8{Ps:Value->World->Prop}(l:List Int)(k:Nat)(hk:k<=255):Con (some Ps) Tryz.prog 6 [.sl 1 (l.map .i),.v (.int .u8 k)] [] (Is (.b true) []):=by
 refine xI Tryz.func6 Tryz.call6 λhcap=>?_;refine xB ((jtX _).main) ?_;rintro _ _ ⟨b19,rfl,rfl⟩;iterate 6 refine zW ?_
 refine jas zRc ((jiL _ _ _ 2 4 zo).main) jaE rfl rfl ?_;rintro _ _ ⟨r21,a21,rfl,hr21,rfl⟩;obtain⟨n,rfl⟩:=qD (show 0<=r21 by omega);have hn:1<=n/\n<=4:=zo;refine xB ((jmh _ n _ hn _).main) ?_;rintro _ _ ⟨c,a24,rfl,⟨hok,hcl⟩,rfl⟩;subst hcl;have hp:=jsJ hok.len;refine zAl λb7=>?_;iterate 6 refine zW ?_
 refine zP (jkk rfl rfl rfl zo) ?_;refine zW ?_;refine zP (jc4 rfl rfl rfl zo) ?_;refine zP (jaZ (p:=1) rfl rfl rfl zo zo) ?_;refine zP (jyl rfl rfl zo) ?_;iterate 4 refine zW ?_
 obtain⟨s,hse,hs⟩:=jzW k c.length;rw[hse];refine xA ((jp7 c hok.lt s).main) ?_;refine xA ((jup c hok s hs).main) ?_;refine xC ?_ ?_<;>intro hc
 ·(
 have hc0:=jaf hc;have hp0:=juR hok hs hc0;rw[hp0.1,hp0.2];iterate 5 refine zW ?_
 iterate 4 all_goals refine zW ?_
 all_goals (refine zY ?_;refine jaa zRc (jhW) rfl rfl ?_)
 iterate 2 all_goals refine zW ?_
 all_goals (
 refine xP ?_;exact rfl))
 ·(
 have hp0:=jxW hok hs (jac hc);obtain⟨w9,x9,y9,hr9,hw9,hd9,hxy⟩:=jmI hok zo hs hp0;rw[hp0];refine xA ((juE hok zo hs hp0 hr9).main) ?_;refine xL λb14=>?_;refine xA ((jt3 w9 hw9.wi hd9).main) ?_;iterate 4 refine zW ?_
 refine zDr [] ?_;refine zT 0 ?_;refine zT 1 ?_;refine jai 1 rfl (λhg=>?_) λhg=>?_
 rotate_left
 case' _ =>(
 exact xQ hg)
 rotate_right
 case' _ =>(
 refine zT 2 ?_;refine zT 3 ?_;refine zT 4 ?_;refine zT 5 ?_;refine jai 5 rfl (λhg=>?_) λhg=>?_
 rotate_left
 case' _ =>(
 exact xQ hg)
 rotate_right
 case' _ =>(
 refine zT 6 ?_;refine zT 7 ?_;refine zT 8 ?_;refine jam 9 rfl zGd zKr zKr zKr (AP.ar (jqI (jsU rfl rfl rfl) (d':=.b true) (congrArg D.b (jAl hok hs hp0)))) rfl rfl ?_;refine zT 10 ?_;refine zT 11 ?_;refine jai 11 rfl (λhg=>?_) λhg=>?_
 rotate_left
 case' _ =>(
 exact xQ hg)
 rotate_right
 case' _ =>(
 refine zT 12 ?_;refine zT 13 ?_;refine jam 14 rfl zGd zKr zKr zKr (AP.ar (jqI (jsU rfl rfl rfl) (d':=.b true) rfl)) rfl rfl ?_;refine zT 15 ?_;refine zT 16 ?_;refine jai 16 rfl (λhg=>?_) λhg=>?_
 rotate_left
 case' _ =>(
 exact xQ hg)
 rotate_right
 case' _ =>(
 refine zT 17 ?_;refine jam 18 rfl zGd zKr zKr zKr (AP.ar (jap (k:=0) rfl rfl rfl rfl zd rfl rfl)) rfl rfl ?_;refine zT 19 ?_;refine zT 20 ?_;refine zT 21 ?_;refine jam 22 rfl zGd zKr zKr zKr (AP.ar (jap (k:=1) rfl rfl rfl rfl zd rfl rfl)) rfl rfl ?_;refine zT 23 ?_;refine zT 24 ?_;refine jam 25 rfl zGd zKr zKr zKr (AP.ar (jqI (jtb rfl rfl rfl) (d':=.b true) (congrArg D.b (by simp[hxy])))) rfl rfl ?_;refine zT 26 ?_;refine zT 27 ?_;refine jai 27 rfl (λhg=>?_) λhg=>?_
 rotate_left
 case' _ =>(
 exact xQ hg)
 rotate_right
 case' _ =>(
 refine zT 28 ?_;refine zOn 29 ?_;refine xA ((jvb c hok zo s hs (juJ hok.len hp0) w9 hw9).main) ?_;refine zW ?_;refine zT 30 ?_;refine zT 31 ?_;refine jai 31 rfl (λhg=>?_) λhg=>?_
 rotate_left
 case' _ =>(
 exact xQ hg)
 rotate_right
 case' _ =>(
 refine zOn 32 ?_;refine xA (jhW) ?_;refine zW ?_;refine zT 33 ?_;refine zT 34 ?_
 refine zW ?_))))))
 all_goals (
 refine xP ?_;exact rfl))
end Go.Proofs.YtgmpjpaekpefdaaGreat
