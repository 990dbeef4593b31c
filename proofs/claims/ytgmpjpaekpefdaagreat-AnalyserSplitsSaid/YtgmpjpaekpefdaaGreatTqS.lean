/- What the functions of the thresholds compute, in plain Lean, and the laws of that. No condition beyond what each theorem says. -/
import Derived.Test.YtgmpjpaekpefdaaGreatAxS
import Derived.KernelRfl
namespace Go.Tq
set_option linter.unusedVariables false
open Go Go.Av
variable{k i:Nat}{now slot number round ill d lo hi:Int}{f g:Nat->Nat}{lh:Int × Int}
inductive Trust where
 | mk (th:Int) (nodes:List Int) (inner:List Trust)
variable{P:Nat->Trust->Prop}
def Trust.th:Trust->Int | .mk th _ _=>th
def Trust.nodes:Trust->List Int | .mk _ ns _=>ns
def Trust.inner:Trust->List Trust | .mk _ _ is=>is
mutual
def av0:Trust->D
 | .mk th ns is=>.agg [.i th,.sl 1 (ns.map .i),.sl 3 (avs is)]
def avs:List Trust->List D
 | []=>[]
 | t::r=>av0 t::avs r
end
def av(t:Trust):D:=.agg [.i t.th,.sl 1 (t.nodes.map .i),.sl 3 (avs t.inner)]
theorem jzQ(t:Trust):av0 t=av t:=by cases t;rfl
theorem jjv(t:Trust)(r:List Trust):avs (t::r)=av t::avs r:=by rw[<-jzQ];rfl
theorem jcU(l:List Trust):avs l=l.map av:=by
 induction l with
 | nil=>rfl
 | cons t r ih=>rw[jjv,ih,List.map_cons]
theorem jaQ(l:List Trust):(avs l).length=l.length:=by rw[jcU];simp
theorem jbo{l:List Trust}{t:Trust}(h:l[k]?=some t):(avs l)[k]?=some (av t):=by rw[jcU];simp[h]
theorem jqk(l r:List Trust):avs (l++r)=avs l++avs r:=by simp[jcU]
mutual
theorem Trust.ind0{motive:Trust->Prop}(h:∀th ns is,(∀x∈is,motive x)->motive (.mk th ns is)):∀t,motive t
 | .mk th ns is=>h th ns is (Trust.indL h is)
theorem Trust.indL{motive:Trust->Prop}(h:∀th ns is,(∀x∈is,motive x)->motive (.mk th ns is)):∀(l:List Trust),∀x∈l,motive x
 | []=>λx hx=>qp hx qv
 | t::r=>λx hx=>(zf hx).elim (λe=>e ▸ Trust.ind0 h t) (λh'=>Trust.indL h r x h')
end
theorem Trust.ind{motive:Trust->Prop}(h:∀t,(∀x∈t.inner,motive x)->motive t):∀t,motive t :=
 Trust.ind0 λth ns is ih=>h (.mk th ns is) ih
def valid(s:Int):Bool:=decide (0<=s)&&decide (s<1024)
def has(s k:Int):Bool:=valid s&&(decide (0<=k)&&(decide (k<10)&&s.toNat.testBit k.toNat))
def cnt(p:Int->Bool):List Int->Int
 | []=>0
 | x::r=>(if p x then 1 else 0)+cnt p r
mutual
def sat0(s:Int):Trust->Bool
 | .mk th ns is=>valid s&&decide (th<=cnt (has s) ns+cntI s is)
def cntI(s:Int):List Trust->Int
 | []=>0
 | t::r=>(if sat0 s t then 1 else 0)+cntI s r
end
def sat(s:Int)(t:Trust):Bool:=valid s&&decide (t.th<=cnt (has s) t.nodes+cntI s t.inner)
theorem jxS(s:Int)(t:Trust):sat0 s t=sat s t:=by cases t;rfl
def blk(s:Int)(t:Trust):Bool:=valid s&&!sat (1023 - s) t
theorem jcZ(p:Int->Bool)(x:Int)(r:List Int):cnt p (x::r)=(if p x then 1 else 0)+cnt p r:=rfl
theorem jcD(s:Int)(x:Trust)(r:List Trust):cntI s (x::r)=(if sat s x then 1 else 0)+cntI s r:=by rw[<-jxS];rfl
theorem jpL(s k:Nat):(s&&&2^k≠0)↔s.testBit k=true:=by
 constructor
 ·intro h
  cases hb:s.testBit k with
  | true=>rfl
  | false =>
   exfalso;refine h (Nat.eq_of_testBit_eq λi=>?_);rw[Nat.testBit_and,Nat.testBit_two_pow,Nat.zero_testBit]
   by_cases e:k=i
   ·subst e;simp[hb]
   ·simp[e]
 ·intro h h0
  have:=congrArg (·.testBit k) h0;simp[Nat.testBit_and,h] at this
theorem jtd(x:Int){n:Int}(hn:0<n):-n<x.tmod n/\x.tmod n<n:=by
 refine⟨?_,Int.tmod_lt_of_pos x hn⟩;rcases Int.le_total 0 x with h | h
 ·have:=Int.tmod_nonneg n h
  omega
 ·have h3:(-x).tmod n=-(x.tmod n):=Int.neg_tmod x n
  have h4:=Int.tmod_lt_of_pos (-x) hn;omega
mutual
def size0:Trust->Nat
 | .mk _ ns is=>ns.length+is.length+sizeL is
def sizeL:List Trust->Nat
 | []=>0
 | t::r=>size0 t+sizeL r
end
def sizeT(t:Trust):Nat:=t.nodes.length+t.inner.length+sizeL t.inner
theorem jvF(t:Trust):size0 t=sizeT t:=by cases t;rfl
theorem jbd(t:Trust)(r:List Trust):sizeL (t::r)=sizeT t+sizeL r:=by rw[<-jvF];rfl
theorem jbM:∀{l:List Trust}{x:Trust},x∈l->sizeT x<=sizeL l
 | [],x,h=>qp h qv
 | t::r,x,h=>by
  rw[jbd];rcases zf h with rfl | h
  ·omega
  ·have:=jbM h;omega
mutual
def depth0:Trust->Nat
 | .mk _ _ is=>depthL is+1
def depthL:List Trust->Nat
 | []=>0
 | t::r=>max (depth0 t) (depthL r)
end
def depthT(t:Trust):Nat:=depthL t.inner+1
theorem jrR(t:Trust):depth0 t=depthT t:=by cases t;rfl
theorem jcT(t:Trust)(r:List Trust):depthL (t::r)=max (depthT t) (depthL r):=by rw[<-jrR];rfl
theorem jdj:∀(l:List Trust),(∀x∈l,depthT x<=sizeT x+1)->depthL l<=l.length+sizeL l
 | [],_=>by simp[depthL]
 | t::r,h=>by
  rw[jcT,jbd,qi];have h1:=h t (za);have h2:=jdj r (λx hx=>h x (qj _ hx));omega
theorem jeC(t:Trust):depthT t<=sizeT t+1:=by
 induction t using Trust.ind with
 | _ t ih =>
  have:=jdj t.inner ih;unfold depthT sizeT;omega
def ofGo(s:Nat):List Int->Int × Int
 | []=>(s,0)
 | k::r=>if k<0\/10<=k then (0,5) else if has s k=true then (0,6) else ofGo (s|||2^k.toNat) r
def badN(k:Int):Bool:=decide (k<0)||decide (10<=k)
mutual
def check0:Trust->Int
 | .mk th ns is=>if th<1\/(ns.length+is.length:Int)<th then 4 else if ns.any badN=true then 5 else if (ofGo 0 ns).2≠0 then (ofGo 0 ns).2 else checkL is
def checkL:List Trust->Int
 | []=>0
 | t::r=>if check0 t≠0 then check0 t else checkL r
end
def checkT(t:Trust):Int:=if t.th<1\/(t.nodes.length+t.inner.length:Int)<t.th then 4 else if t.nodes.any badN=true then 5 else if (ofGo 0 t.nodes).2≠0 then (ofGo 0 t.nodes).2 else checkL t.inner
theorem jsC(t:Trust):check0 t=checkT t:=by cases t;rfl
theorem jbC(t:Trust)(r:List Trust):checkL (t::r)=if checkT t≠0 then checkT t else checkL r:=by rw[<-jsC];rfl
def validT(t:Trust):Int:=if 4<depthT t\/200<sizeT t then 3 else checkT t
/- Every node of a trust, at all levels, is below n. -/
mutual
def nb0(n:Int):Trust->Prop
 | .mk _ ns is=>(∀k∈ns,0<=k/\k<n)/\nbL n is
def nbL(n:Int):List Trust->Prop
 | []=>True
 | t::r=>nb0 n t/\nbL n r
end
def nb(n:Int)(t:Trust):Prop:=(∀k∈t.nodes,0<=k/\k<n)/\nbL n t.inner
theorem jzi(n:Int)(t:Trust):nb0 n t=nb n t:=by cases t;rfl
theorem jvu(n:Int)(t:Trust)(r:List Trust):nbL n (t::r)=(nb n t/\nbL n r):=by rw[<-jzi];rfl
theorem jtF(n:Int)(l:List Trust):nbL n l↔∀x∈l,nb n x:=by
 induction l with
 | nil=>simp[nbL]
 | cons t r ih=>rw[jvu,ih];simp
def nd(k:Int):Bool:=decide (0<=k)&&decide (k<10)
def usesN(s:Nat):List Int->Nat
 | []=>s
 | k::r=>usesN (if nd k=true then s|||2^k.toNat else s) r
mutual
def uses0:Trust->Nat
 | .mk _ ns is=>usesL (usesN 0 ns) is
def usesL(s:Nat):List Trust->Nat
 | []=>s
 | t::r=>usesL (s|||uses0 t) r
end
def uses(t:Trust):Nat:=usesL (usesN 0 t.nodes) t.inner
theorem jvB(t:Trust):uses0 t=uses t:=by cases t;rfl
theorem jdP(s:Nat)(t:Trust)(r:List Trust):usesL s (t::r)=usesL (s|||uses t) r:=by rw[<-jvB];rfl
theorem joF:∀(l:List Int)(s:Nat),s<1024->usesN s l<1024
 | [],s,h=>h
 | k::r,s,h=>by
  simp only[usesN];refine joF r _ ?_;split
  ·rename_i h1
   have h2:0<=k/\k<10:=by simpa[nd] using h1
   exact Nat.or_lt_two_pow (n:=10) h (Nat.pow_lt_pow_right zo zo)
  ·exact h
theorem joW:∀(l:List Trust)(s:Nat),(∀x∈l,uses x<1024)->s<1024->usesL s l<1024
 | [],s,_,h=>h
 | t::r,s,hl,h=>by
  rw[jdP];exact joW r _ (λx hx=>hl x (qj _ hx)) (Nat.or_lt_two_pow (n:=10) h (hl t (za)))
theorem jfv(t:Trust):uses t<1024:=by
 induction t using Trust.ind with
 | _ t ih=>exact joW _ _ ih (joF _ _ zo)
mutual
def dual0:Trust->Trust
 | .mk th ns is=>.mk (IntKind.i64.wrap (ns.length+is.length+1 - th)) ns (dualL is)
def dualL:List Trust->List Trust
 | []=>[]
 | t::r=>dual0 t::dualL r
end
theorem jbr(q:List Int)(x:Int):q.map D.i++[D.i x]=(q++[x]).map D.i:=by simp
theorem jnT(q:List Trust)(x:Trust):avs q++[av x]=avs (q++[x]):=by rw[jqk,jjv];rfl
def upTo(n:Nat):List Int:=(List.range n).map Int.ofNat
theorem jvm(n:Nat):(upTo n).length=n:=by simp[upTo]
theorem jsl(n:Nat):upTo (n+1)=upTo n++[(n:Int)]:=by simp[upTo,List.range_succ]
def sub(a b:Int):Prop:=∀k,has a k=true->has b k=true
theorem jn8{p q:Int->Bool}(h:∀k,p k=true->q k=true):∀l,cnt p l<=cnt q l
 | []=>by simp[cnt]
 | x::r=>by
  have:=jn8 h r;simp only[jcZ];cases hp:p x with
  | true=>rw[h x hp];omega
  | false=>cases q x<;>simp<;>omega
theorem jk3{a b:Int}:∀(l:List Trust),(∀x∈l,sat a x=true->sat b x=true)->cntI a l<=cntI b l
 | [],_=>by simp[cntI]
 | x::r,h=>by
  have h2:=jk3 r λy hy=>h y (qj _ hy);have h1:=h x (za);simp only[jcD];cases hp:sat a x with
  | true=>rw[h1 hp];omega
  | false=>cases sat b x<;>simp<;>omega
theorem jnF{a b:Int}(hb:valid b=true)(h:sub a b):∀t,sat a t=true->sat b t=true:=by
 intro t
 induction t using Trust.ind with
 | _ t ih =>
  intro h1;unfold sat at h1 ⊢;rw[qh] at h1 ⊢;refine⟨hb,?_⟩;have h2:=qc h1.2;have h3:=jn8 (p:=has a) (q:=has b) h t.nodes;have h4:=jk3 t.inner ih;exact qg zo
theorem ja1{s:Int}:valid s=true↔0<=s/\s<1024:=by simp[valid]
theorem jaX{m:Nat}(hm:m<1024){k:Int}:has m k=true↔0<=k/\k<10/\m.testBit k.toNat=true:=by
 have:valid (m:Int)=true:=ja1.2 ⟨by omega,by omega⟩;simp[has,this]
theorem jfi{s k:Int}(h:has s k=true):valid s=true/\0<=k/\k<10/\s.toNat.testBit k.toNat=true:=by
 simp only[has,qh,qo] at h;exact⟨h.1,h.2.1,h.2.2.1,h.2.2.2⟩
theorem jiM:∀{l:List Trust}{x:Trust},checkL l=0->x∈l->checkT x=0
 | [],x,_,h=>qp h qv
 | t::r,x,h0,h=>by
  rw[jbC] at h0;split at h0
  ·omega
  ·rename_i h1
   rcases zf h with rfl | h
   ·omega
   ·exact jiM h0 h
structure Good(t:Trust):Prop where
 lo:1<=t.th
 hi:t.th<=t.nodes.length+t.inner.length
 nodes:∀k∈t.nodes,0<=k/\k<10
 inner:∀x∈t.inner,checkT x=0
theorem jhy{t:Trust}(h:checkT t=0):Good t:=by
 unfold checkT at h;split at h
 ·omega
 ·split at h
  ·omega
  ·split at h
   ·omega
   ·rename_i h1 h2 h3
    refine⟨by omega,by omega,λk hk=>?_,λx hx=>jiM h hx⟩
    have:badN k=false:=by
     cases hb:badN k with
     | false=>rfl
     | true=>exact qp (List.any_eq_true.2 ⟨k,hk,hb⟩) h2
    simp[badN] at this;omega
theorem jrK{p:Int->Bool}:∀(l:List Int),(∀k∈l,p k=true)->cnt p l=l.length
 | [],_=>rfl
 | x::r,h=>by
  rw[jcZ,h x (za),jrK r λk hk=>h k (qj _ hk),qi];simp;omega
theorem jnH{s:Int}:∀(l:List Trust),(∀k∈l,sat s k=true)->cntI s l=l.length
 | [],_=>rfl
 | x::r,h=>by
  rw[jcD,h x (za),jnH r λk hk=>h k (qj _ hk),qi];simp;omega
theorem jwR{k:Int}(h0:0<=k)(h1:k<10):has 1023 k=true:=by
 refine(jaX (m:=1023) zo).2 ⟨h0,h1,?_⟩;have:(1023:Nat)=2^10 - 1:=rfl;rw[this,Nat.testBit_two_pow_sub_one];simp;omega
theorem jnC(k:Int):has 0 k=false:=by
 cases h:has 0 k with
 | false=>rfl
 | true=>have:=jfi h;simp at this
theorem js0:∀t,checkT t=0->sat 1023 t=true:=by
 intro t
 induction t using Trust.ind with
 | _ t ih =>
  intro h;have g:=jhy h;unfold sat;rw[qh];refine⟨ja1.2 ⟨by omega,by omega⟩,qg ?_⟩;rw[jrK _ λk hk=>jwR (g.nodes k hk).1 (g.nodes k hk).2,jnH _ λx hx=>ih x hx (g.inner x hx)];exact g.hi
structure OKT(n:Nat)(t:Trust):Prop where
 nb:nb n t
 size:sizeT t<=100000
 ok:checkT t=0
 vd:validT t=0
theorem jhe{t:Trust}(h1:depthT t<=4)(h2:sizeT t<=200)(h:checkT t=0):validT t=0:=by
 unfold validT;rw[qe zo,h]
theorem jbA{t:Trust}(h:validT t=0):checkT t=0:=by
 unfold validT at h;split at h
 ·omega
 ·exact h
theorem jb2{t:Trust}(h:validT t=0):sizeT t<=200:=by
 unfold validT at h;split at h<;>omega
theorem jzS{n:Nat}{t:Trust}(h1:nb n t)(h:validT t=0):OKT n t:=⟨h1,by have:=jb2 h;omega,jbA h,h⟩
theorem jfx{k:Int}(h:0<=k/\k<10):checkT (.mk 1 [k] [])=0:=by
 have hb:badN k=false:=by simp[badN];omega
 have hh:has 0 k=false:=jnC k;have h1:¬(k<0\/10<=k):=by omega
 simp[checkT,Trust.th,Trust.nodes,Trust.inner,hb,ofGo,h1,hh,checkL]
theorem jsu:∀(l:List Int)(s:Nat),s<1024->l.Nodup->(∀k∈l,0<=k/\k<10)->(∀k∈l,s.testBit k.toNat=false)->(ofGo s l).2=0
 | [],s,_,_,_,_=>rfl
 | k::r,s,hs,hn,hk,hb=>by
  have h0:=hk k (za);have hkn:=List.nodup_cons.1 hn;have h1:¬(k<0\/10<=k):=by omega
  have h2:¬(has s k=true):=by
   intro h;have:=(jfi h).2.2.2;rw[qq,hb k (za)] at this;cases this
  simp only[ofGo,h1,h2,if_false];have hp:2^k.toNat<2^10:=Nat.pow_lt_pow_right zo zo;refine jsu r _ (Nat.or_lt_two_pow (n:=10) hs hp) hkn.2 (λx hx=>hk x (qj _ hx)) λx hx=>?_;have hx0:=hk x (qj _ hx)
  have hne:k.toNat≠x.toNat:=λe=>by
   have:k=x:=by omega
   subst this;exact hkn.1 hx
  simp[Nat.testBit_or,hb x (qj _ hx),hne]
theorem jps{th:Int}{q:List Int}{q2:List Trust}(h1:1<=th)(h2:th<=q.length+q2.length)(hq:∀k∈q,0<=k/\k<10)(hn:q.Nodup)(hi:∀x∈q2,checkT x=0):checkT (.mk th q q2)=0:=by
 have hL:∀l:List Trust,(∀x∈l,checkT x=0)->checkL l=0:=by
  intro l
  induction l with
  | nil=>intro _;rfl
  | cons t r ih =>
   intro h;rw[jbC,qe (by simp[h t (za)])];exact ih λx hx=>h x (qj _ hx)
 have hb:q.any badN=false:=by
  cases hb:q.any badN with
  | false=>rfl
  | true =>
   obtain⟨k,hk,hb⟩:=List.any_eq_true.1 hb;have:=hq k hk;simp[badN] at hb;omega
 have ho:(ofGo 0 q).2=0:=jsu q 0 zo hn hq (by simp);have h3:¬(th<1\/(q.length+q2.length:Int)<th):=by omega
 simp only[checkT,Trust.th,Trust.nodes,Trust.inner,h3,hb,ho,if_false];simpa using hL q2 hi
structure Mem where
 decl:Bool
 t:Trust
def mv(m:Mem):D:=.agg [.b m.decl,.i m.t.th,.sl 1 (m.t.nodes.map .i),.sl 3 (avs m.t.inner)]
def cv(c:List Mem):D:=.agg [.sl 4 (c.map mv)]
def Trust.none:Trust:=.mk 0 [] []
theorem jdv(q:List Mem)(x:Mem):q.map mv++[mv x]=(q++[x]).map mv:=by simp
structure OKM(n:Nat)(m:Mem):Prop where
 no:m.decl=false->m.t=Trust.none
 yes:m.decl=true->OKT n m.t
structure OKC(c:List Mem):Prop where
 len:1<=c.length/\c.length<=10
 mem:∀m∈c,OKM c.length m
structure Flat1(n:Nat)(t:Trust):Prop where
 ok:OKT n t
 depth:depthT t=1
 size:sizeT t<=10
theorem jiK{q:List Int}{b x:Int}(h:q.Nodup)(hb:∀k∈q,k<b)(hx:b<=x):(q++[x]).Nodup:=by
 rw[List.nodup_append];refine⟨h,by simp,λa ha c hc=>?_⟩;have:=hb a ha;obtain rfl:c=x:=by simpa using hc
 omega
def nodesOf(s:Int):List Int:=(upTo 10).filter λk=>has s k
theorem jba{s k:Int}:k∈nodesOf s↔has s k=true:=by
 unfold nodesOf;rw[List.mem_filter];refine⟨λh=>h.2,λh=>⟨?_,h⟩⟩;have h1:=jfi h;unfold upTo;exact List.mem_map.2 ⟨k.toNat,List.mem_range.2 zo,by show ((k.toNat:Nat):Int)=k;omega⟩
def tOf(c:List Mem)(k:Int):Trust:=match c[k.toNat]? with | some m=>m.t | none=>Trust.none
theorem jbp{c:List Mem}{m:Mem}(h:c[k]?=some m):tOf c k=m.t:=by
 unfold tOf;rw[qq,h]
def declGo(s:Nat)(k:Nat):List Mem->Nat
 | []=>s
 | m::r=>declGo (if m.decl&&decide ((k:Int)<10) then s|||2^k else s) (k+1) r
def declC(c:List Mem):Nat:=declGo 0 0 c
theorem jls:∀(c:List Mem)(s k:Nat),s<1024->declGo s k c<1024
 | [],s,k,h=>h
 | m::r,s,k,h=>by
  simp only[declGo];refine jls r _ _ ?_;split
  ·rename_i h1
   simp only[qh,qo] at h1;exact Nat.or_lt_two_pow (n:=10) h (Nat.pow_lt_pow_right zo zo)
  ·exact h
theorem ja0(c:List Mem):declC c<1024:=jls c 0 0 zo
theorem jiU:∀(c:List Mem)(s k i:Nat),(declGo s k c).testBit i=true↔s.testBit i=true\/∃m,i<10/\k<=i/\c[i - k]?=some m/\m.decl=true
 | [],s,k,i=>by simp[declGo]
 | m::r,s,k,i=>by
  simp only[declGo];rw[jiU r];constructor
  ·rintro(h | ⟨x,h1,h2,h3,h4⟩)
   ·split at h
    ·rename_i hm
     simp only[qh,qo] at hm;rw[Nat.testBit_or,Nat.testBit_two_pow,Bool.or_eq_true] at h;rcases h with h | h
     ·exact .inl h
     ·have e:k=i:=by simpa using h
      subst e;exact .inr ⟨m,by omega,by omega,by simp,hm.1⟩
    ·exact .inl h
   ·refine .inr ⟨x,h1,by omega,?_,h4⟩
    rw[show i - k=(i - (k+1))+1 from by omega];simpa using h3
  ·rintro(h | ⟨x,h1,h2,h3,h4⟩)
   ·left
    split
    ·rw[Nat.testBit_or,h,Bool.true_or]
    ·exact h
   ·by_cases e:k=i
    ·left
     subst e;simp only[Nat.sub_self,List.getElem?_cons_zero,qs] at h3;subst h3;rw[qf (by simp[h4];omega),Nat.testBit_or,Nat.testBit_two_pow_self,Bool.or_true]
    ·right
     refine⟨x,h1,by omega,?_,h4⟩;rw[show i - k=(i - (k+1))+1 from by omega] at h3;simpa using h3
theorem jc0{c:List Mem}:(declC c).testBit i=true↔∃m,i<10/\c[i]?=some m/\m.decl=true:=by
 unfold declC;rw[jiU];simp
def In(c:List Mem)(s:Nat):Prop:=∀i,s.testBit i=true->(declC c).testBit i=true
theorem In.get{c:List Mem}{s:Nat}(h:In c s)(hs:s<1024){k:Int}(hk:has s k=true):∃(j:Nat) (m:Mem),k=j/\j<10/\c[j]?=some m/\m.decl=true:=by
 have h1:=(jaX hs).1 hk;obtain⟨m,h2,h3,h4⟩:=jc0.1 (h _ h1.2.2);exact⟨k.toNat,m,by omega,h2,h3,h4⟩
def bad(c:List Mem)(s:Nat)(k:Int):Bool:=!sat s (tOf c k)
@[irreducible] def unh (c:List Mem) (s:Nat):Option Int:=(nodesOf s).find? (bad c s)
def clr(s k:Nat):Nat:=s&&&(2^63 - 1 - 2^k)
def elimF(c:List Mem):Nat->Nat->List Int->Nat × List Int
 | 0,s,out=>(s,out)
 | f+1,s,out=>match unh c s with
  | none=>(s,out)
  | some k=>elimF c f (clr s k.toNat) (out++[k])
theorem jec{c:List Mem}{s:Nat}{k:Int}(h:unh c s=some k):has s k=true/\sat s (tOf c k)=false:=by
 unfold unh at h;have h1:=List.find?_some h;have h2:=List.mem_of_find?_eq_some h;exact⟨jba.1 h2,by simpa[bad] using h1⟩
theorem jeF{s:Nat}(hs:s<1024)(h:s.testBit k=true)(i:Nat):(clr s k).testBit i=(s.testBit i&&!decide (k=i)):=by
 have hk:k<10:=by
  rcases Nat.lt_or_ge k 10 with h1 | h1
  ·exact h1
  ·rw[Nat.testBit_lt_two_pow (qA (show s<2^10 by omega) (Nat.pow_le_pow_right zo h1))] at h
   cases h
 have e:2^63 - 1 - 2^k=2^63 - (2^k+1):=by omega
 unfold clr;rw[Nat.testBit_and,e,Nat.testBit_two_pow_sub_succ (Nat.pow_lt_pow_right zo zo),Nat.testBit_two_pow]
 by_cases hi:i<63
 ·simp[hi]
 ·rw[Nat.testBit_lt_two_pow (qA (show s<2^10 by omega) (Nat.pow_le_pow_right zo (show 10<=i by omega)))]
  simp
theorem jtp{s:Nat}(hs:s<1024)(h:s.testBit k=true):clr s k<s:=by
 refine Nat.lt_of_le_of_ne Nat.and_le_left λe=>?_;have:=jeF hs h k;rw[e,h] at this;simp at this
theorem jy9{c:List Mem}{s:Nat}{k:Int}(h:unh c s=some k):s<1024:=by
 have:=ja1.1 (jfi (jec h).1).1;omega
theorem jer{c:List Mem}{s:Nat}{k:Int}(h:unh c s=some k):clr s k.toNat<s:=by
 have h3:=(jfi (jec h).1).2.2.2;rw[qq] at h3;exact jtp (jy9 h) h3
theorem joH(c:List Mem):unh c 0=none:=by
 cases hu:unh c 0 with
 | none=>rfl
 | some k =>
  have:=(jec hu).1;rw[show ((0:Nat):Int)=0 from rfl,jnC] at this;cases this
theorem jdI(c:List Mem):∀(f g s:Nat)(out:List Int),s<=f->s<=g->elimF c f s out=elimF c g s out
 | 0,0,s,out,_,_=>rfl
 | 0,g+1,s,out,h,_=>by
  obtain rfl:s=0:=by omega
  simp[elimF,joH]
 | f+1,0,s,out,_,h=>by
  obtain rfl:s=0:=by omega
  simp[elimF,joH]
 | f+1,g+1,s,out,h1,h2=>by
  simp only[elimF];cases hu:unh c s with
  | none=>rfl
  | some k =>
   have h3:=jer hu;exact jdI c f g _ _ zo zo
def elim(c:List Mem)(s:Nat)(out:List Int):Nat × List Int:=elimF c s s out
theorem jet{c:List Mem}{s:Nat}{out:List Int}(h:unh c s=none):elim c s out=(s,out):=by
 unfold elim;rw[jdI c s (s+1) s out zo zo];simp[elimF,h]
theorem je1{c:List Mem}{s:Nat}{out:List Int}{k:Int}(h:unh c s=some k):elim c s out=elim c (clr s k.toNat) (out++[k]):=by
 have h3:=jer h;unfold elim;rw[jdI c s (s+1) s out zo zo];simp only[elimF,h];exact jdI c _ _ _ _ zo zo
def IsQ(c:List Mem)(q:Nat):Prop:=∀k,has q k=true->sat q (tOf c k)=true
def Sub(a b:Nat):Prop:=∀i,a.testBit i=true->b.testBit i=true
theorem Sub.refl(a:Nat):Sub a a:=λ_ h=>h
theorem Sub.trans{a b c:Nat}(h:Sub a b)(k:Sub b c):Sub a c:=λi hi=>k i (h i hi)
theorem Sub.sub{a b:Nat}(h:Sub a b)(ha:a<1024)(hb:b<1024):Tq.sub a b:=λk hk=>by
 have h1:=(jaX ha).1 hk;exact(jaX hb).2 ⟨h1.1,h1.2.1,h _ h1.2.2⟩
theorem Sub.antisymm{a b:Nat}(h:Sub a b)(k:Sub b a):a=b:=by
 refine Nat.eq_of_testBit_eq λi=>?_;cases h1:a.testBit i with
 | true=>exact(h i h1).symm
 | false =>
  cases h2:b.testBit i with
  | false=>rfl
  | true=>rw[k i h2] at h1;cases h1
theorem Sub.lt{a b:Nat}(h:Sub a b)(hb:b<1024):a<1024:=by
 refine Nat.lt_of_not_le λh1=>?_;obtain⟨i,hi,h2⟩:=Nat.exists_ge_and_testBit_of_ge_two_pow (n:=10) (x:=a) h1;have:=h i h2;rw[Nat.testBit_lt_two_pow (qA (show b<2^10 by omega) (Nat.pow_le_pow_right zo hi))] at this;cases this
theorem Sub.and_l(a b:Nat):Sub (a&&&b) a:=λi h=>by rw[Nat.testBit_and,qh] at h;exact h.1
theorem Sub.and_r(a b:Nat):Sub (a&&&b) b:=λi h=>by rw[Nat.testBit_and,qh] at h;exact h.2
theorem Sub.and{a b c:Nat}(h:Sub a b)(k:Sub a c):Sub a (b&&&c):=λi hi=>by rw[Nat.testBit_and,h i hi,k i hi];rfl
theorem IsQ.mono_sat{c:List Mem}{q s:Nat}(h:IsQ c q)(hq:q<1024)(hs:s<1024)(k:Sub q s){x:Int}(hx:has q x=true):sat s (tOf c x)=true :=
 jnF (ja1.2 ⟨by omega,by omega⟩) (k.sub hq hs) _ (h x hx)
theorem jsP{c:List Mem}{s:Nat}:IsQ c s↔unh c s=none:=by
 unfold unh;rw[List.find?_eq_none];unfold IsQ bad;refine⟨λh k hk=>by simp[h k (jba.1 hk)],λh k hk=>by simpa using h k (jba.2 hk)⟩
theorem jlm(c:List Mem):∀(s:Nat)(out:List Int),s<1024->Sub (elim c s out).1 s/\IsQ c (elim c s out).1/\∀q,q<1024->Sub q s->IsQ c q->Sub q (elim c s out).1:=by
 intro s
 induction s using Nat.strongRecOn with
 | ind s ih =>
  intro out hs;cases hu:unh c s with
  | none =>
   rw[jet hu];exact⟨Sub.refl _,jsP.2 hu,λq _ h _=>h⟩
  | some k =>
   rw[je1 hu];have h1:=jec hu;have h2:=(jaX hs).1 h1.1;have h3:=jer hu;obtain⟨e1,e2,e3⟩:=ih _ h3 (out++[k]) zo;have hd:=jeF hs h2.2.2;have hsub:Sub (clr s k.toNat) s:=λi hi=>by rw[hd,qh] at hi;exact hi.1
   refine⟨e1.trans hsub,e2,λq hq hqs hQ=>e3 q hq (λi hi=>?_) hQ⟩;rw[hd,hqs i hi,qx]
   by_cases e:k.toNat=i
   ·exfalso
    have hk:has q k=true:=(jaX hq).2 ⟨h2.1,h2.2.1,by rw[e];exact hi⟩;rw[hQ.mono_sat hq hs hqs hk] at h1;cases h1.2
   ·simp[e]
def great(c:List Mem)(s:Int):Nat:=if valid s then (elim c (s.toNat&&&declC c) []).1 else 0
def gOrder(c:List Mem)(s:Int):List Int:=if valid s then (elim c (s.toNat&&&declC c) []).2 else []
theorem jif{a b:Nat}(hb:b<1024):a&&&b<1024:=(Sub.and_r a b).lt hb
theorem jox(c:List Mem){s:Nat}(hs:s<1024):great c s=(elim c (s&&&declC c) []).1:=by
 unfold great;rw[qf (ja1.2 ⟨by omega,by omega⟩),qq]
theorem jg2(c:List Mem){s:Nat}(hs:s<1024):gOrder c s=(elim c (s&&&declC c) []).2:=by
 unfold gOrder;rw[qf (ja1.2 ⟨by omega,by omega⟩),qq]
theorem In.and(c:List Mem)(s:Nat):In c (s&&&declC c):=Sub.and_r _ _
theorem In.clr{c:List Mem}{s:Nat}(h:In c s):In c (clr s k):=λi hi=>by
 unfold Tq.clr at hi;rw[Nat.testBit_and,qh] at hi;exact h i hi.1
structure IsGreat(c:List Mem)(s g:Nat):Prop where
 within:Sub g s
 decl:Sub g (declC c)
 quorum:IsQ c g
 most:∀q,q<1024->Sub q s->Sub q (declC c)->IsQ c q->Sub q g
theorem jbw(c:List Mem){s:Nat}(hs:s<1024):IsGreat c s (great c s):=by
 have h:=jlm c (s&&&declC c) [] (jif (ja0 c))
 have e:great c s=(elim c (s&&&declC c) []).1:=by
  unfold great;rw[qf (ja1.2 ⟨by omega,by omega⟩),qq]
 rw[e];exact⟨h.1.trans (Sub.and_l _ _),h.1.trans (Sub.and_r _ _),h.2.1,λq hq h1 h2 h3=>h.2.2 q hq (h1.and h2) h3⟩
theorem IsGreat.lt{c:List Mem}{s g:Nat}(h:IsGreat c s g):g<1024:=h.decl.lt (ja0 c)
theorem jcS(c:List Mem)(s:Int):great c s<1024:=by
 unfold great;split
 ·exact(jlm c _ [] (jif (ja0 c))).1.lt (jif (ja0 c))
 ·omega
def others(s v:Nat):Nat:=(1023&&&(2^63 - 1 - s))|||1 * 2^v
def blocksC(c:List Mem)(v s:Int):Bool:=valid s&&(has (declC c) v&&!sat (others s.toNat v.toNat) (tOf c v))
def acceptsC(c:List Mem)(v a b:Int):Bool:=valid a&&(valid b&&(blocksC c v b||has (great c ((a.toNat|||b.toNat:Nat):Int)) v))
def confirmsC(c:List Mem)(v a:Int):Bool:=has (great c a) v
theorem jvh{c:List Mem}{v:Int}(h:has (declC c) v=true):∃(j:Nat) (m:Mem),v=j/\j<10/\c[j]?=some m/\m.decl=true:=In.get (c:=c) (s:=declC c) (λi hi=>hi) (ja0 c) h
theorem jst{c:List Mem}{v s:Int}(h:valid s=false):blocksC c v s=false:=by unfold blocksC;rw[h,qy]
theorem jsR{c:List Mem}{v s:Int}(h:has (declC c) v=false):blocksC c v s=false:=by unfold blocksC;rw[h,qy,qB]
theorem jt5{c:List Mem}{v s:Nat}{t:Trust}(hv:valid (s:Int)=true)(hh:has (declC c) (v:Int)=true)(ht:tOf c v=t):blocksC c v s=!sat (((1023&&&(2^63 - 1 - s))|||1 * 2^v:Nat):Int) t:=by
 unfold blocksC others;rw[hv,hh,ht,qq,qq,qx,qx]
theorem jo6{c:List Mem}{v a b:Int}(h:valid a=false):acceptsC c v a b=false:=by unfold acceptsC;rw[h,qy]
theorem jo8{c:List Mem}{v a b:Int}(h:valid b=false):acceptsC c v a b=false:=by unfold acceptsC;rw[h,qy,qB]
theorem jto{c:List Mem}{v:Int}{a b:Nat}(ha:valid (a:Int)=true)(hb:valid (b:Int)=true):acceptsC c v a b=(blocksC c v b||has (great c ((a|||b:Nat):Int)) v):=by
 unfold acceptsC;rw[ha,hb,qq,qq,qx,qx]
attribute [irreducible] great gOrder elim
theorem jdD{s v:Nat}(hs:s<1024):(others s v).testBit i=((decide (i<10)&&!s.testBit i)||decide (v=i)):=by
 unfold others;have e1:(1023:Nat)=2^10 - 1:=rfl;have e2:2^63 - 1 - s=2^63 - (s+1):=by omega
 rw[Nat.one_mul,Nat.testBit_or,Nat.testBit_and,e1,Nat.testBit_two_pow_sub_one,e2,Nat.testBit_two_pow_sub_succ zo,Nat.testBit_two_pow]
 by_cases h:i<10
 ·have:i<63:=by omega
  simp[h,this]
 ·simp[h]
theorem jhx{s v:Nat}(hs:s<1024)(hv:v<10):others s v<1024:=by
 refine Sub.lt (b:=2^10 - 1) (λi hi=>?_) zo;rw[jdD hs,Bool.or_eq_true,qh] at hi;rw[Nat.testBit_two_pow_sub_one];rcases hi with hi | hi
 ·exact hi.1
 ·have:v=i:=by simpa using hi
  exact qg zo
theorem jpe{s t v:Nat}(hs:s<1024)(ht:t<1024)(h:Sub s t):Sub (others t v) (others s v):=λi hi=>by
 rw[jdD ht,Bool.or_eq_true,qh] at hi;rw[jdD hs,Bool.or_eq_true,qh];refine hi.elim (λk=>.inl ⟨k.1,?_⟩) .inr;cases hb:s.testBit i with
 | false=>rfl
 | true=>have:=k.2;rw[h i hb] at this;cases this
theorem jfp{s:Nat}(h:s<1024):valid (s:Int)=true:=ja1.2 ⟨by omega,by omega⟩
theorem jgD{c:List Mem}{v:Int}{s t:Nat}(hs:s<1024)(ht:t<1024)(h:Sub s t)(hb:blocksC c v s=true):blocksC c v t=true:=by
 unfold blocksC at hb ⊢;rw[qh,qh,qq] at hb;rw[qh,qh,qq];refine⟨jfp ht,hb.2.1,?_⟩;have hv:=jfi hb.2.1;cases h1:sat (others t v.toNat) (tOf c v) with
 | false=>rfl
 | true =>
  have h2:sat (others s v.toNat) (tOf c v)=true:=jnF (jfp (jhx hs zo)) ((jpe hs ht h).sub (jhx ht zo) (jhx hs zo)) _ h1;rw[h2] at hb;simp at hb
def m4:Mem:=⟨true,.mk 3 [0,1,2,3] []⟩
def c4:List Mem:=List.replicate 4 m4
def insideC(c:List Mem)(s:Nat):Bool:=decide (((s&&&(2^63 - 1 - declC c):Nat):Int)=0)
theorem jmA{c:List Mem}{s:Nat}(hs:s<1024):insideC c s=true↔In c s:=by
 unfold insideC In;rw[decide_eq_true_iff];have e:2^63 - 1 - declC c=2^63 - (declC c+1):=by omega
 have hd:=ja0 c;constructor
 ·intro h i hi
  have h0:s&&&(2^63 - 1 - declC c)=0:=by omega
  have h1:=congrArg (·.testBit i) h0;simp only[Nat.testBit_and,hi,Nat.zero_testBit,qx] at h1;rw[e,Nat.testBit_two_pow_sub_succ zo] at h1
  have hi10:i<10:=by
   rcases Nat.lt_or_ge i 10 with h2 | h2
   ·exact h2
   ·rw[Nat.testBit_lt_two_pow (qA (show s<2^10 by omega) (Nat.pow_le_pow_right zo h2))] at hi
    cases hi
  have:i<63:=by omega
  simpa[this] using h1
 ·intro h
  have h0:s&&&(2^63 - 1 - declC c)=0:=by
   refine Nat.eq_of_testBit_eq λi=>?_;rw[Nat.zero_testBit,Nat.testBit_and,e,Nat.testBit_two_pow_sub_succ zo];cases hb:s.testBit i with
   | false=>rfl
   | true=>rw[h i hb];simp
  omega
def quorumC(c:List Mem)(s:Nat):Bool:=!decide ((s:Int)=0)&&(insideC c s&&(unh c s).isNone)
theorem jck{c:List Mem}{s:Nat}(hs:s<1024):quorumC c s=true↔s≠0/\In c s/\IsQ c s:=by
 unfold quorumC;rw[qh,qh,jmA hs,jsP,Option.isNone_iff_eq_none];simp
theorem jre{c:List Mem}{s:Nat}(h:decide ((s:Int)=0)=true):quorumC c s=false:=by unfold quorumC;rw[h];rfl
def checkGo(c:List Mem):Nat->List Int->Int × Int
 | s,[]=>if (!decide ((s:Int)=0)&&!quorumC c s)=true then (0,12) else (s,0)
 | s,k::r=>if has s k=true/\sat s (tOf c k)=false then checkGo c (clr s k.toNat) r else (0,12)
theorem jyz(s k:Nat):clr s k<=s:=Nat.and_le_left
def m3:Mem:=⟨true,.mk 2 [0,1,2] []⟩
def c3:List Mem:=[m3,m3,m3]
structure Goes(c:List Mem)(s0:Nat)(l:List Int)(s:Nat):Prop where
 lt:s<1024
 inn:In c s
 go:∀r,checkGo c s0 (l++r)=checkGo c s r
 within:Sub s s0
 most:∀q,q<1024->Sub q s0->IsQ c q->Sub q s
 short:l≠[]->checkGo c s0 l.dropLast=(0,12)
mutual
def same0:Trust->Trust->Bool
 | .mk a ns is,.mk b ms js=>decide (a=b)&&(decide (ns=ms)&&sameL is js)
def sameL:List Trust->List Trust->Bool
 | [],[]=>true
 | t::r,u::q=>same0 t u&&sameL r q
 | _,_=>false
end
def same(a b:Trust):Bool:=decide (a.th=b.th)&&(decide (a.nodes=b.nodes)&&sameL a.inner b.inner)
theorem jt4(a b:Trust):same0 a b=same a b:=by cases a;cases b;rfl
theorem jdF(t:Trust)(r:List Trust)(u:Trust)(q:List Trust):sameL (t::r) (u::q)=(same t u&&sameL r q):=by rw[<-jt4];rfl
theorem jiB:∀(l:List Trust),(∀x∈l,same x x=true)->sameL l l=true
 | [],_=>rfl
 | t::r,h=>by rw[jdF,h t (za),jiB r (λx hx=>h x (qj _ hx))];rfl
theorem jc8(a:Trust):same a a=true:=by
 induction a using Trust.ind with
 | _ t ih=>unfold same;rw[jiB _ ih];simp
theorem jlu:∀(a b:List Trust),sameL a b=true->a.length=b.length
 | [],[],_=>rfl
 | [],_::_,h=>by simp[sameL] at h
 | _::_,[],h=>by simp[sameL] at h
 | t::r,u::q,h=>by
  rw[jdF,qh] at h;rw[qi,qi,jlu r q h.2]
theorem jkK{a b:List Trust}(h:¬a.length=b.length):sameL a b=false:=by
 cases e:sameL a b with
 | false=>rfl
 | true=>exact qp (jlu _ _ e) h
theorem jiX{t x:Trust}(h:x∈t.inner):sizeT x<=sizeT t:=by
 have:=jbM h;unfold sizeT;unfold sizeT at this;omega
structure Alike(t u:Trust):Prop where
 sat:∀s,sat s u=sat s t
 size:sizeT u=sizeT t
 uses:uses u=uses t
 depth:depthT u=depthT t
 check:checkT t=0->checkT u=0
inductive AlikeL:List Trust->List Trust->Prop
 | nil:AlikeL [] []
 | cons {t u r q}:Alike t u->AlikeL r q->AlikeL (t::r) (u::q)
mutual
def weight0(k:Int):Trust->Option (Int × Int)
 | .mk th ns is=>if ns.contains k=true then some (th,(ns.length+is.length:Int)) else (weightL k is).map λw=>(th * w.1,(ns.length+is.length:Int) * w.2)
def weightL(k:Int):List Trust->Option (Int × Int)
 | []=>none
 | t::r=>match weight0 k t with
  | some w=>some w
  | none=>weightL k r
end
def weight(k:Int)(t:Trust):Option (Int × Int):=if t.nodes.contains k=true then some (t.th,(t.nodes.length+t.inner.length:Int)) else (weightL k t.inner).map λw=>(t.th * w.1,(t.nodes.length+t.inner.length:Int) * w.2)
theorem jp5(k:Int)(t:Trust):weight0 k t=weight k t:=by cases t;rfl
theorem jdn(k:Int)(t:Trust)(r:List Trust):weightL k (t::r)=match weight k t with | some w=>some w | none=>weightL k r:=by rw[<-jp5];rfl
def wRes(o:Option (Int × Int)):D:=match o with
 | some w=>.tup [.agg [.i w.1,.i w.2],.b true]
 | none=>.tup [.agg [.i 0,.i 0],.b false]
theorem jaV{t:Trust}(h:validT t=0):checkT t=0/\sizeT t<=200/\depthT t<=4:=by
 refine⟨jbA h,jb2 h,?_⟩;unfold validT at h;split at h
 ·omega
 ·omega
theorem jio:∀{l:List Trust}{x:Trust},x∈l->depthT x<=depthL l
 | t::r,x,h=>by
  rw[jcT];rcases zf h with rfl | h
  ·omega
  ·have:=jio h
   omega
theorem jhl{t x:Trust}(h:x∈t.inner):depthT x+1<=depthT t:=by
 have:=jio h;unfold depthT;unfold depthT at this;omega
theorem jfP{k:Int}:∀{l:List Trust}{w:Int × Int},weightL k l=some w->∃x∈l,weight k x=some w
 | [],w,h=>by simp[weightL] at h
 | t::r,w,h=>by
  rw[jdn] at h;cases e:weight k t with
  | some u=>rw[e] at h;exact⟨t,za,by rw[e];exact h⟩
  | none =>
   rw[e] at h;obtain⟨x,h1,h2⟩:=jfP h;exact⟨x,qj _ h1,h2⟩
theorem jwj{a b c m n:Int}(h1:1<=a)(h2:a<=b)(h3:b<=m)(h4:1<=c)(h5:c<=d)(h6:d<=n):1<=a * c/\a * c<=b * d/\b * d<=m * n:=by
 refine⟨?_,Int.mul_le_mul h2 h5 zo zo,Int.mul_le_mul h3 h6 zo zo⟩;have:=Int.mul_le_mul h1 h4 zo zo;simpa using this
theorem jlx{k:Int}:∀(t:Trust)(d:Nat)(a b:Int),checkT t=0->sizeT t<=200->depthT t<=d+1->weight k t=some (a,b)->1<=a/\a<=b/\b<=200^(d+1):=by
 intro t
 induction t using Trust.ind with
 | _ t ih =>
  intro d a b hc hs hd hw;have g:=jhy hc;have h1:=g.lo;have h2:=g.hi;have h3:(t.nodes.length+t.inner.length:Int)<=200:=by unfold sizeT at hs;omega
  have hp:(1:Int)<=200^d:=Int.pow_pos zo;unfold weight at hw;split at hw
  ·simp only[qs,Prod.mk.injEq] at hw
   obtain⟨rfl,rfl⟩:=hw;refine⟨h1,h2,?_⟩;rw[Int.pow_succ];have:(1:Int) * 200<=200^d * 200:=Int.mul_le_mul hp zo zo zo;omega
  ·cases e:weightL k t.inner with
   | none=>rw[e] at hw;simp at hw
   | some w =>
    rw[e] at hw;simp only[Option.map_some,qs,Prod.mk.injEq] at hw;obtain⟨rfl,rfl⟩:=hw;obtain⟨x,hx,hxw⟩:=jfP e;have hdx:=jhl hx;cases d with
    | zero =>
     have:1<=depthT x:=by unfold depthT;omega
     omega
    | succ d =>
     have hi:=ih x hx d w.1 w.2 (g.inner x hx) (by have:=jiX hx;omega) zo hxw;have hm:=jwj h1 h2 h3 hi.1 hi.2.1 hi.2.2;refine⟨hm.1,hm.2.1,?_⟩;rw[Int.pow_succ 200 (d+1),Int.mul_comm _ 200];exact hm.2.2
theorem jpP{k:Int}{x:Trust}{a b:Int}(hc:checkT x=0)(hs:sizeT x<=200)(hd:depthT x<=3)(hw:weight k x=some (a,b)):1<=a/\a<=b/\b<=8000000:=jlx x 2 a b hc hs hd hw
theorem jp8{k:Int}{x:Trust}{a b:Int}(hv:validT x=0)(hw:weight k x=some (a,b)):1<=a/\a<=b/\b<=1600000000:=jlx x 3 a b (jaV hv).1 (jaV hv).2.1 (jaV hv).2.2 hw
theorem jlz:∀(l:List Int)(s i:Nat),(usesN s l).testBit i=true->s.testBit i=true\/(i<10/\(i:Int)∈l)
 | [],s,i,h=>.inl h
 | k::r,s,i,h=>by
  simp only[usesN] at h;rcases jlz r _ i h with h1 | h1
  ·split at h1
   ·rename_i hn
    have hk:0<=k/\k<10:=by simpa[nd] using hn
    rw[Nat.testBit_or,Nat.testBit_two_pow,Bool.or_eq_true] at h1;rcases h1 with h1 | h1
    ·exact .inl h1
    ·have e:k.toNat=i:=by simpa using h1
     exact .inr ⟨by omega,by rw[<-e,Int.toNat_of_nonneg hk.1];exact za⟩
   ·exact .inl h1
  ·exact .inr ⟨h1.1,qj _ h1.2⟩
theorem jlR:∀(l:List Trust)(s i:Nat),(usesL s l).testBit i=true->s.testBit i=true\/∃x∈l,(uses x).testBit i=true
 | [],s,i,h=>.inl h
 | t::r,s,i,h=>by
  rw[jdP] at h;rcases jlR r _ i h with h1 | ⟨x,h1,h2⟩
  ·rw[Nat.testBit_or,Bool.or_eq_true] at h1
   rcases h1 with h1 | h1
   ·exact .inl h1
   ·exact .inr ⟨t,za,h1⟩
  ·exact .inr ⟨x,qj _ h1,h2⟩
def xor64(a b:Int):Int:=IntKind.u64.wrap ((BitVec.ofInt IntKind.u64.bits a ^^^ BitVec.ofInt IntKind.u64.bits b).toNat:Int)
def hash0(kind slot round node:Int):Int:=xor64 (xor64 (xor64 (IntKind.u64.wrap (IntKind.u64.wrap kind * 2^56)) (IntKind.u64.wrap (IntKind.u64.wrap slot * 2^24))) (IntKind.u64.wrap (IntKind.u64.wrap round * 2^8))) (IntKind.u64.wrap node)
def hash1(z:Int):Int:=IntKind.u64.wrap (z+11400714819323198485)
def hash2(z:Int):Int:=IntKind.u64.wrap (xor64 z (z.fdiv (2^30)) * 13787848793156543929)
def hash3(z:Int):Int:=IntKind.u64.wrap (xor64 z (z.fdiv (2^27)) * 10723151780598845931)
def hash4(z:Int):Int:=xor64 z (z.fdiv (2^31))
def hashV(kind slot round node:Int):Int:=IntKind.u32.wrap ((hash4 (hash3 (hash2 (hash1 (hash0 kind slot round node))))).fdiv (2^32))
theorem jzh(z:Int):0<=IntKind.u32.wrap z/\IntKind.u32.wrap z<4294967296:=by
 simp only[IntKind.wrap,IntKind.bits,IntKind.signed];simp;omega
theorem jrV(kind slot round node:Int):0<=hashV kind slot round node/\hashV kind slot round node<4294967296:=jzh _
theorem jzX{m:Int}(h:0<=m)(h':m<18446744073709551616):IntKind.u64.wrap m=m:=by
 simp only[IntKind.wrap,IntKind.bits,IntKind.signed];simp;omega
def nbr(t:Trust)(v slot round node:Int):Bool:=decide (node=v)||match weight node t with
 | some w=>decide (hashV 1 slot round node * w.2<w.1 * 4294967296)
 | none=>false
theorem jjN(t:Trust)(v slot round:Int):nbr t v slot round v=true:=by simp[nbr]
def askedV(t:Trust)(v slot round:Int):Int:=if validT t=0 then (if v<0\/10<=v then 5 else if slot<0\/1000000<slot\/round<1\/1000<round then 1 else 0) else validT t
theorem jcg{t:Trust}{v:Int}(h:askedV t v slot round=0):validT t=0/\0<=v/\v<10/\0<=slot/\slot<=1000000/\1<=round/\round<=1000:=by
 unfold askedV at h;split at h
 ·split at h
  ·omega
  ·split at h<;>omega
 ·omega
theorem juS{t:Trust}{v:Int}(h:validT t=0)(h1:0<=v/\v<10)(h2:0<=slot/\slot<=1000000)(h3:1<=round/\round<=1000):askedV t v slot round=0:=by
 unfold askedV;rw[qf h,qe zo,qe zo]
def nbrV(t:Trust)(v slot round node:Int):Bool:=decide (askedV t v slot round=0)&&(decide (0<=node)&&(decide (node<10)&&nbr t v slot round node))
def chooseTo(t:Trust)(v slot round:Int):Nat->Int × Int
 | 0=>(v,0)
 | k+1=>if nbr t v slot round k=true/\(chooseTo t v slot round k).2<=hashV 2 slot round k then ((k:Int),hashV 2 slot round k) else chooseTo t v slot round k
def chooseV(t:Trust)(v slot round:Int):Int:=(chooseTo t v slot round 10).1
theorem jiE(t:Trust)(v slot round:Int):∀k:Nat,(chooseTo t v slot round k=(v,0)/\(∀u:Nat,u<k->nbr t v slot round u=false)) \/
 (∃b:Nat,b<k/\chooseTo t v slot round k=((b:Int),hashV 2 slot round b)/\nbr t v slot round b=true/\∀u:Nat,u<k->nbr t v slot round u=true->hashV 2 slot round u<=hashV 2 slot round b/\(hashV 2 slot round u=hashV 2 slot round b->u<=b))
 | 0=>.inl ⟨rfl,λu hu=>by omega⟩
 | k+1=>by
  simp only[chooseTo];rcases jiE t v slot round k with⟨h1,h2⟩ | ⟨b,h1,h2,h3,h4⟩
  ·rw[h1]
   split
   ·rename_i hc
    refine .inr ⟨k,by omega,rfl,hc.1,λu hu hn=>?_⟩;rcases Nat.lt_or_ge u k with h5 | h5
    ·rw[h2 u h5] at hn;cases hn
    ·obtain rfl:u=k:=by omega
     exact⟨Int.le_refl _,λ_=>Nat.le_refl _⟩
   ·rename_i hc
    refine .inl ⟨rfl,λu hu=>?_⟩;rcases Nat.lt_or_ge u k with h5 | h5
    ·exact h2 u h5
    ·obtain rfl:u=k:=by omega
     cases hn:nbr t v slot round u with
     | false=>rfl
     | true=>exact qp ⟨hn,(jrV 2 slot round u).1⟩ hc
  ·rw[h2]
   split
   ·rename_i hc
    refine .inr ⟨k,by omega,rfl,hc.1,λu hu hn=>?_⟩;have hc2:hashV 2 slot round b<=hashV 2 slot round k:=hc.2;rcases Nat.lt_or_ge u k with h5 | h5
    ·have h6:=h4 u h5 hn
     exact⟨by omega,λ_=>by omega⟩
    ·obtain rfl:u=k:=by omega
     exact⟨Int.le_refl _,λ_=>Nat.le_refl _⟩
   ·rename_i hc
    refine .inr ⟨b,by omega,rfl,h3,λu hu hn=>?_⟩;rcases Nat.lt_or_ge u k with h5 | h5
    ·exact h4 u h5 hn
    ·obtain rfl:u=k:=by omega
     have h6:¬hashV 2 slot round b<=hashV 2 slot round u:=λh=>hc ⟨hn,h⟩;exact⟨by omega,λh=>by omega⟩
theorem jcX{t:Trust}{v:Int}(hv:0<=v/\v<10):∃b:Nat,b<10/\chooseV t v slot round=b/\nbr t v slot round b=true/\∀u:Nat,u<10->nbr t v slot round u=true->hashV 2 slot round u<=hashV 2 slot round b/\(hashV 2 slot round u=hashV 2 slot round b->u<=b):=by
 rcases jiE t v slot round 10 with⟨_,h2⟩ | ⟨b,h1,h2,h3,h4⟩
 ·obtain⟨j,rfl⟩:=qD hv.1
  have:=h2 j zo;rw[jjN] at this;cases this
 ·exact⟨b,h1,by unfold chooseV;rw[h2],h3,h4⟩
theorem jtP{t:Trust}{v k:Int}(h1:weight k t=none)(hk:k≠v):nbr t v slot round k=false:=by
 unfold nbr;rw[h1,qz hk];rfl
theorem jyb(y:Trust):[av y]=avs [y]:=by rw[jjv];rfl
theorem jjQ(a:Int)(b:List Int)(c:List Trust):sizeT (.mk a b c)=b.length+c.length+sizeL c:=rfl
inductive Run:Nat->List Int->Nat->Prop
 | nil {s}:Run s [] s
 | cons {s j r s2}:s<1024->s.testBit j=true->Run (clr s j) r s2->Run s ((j:Int)::r) s2
theorem juW(c:List Mem):∀(s:Nat)(out:List Int),s<1024->In c s->∃l,(elim c s out).2=out++l/\Run s l (elim c s out).1:=by
 intro s
 induction s using Nat.strongRecOn with
 | ind s ih =>
  intro out hs hin;cases hu:unh c s with
  | none=>rw[jet hu];exact⟨[],by simp,.nil⟩
  | some k =>
   rw[je1 hu];obtain⟨j,m,rfl,hj,hm,_⟩:=hin.get hs (jec hu).1;rw[qq];have hd:=jer hu;rw[qq] at hd;have hb:s.testBit j=true:=by have:=((jaX hs).1 (jec hu).1).2.2;rwa [qq] at this
   obtain⟨l,h1,h2⟩:=ih _ hd (out++[(j:Int)]) zo hin.clr;exact⟨(j:Int)::l,by rw[h1];simp,.cons hs hb h2⟩
theorem jqo(c:List Mem){x:Nat}(hx:x<1024):Run (x&&&declC c) (gOrder c x) (great c x):=by
 obtain⟨l,h1,h2⟩:=juW c (x&&&declC c) [] (jif (ja0 c)) (In.and c x);rw[jg2 c hx,jox c hx,h1];exact h2
theorem jmX{c:List Mem}{s:Int}(h:valid s=false):great c s=0:=by unfold great;rw[h];rfl
theorem jkj{c:List Mem}{s:Int}(h:valid s=false):gOrder c s=[]:=by unfold gOrder;rw[h];rfl
def quorumV(c:List Mem)(s:Int):Bool:=valid s&&quorumC c s.toNat
theorem jcV{c:List Mem}{s:Nat}(h:s<1024):quorumV c s=quorumC c s:=by unfold quorumV;rw[jfp h,qx,qq]
theorem jjd{c:List Mem}{s:Int}(h:valid s=false):quorumV c s=false:=by unfold quorumV;rw[h];rfl
theorem jpq{c:List Mem}{s:Nat}(hs:s<1024)(h:¬((s&&&declC c:Nat):Int)=s):quorumC c s=false:=by
 rw[Bool.eq_false_iff];intro hq;have h2:=((jck hs).1 hq).2.1;refine h ?_;have:s&&&declC c=s:=Sub.antisymm (Sub.and_l _ _) ((Sub.refl _).and h2);rw[this]
theorem jrx{c:List Mem}{s:Nat}(h:((s&&&declC c:Nat):Int)=s):In c s:=λi hi=>by
 have e:s&&&declC c=s:=by omega
 rw[<-e] at hi;exact Sub.and_r _ _ i hi
theorem jpy{c:List Mem}{s:Nat}(hs:s<1024){k:Int}(hk:has s k=true)(hb:sat s (tOf c k)=false):quorumC c s=false:=by
 rw[Bool.eq_false_iff];intro hq;have:=((jck hs).1 hq).2.2 k hk;rw[this] at hb;cases hb
def leadersTo(t:Trust)(v slot:Int):Nat->Nat
 | 0=>0
 | n+1=>leadersTo t v slot n|||2^(chooseV t v slot ((n+1:Nat):Int)).toNat
theorem jit{t:Trust}{v slot:Int}(hv:0<=v/\v<10):∀n,leadersTo t v slot n<1024
 | 0=>by simp[leadersTo]
 | n+1=>by
  obtain⟨b,hb,hc,_⟩:=jcX (t:=t) (slot:=slot) (round:=((n+1:Nat):Int)) hv;simp only[leadersTo];rw[hc,qq];exact Nat.or_lt_two_pow (n:=10) (jit hv n) (Nat.pow_lt_pow_right zo zo)
theorem jfI{t:Trust}{v:Int}{n b:Nat}(h:chooseV t v slot ((n+1:Nat):Int)=b):leadersTo t v slot (n+1)=leadersTo t v slot n|||1 * 2^b:=by
 simp only[leadersTo];rw[h,qq,Nat.one_mul]
theorem jx4{s b:Nat}(h:s.testBit b=true):s|||1 * 2^b=s:=by
 rw[Nat.one_mul];refine Nat.eq_of_testBit_eq λi=>?_;rw[Nat.testBit_or,Nat.testBit_two_pow]
 by_cases e:b=i
 ·subst e;simp[h]
 ·simp[e]
theorem jjx{t:Trust}{v:Int}(hv:0<=v/\v<10){b:Nat}(hb:b<10)(hn:nbr t v slot round b=true)(hm:∀u:Nat,u<10->nbr t v slot round u=true->hashV 2 slot round u<=hashV 2 slot round b/\(hashV 2 slot round u=hashV 2 slot round b->u<=b)):chooseV t v slot round=b:=by
 obtain⟨a,ha,hc,hna,hma⟩:=jcX (t:=t) (slot:=slot) (round:=round) hv;have h1:=hm a ha hna;have h2:=hma b hb hn;have e:hashV 2 slot round a=hashV 2 slot round b:=by omega
 have h3:=h1.2 e;have h4:=h2.2 e.symm;rw[hc];omega
def leadersR(t:Trust)(v slot rounds:Int):Int × Int:=if askedV t v slot rounds=0 then ((leadersTo t v slot rounds.toNat:Int),0) else (0,askedV t v slot rounds)
theorem jmb{t:Trust}{v:Int}{n k:Int}(h:askedV t v slot n=0)(h1:1<=k)(h2:k<=n):askedV t v slot k=0:=by
 have:=jcg h;exact juS this.1 ⟨this.2.1,this.2.2.1⟩ ⟨this.2.2.2.1,this.2.2.2.2.1⟩ ⟨h1,by omega⟩
theorem jvC{h n:Int}(h1:1<=n/\n<=d/\d<=1600000000):decide (h * d<IntKind.i64.wrap (n * 2^32))=decide (h * d<n * 4294967296):=by
 rw[show (2:Int)^32=4294967296 from by decide,jfE (m:=n * 4294967296) zo zo]
theorem jur{h:Int}(h0:0<=h/\h<4294967296)(h1:0<=d/\d<=1600000000):0<=h * d/\h * d<=4294967296 * 1600000000 :=
 ⟨Int.mul_nonneg h0.1 h1.1,Int.mul_le_mul zo h1.2 h1.1 zo⟩
theorem jkC(H:Nat->Int)(N:Nat->Bool){b:Nat}{p q:Int}(hp:H k=p)(hq:H b=q)(hI:∀u:Nat,u<k->N u=true->H u<=H b/\(H u=H b->u<=b))(h:q<p\/(p=q/\(b:Int)<k)):∀u:Nat,u<k+1->N u=true->H u<=H k/\(H u=H k->u<=k):=λu hu hn=>by
 rcases Nat.lt_or_ge u k with h5 | h5
 ·have h6:=hI u h5 hn
  exact⟨by omega,λe=>by omega⟩
 ·obtain rfl:u=k:=by omega
  exact⟨Int.le_refl _,λ_=>Nat.le_refl _⟩
theorem jko(H:Nat->Int)(N:Nat->Bool){b:Nat}(hI:∀u:Nat,u<k->N u=true->H u<=H b/\(H u=H b->u<=b))(h:N k=true->H k<=H b/\(H k=H b->k<=b)):∀u:Nat,u<k+1->N u=true->H u<=H b/\(H u=H b->u<=b):=λu hu hn=>by
 rcases Nat.lt_or_ge u k with h5 | h5
 ·exact hI u h5 hn
 ·obtain rfl:u=k:=by omega
  exact h hn
theorem jqw(H:Nat->Int)(N:Nat->Bool){b:Nat}{p q:Int}(hp:H k=p)(hq:H b=q)(hI:∀u:Nat,u<k->N u=true->H u<=H b/\(H u=H b->u<=b))(h1:¬q<p)(h:¬p=q\/¬(b:Int)<k):∀u:Nat,u<k+1->N u=true->H u<=H b/\(H u=H b->u<=b) :=
 jko H N hI λ_=>⟨by omega,λe=>by omega⟩
def popTo(s:Nat):Nat->Nat
 | 0=>0
 | k+1=>popTo s k+s / 2^k % 2
def popN(s:Nat):Nat:=popTo s 10
def and64(a b:Int):Int:=IntKind.u64.wrap ((BitVec.ofInt IntKind.u64.bits a&&&BitVec.ofInt IntKind.u64.bits b).toNat:Int)
def ones1(x:Int):Int:=IntKind.u64.wrap (and64 (x.fdiv (2^1)) 6148914691236517205+and64 x 6148914691236517205)
def ones2(x:Int):Int:=IntKind.u64.wrap (and64 (x.fdiv (2^2)) 3689348814741910323+and64 x 3689348814741910323)
def ones3(x:Int):Int:=and64 (IntKind.u64.wrap (x.fdiv (2^4)+x)) 1085102592571150095
def onesS(k:Nat)(x:Int):Int:=IntKind.u64.wrap (x+x.fdiv (2^k))
def onesV(x:Int):Int:=IntKind.i64.wrap ((BitVec.ofInt IntKind.i64.bits (IntKind.i64.wrap (onesS 32 (onesS 16 (onesS 8 (ones3 (ones2 (ones1 x)))))))&&&BitVec.ofInt IntKind.i64.bits 127).toNat:Int)
theorem jwF:((List.range 1024).all λs=>decide (onesV (IntKind.u64.wrap s)=popN s)&&(decide (2^popN s<=s+1)&&(decide (popN s<=10)&&(List.range 11).all λn=>!decide (s<2^n)||decide (popN s<=n))))=true:=by kernel_rfl
theorem jr9{s:Nat}(h:s<1024):onesV (IntKind.u64.wrap s)=popN s/\2^popN s<=s+1/\popN s<=10/\∀n,n<11->s<2^n->popN s<=n:=by
 have h1:=List.all_eq_true.1 jwF s (List.mem_range.2 h);simp only[qh,qo,List.all_eq_true,List.mem_range,Bool.or_eq_true,Bool.not_eq_true',decide_eq_false_iff_not] at h1;refine⟨h1.1,h1.2.1,h1.2.2.1,λn hn hs=>?_⟩;rcases h1.2.2.2 n hn with h2 | h2
 ·exact qp hs h2
 ·exact h2
def key(s:Nat):Nat:=popN s * 1024+s
theorem jaC{n:Nat}(h:n<=10):2^n<=1024:=Nat.pow_le_pow_right (n:=2) zo h
def co(c:List Mem)(s:Nat):Nat:=(2^c.length - 1)&&&(2^63 - 1 - s)
structure FindR(c:List Mem)(a b:Nat):Prop where
 lt:a<2^c.length
 none:a=0->b=0/\∀u,u<2^c.length->quorumC c u=true->great c (co c u)=0
 some:¬a=0->quorumC c a=true/\b=great c (co c a)/\¬b=0/\∀u,u<2^c.length->key u<key a->quorumC c u=true->great c (co c u)=0
theorem jrN{c:List Mem}{s:Nat}(h:quorumC c s=true):¬s=0:=λe=>by subst e;cases h
def memV(m:Mem)(n:Nat):Int:=if m.decl=true then (if validT m.t=0 then (if 2^n<=uses m.t then 5 else 0) else validT m.t) else (if m.t.th=0/\m.t.nodes.length=0/\m.t.inner.length=0 then 0 else 1)
def memsV(n:Nat):List Mem->Int
 | []=>0
 | m::r=>if memV m n=0 then memsV n r else memV m n
def validC(c:List Mem):Int:=if 10<c.length then 3 else memsV c.length c
theorem jxb{n:Nat}:∀(t:Trust),nb n t->∀i,(uses t).testBit i=true->i<n:=by
 intro t
 induction t using Trust.ind with
 | _ t ih =>
  intro h i hi;rcases jlR _ _ _ hi with h1 | ⟨x,hx,h1⟩
  ·rcases jlz _ _ _ h1 with h2 | h2
   ·rw[Nat.zero_testBit] at h2;cases h2
   ·have:=h.1 _ h2.2
    omega
  ·exact ih x hx ((jtF _ _).1 h.2 x hx) i h1
theorem jdG{s n:Nat}(h:∀i,s.testBit i=true->i<n):s<2^n:=by
 refine Nat.lt_pow_two_of_testBit s λi hi=>?_;cases e:s.testBit i with
 | false=>rfl
 | true=>have:=h i e;omega
theorem jeJ{n:Nat}:∀(c:List Mem),(∀m∈c,OKM n m)->memsV n c=0
 | [],_=>rfl
 | m::r,h=>by
  have h1:=h m (za)
  have h2:memV m n=0:=by
   unfold memV;cases hd:m.decl with
   | false=>rw[h1.no hd];simp[Trust.none,Trust.th,Trust.nodes,Trust.inner]
   | true =>
    have h3:=h1.yes hd;have h4:=jdG (jxb m.t h3.nb);rw[qf rfl,qf h3.vd,qe zo]
  simp only[memsV];rw[qf h2];exact jeJ r (λx hx=>h x (qj _ hx))
theorem jtI{c:List Mem}(h:OKC c):validC c=0:=by
 unfold validC;rw[qe (by have:=h.len;omega)];exact jeJ c h.mem
theorem jiH{c:List Mem}(h:validC c=0):c.length<=10:=by
 unfold validC at h;split at h
 ·omega
 ·omega
inductive Tr where
 | mk (kind node:Int) (kids:List Tr)
def Tr.kind:Tr->Int | .mk k _ _=>k
def Tr.node:Tr->Int | .mk _ n _=>n
def Tr.kids:Tr->List Tr | .mk _ _ l=>l
mutual
def tv0:Tr->D
 | .mk k n l=>.agg [.i k,.i n,.sl 3 (tvs l)]
def tvs:List Tr->List D
 | []=>[]
 | t::r=>tv0 t::tvs r
end
def tv(t:Tr):D:=.agg [.i t.kind,.i t.node,.sl 3 (tvs t.kids)]
mutual
theorem Tr.ind0{motive:Tr->Prop}(h:∀k n l,(∀x∈l,motive x)->motive (.mk k n l)):∀t,motive t
 | .mk k n l=>h k n l (Tr.indL h l)
theorem Tr.indL{motive:Tr->Prop}(h:∀k n l,(∀x∈l,motive x)->motive (.mk k n l)):∀(l:List Tr),∀x∈l,motive x
 | []=>λx hx=>qp hx qv
 | t::r=>λx hx=>(zf hx).elim (λe=>e ▸ Tr.ind0 h t) (λh'=>Tr.indL h r x h')
end
mutual
def tsz0:Tr->Nat
 | .mk _ _ l=>1+tszL l
def tszL:List Tr->Nat
 | []=>0
 | t::r=>tsz0 t+tszL r
end
def tsz(t:Tr):Nat:=1+tszL t.kids
def aloneC(c:List Mem)(req:Nat):Bool:=decide (((great c (co c req):Nat):Int)=0)
def interB(c:List Mem):Bool:=(List.range (2^c.length)).all λu=>!quorumC c u||decide (great c (co c u)=0)
theorem jiu{c:List Mem}:interB c=true↔∀u,u<2^c.length->quorumC c u=true->great c (co c u)=0:=by
 unfold interB;rw[List.all_eq_true];constructor
 ·intro h u hu hq
  have:=h u (List.mem_range.2 hu);rw[hq] at this;simpa using this
 ·intro h u hu
  cases hq:quorumC c u with
  | false=>rfl
  | true=>simpa using h u (List.mem_range.1 hu) hq
theorem FindR.inter{c:List Mem}{a b:Nat}(h:FindR c a b):decide ((a:Int)=0)=interB c:=by
 rw[Bool.eq_iff_iff,jiu,decide_eq_true_iff];constructor
 ·intro e
  exact(h.none zo).2
 ·intro hi
  by_cases e:a=0
  ·omega
  ·have p:=h.some e
   have:=hi a h.lt p.1;rw[this] at p;exact qp p.2.1 p.2.2.1
def sameT(n k:Nat):Trust:=.mk k (upTo n) []
def sameC(n k:Nat):List Mem:=List.replicate n ⟨true,sameT n k⟩
theorem jzV{c:List Mem}{s:Nat}(hc:c.length<=10):co c s<1024:=by
 have h:=jaC hc;have:co c s<=2^c.length - 1:=Nat.and_le_left;have:0<2^c.length:=Nat.pow_pos zo;omega
theorem jgG{s:Nat}(hs:s<1024)(hi:i<10):(2^63 - 1 - s).testBit i=!s.testBit i:=by
 have:=Nat.testBit_two_pow_sub_succ (n:=63) (x:=s) zo i;rw[show 2^63 - 1 - s=2^63 - (s+1) from by omega,this,qg zo,qx]
theorem jmJ{c:List Mem}{s:Nat}(hc:c.length<=10)(hs:s<1024):(co c s).testBit i=(decide (i<c.length)&&!s.testBit i):=by
 unfold co;rw[Nat.testBit_and,Nat.testBit_two_pow_sub_one]
 by_cases h:i<c.length
 ·rw[jgG hs zo]
 ·simp[h]
theorem jvH{c:List Mem}(h:(declC c).testBit i=true):i<c.length:=by
 obtain⟨m,_,h2,_⟩:=jc0.1 h;exact(List.getElem?_eq_some_iff.1 h2).1
theorem jlQ{c:List Mem}{x:Nat}(hx:x<1024):great c x<2^c.length :=
 jdG λi hi=>jvH ((jbw c hx).decl i hi)
theorem jxd:((List.range 11).all λn=>(List.range 11).all λk=>!decide (1<=k/\k<=n)||decide (validC (sameC n k)=0))=true:=by kernel_rfl
theorem jpr{n:Nat}(hn:n<=10)(hk:1<=k/\k<=n):validC (sameC n k)=0:=by
 have h1:=List.all_eq_true.1 (List.all_eq_true.1 jxd n (List.mem_range.2 zo)) k (List.mem_range.2 zo);rw[qg hk] at h1;simpa using h1
def subsIn(s n:Nat):Nat->List Int
 | 0=>[]
 | m+1=>subsIn s n m++(if (decide (((m&&&s:Nat):Int)=(m:Int))&&decide ((popN m:Int)=(n:Int)))=true then [(m:Int)] else [])
def subsTo(s:Nat):Nat->List Int
 | 0=>[]
 | n+1=>subsTo s n++subsIn s n (s+1)
def subs(s:Nat):List Int:=subsTo s (popN s+1)
theorem jdW{s n:Nat}{x:Int}:∀{m:Nat},x∈subsIn s n m↔∃u:Nat,x=u/\u<m/\u&&&s=u/\popN u=n
 | 0=>by simp[subsIn]
 | m+1=>by
  simp only[subsIn,List.mem_append,jdW (m:=m),qh,qo];constructor
  ·rintro(⟨u,e,h,k⟩ | h)
   ·exact⟨u,e,by omega,k⟩
   ·split at h
    ·rename_i h1
     obtain rfl:x=m:=by simpa using h
     exact⟨m,rfl,by omega,by omega,by omega⟩
    ·cases h
  ·rintro⟨u,e,h,k1,k2⟩
   rcases Nat.lt_or_ge u m with h2 | h2
   ·exact .inl ⟨u,e,h2,k1,k2⟩
   ·obtain rfl:u=m:=by omega
    right
    rw[qf ⟨by omega,by omega⟩,e];exact za
theorem je8{s:Nat}{x:Int}:∀{n:Nat},x∈subsTo s n↔∃u:Nat,x=u/\u<s+1/\u&&&s=u/\popN u<n
 | 0=>by simp[subsTo]
 | n+1=>by
  simp only[subsTo,List.mem_append,je8 (n:=n),jdW];constructor
  ·rintro(⟨u,e,h,k1,k2⟩ | ⟨u,e,h,k1,k2⟩)
   ·exact⟨u,e,h,k1,by omega⟩
   ·exact⟨u,e,h,k1,by omega⟩
  ·rintro⟨u,e,h,k1,k2⟩
   rcases Nat.lt_or_ge (popN u) n with h2 | h2
   ·exact .inl ⟨u,e,h,k1,h2⟩
   ·exact .inr ⟨u,e,h,k1,by omega⟩
def keyLt(x y:Int):Prop:=key x.toNat<key y.toNat
theorem jex{s n:Nat}:∀(m:Nat),(subsIn s n m).Pairwise keyLt
 | 0=>.nil
 | m+1=>by
  simp only[subsIn];rw[List.pairwise_append];refine⟨jex m,?_,?_⟩
  ·split
   ·exact List.pairwise_singleton _ _
   ·exact .nil
  ·intro x hx y hy
   obtain⟨u,rfl,h1,h2,h3⟩:=jdW.1 hx;split at hy
   ·rename_i h5
    simp only[qh,qo] at h5;obtain rfl:y=m:=by simpa using hy
    unfold keyLt key;rw[qq,qq];omega
   ·cases hy
theorem jeU{s:Nat}(hs:s<1024):∀(n:Nat),(subsTo s n).Pairwise keyLt
 | 0=>.nil
 | n+1=>by
  simp only[subsTo];rw[List.pairwise_append];refine⟨jeU hs n,jex _,?_⟩;intro x hx y hy;obtain⟨u,rfl,h1,h2,h3⟩:=je8.1 hx;obtain⟨v,rfl,k1,k2,k3⟩:=jdW.1 hy;unfold keyLt key;rw[qq,qq];omega
theorem jrh{n:Nat}(h:n<=10):popN (2^n - 1)=n:=by
 have:=List.all_eq_true.1 (show ((List.range 11).all λn=>decide (popN (2^n - 1)=n))=true by kernel_rfl) n (List.mem_range.2 zo);simpa using this
theorem jj7{n:Nat}{x:Int}(hn:n<=10):x∈subs (2^n - 1)↔∃u:Nat,x=u/\u<2^n:=by
 have hpos:0<2^n:=Nat.pow_pos zo;have h10:=jaC hn;unfold subs;rw[je8,jrh hn];constructor
 ·rintro⟨u,e,h1,h2,h3⟩
  exact⟨u,e,by omega⟩
 ·rintro⟨u,e,h⟩
  refine⟨u,e,by omega,by rw[Nat.and_two_pow_sub_one_eq_mod];exact Nat.mod_eq_of_lt h,?_⟩;have:=(jr9 (s:=u) zo).2.2.2 n zo h;omega
theorem jmR{n:Nat}{x:Int}(hn:n<=10)(hx:(subs (2^n - 1))[i]?=some x){u:Nat}(hu:u<2^n)(hk:key u<key x.toNat):(u:Int)∈(subs (2^n - 1)).take i:=by
 have hpos:0<2^n:=Nat.pow_pos zo;have h10:=jaC hn;have hs:(subs (2^n - 1)).Pairwise keyLt:=jeU zo _;have hm:(u:Int)∈subs (2^n - 1):=(jj7 hn).2 ⟨u,rfl,hu⟩;obtain⟨hi,hx2⟩:=List.getElem?_eq_some_iff.1 hx
 have e:subs (2^n - 1)=(subs (2^n - 1)).take i++x::(subs (2^n - 1)).drop (i+1):=by
  rw[<-hx2,<-List.drop_eq_getElem_cons hi,List.take_append_drop]
 generalize hA:(subs (2^n - 1)).take i=A at e ⊢
 generalize hB:(subs (2^n - 1)).drop (i+1)=B at e
 rw[e] at hs hm;rw[List.pairwise_append,List.pairwise_cons] at hs;rcases zk hm with h | h
 ·exact h
 ·exfalso
  rcases zf h with h | h
  ·rw[<-h,qq] at hk
   omega
  ·have:=hs.2.1.1 _ h
   unfold keyLt at this;rw[qq] at this;omega
theorem jnf{p:Nat}:decide (((p / 2^k&&&1:Nat):Int)=1)=p.testBit k:=by
 rw[Nat.and_one_is_mod,Nat.testBit_eq_decide_div_mod_eq];have:=Nat.mod_two_eq_zero_or_one (p / 2^k);rw[Bool.eq_iff_iff,decide_eq_true_iff,decide_eq_true_iff];omega
def lw(k:Int):Int:=if k<=0 then k else IntKind.i64.wrap (k - 1)
def lessN(s:Int):List Int->Int->List Int->Int × List Int
 | [],th,q=>(th,q)
 | x::r,th,q=>if has s x=true then lessN s r (lw th) q else lessN s r th (q++[x])
mutual
def less0(s:Int):Trust->Trust
 | .mk th ns is=>.mk (lessI s is (lessN s ns th []).1 []).1 (lessN s ns th []).2 (lessI s is (lessN s ns th []).1 []).2
def lessI(s:Int):List Trust->Int->List Trust->Int × List Trust
 | [],th,q=>(th,q)
 | t::r,th,q=>if (less0 s t).th<=0 then lessI s r (lw th) q else lessI s r th (q++[less0 s t])
end
def less(s:Int)(t:Trust):Trust:=.mk (lessI s t.inner (lessN s t.nodes t.th []).1 []).1 (lessN s t.nodes t.th []).2 (lessI s t.inner (lessN s t.nodes t.th []).1 []).2
theorem jvM(s:Int)(t:Trust):less0 s t=less s t:=by cases t;rfl
theorem jb9(s:Int)(t:Trust)(r:List Trust)(th:Int)(q:List Trust):lessI s (t::r) th q=if (less s t).th<=0 then lessI s r (lw th) q else lessI s r th (q++[less s t]):=by rw[<-jvM];rfl
structure Rest(q s r:Nat):Prop where
 lq:q<1024
 ls:s<1024
 lr:r<1024
 bit:∀i,r.testBit i=(q.testBit i&&!s.testBit i)
theorem jgC(s:Int):∀(l:List Int)(th:Int)(p:List Int),(lessN s l th p).2.length<=p.length+l.length
 | [],th,p=>by simp[lessN]
 | x::l,th,p=>by
  simp only[lessN,qi];split
  ·have:=jgC s l (lw th) p;omega
  ·have:=jgC s l th (p++[x]);simp only[qm,qi,qu] at this;omega
theorem jim(x:Trust):∀l,sizeL (l++[x])=sizeL l+sizeT x
 | []=>by rw[List.nil_append,jbd];simp[sizeL]
 | y::r=>by rw[List.cons_append,jbd,jbd,jim x r];omega
theorem jfa(s:Int):∀(l:List Trust),(∀t∈l,sizeT (less s t)<=sizeT t)->∀(th:Int)(p:List Trust),(lessI s l th p).2.length+sizeL (lessI s l th p).2<=p.length+sizeL p+l.length+sizeL l
 | [],_,th,p=>by simp[lessI,sizeL]
 | x::l,hx,th,p=>by
  have hx1:=hx x (za);have hx2:=λt ht=>hx t (qj _ ht);rw[jb9,qi,jbd];split
  ·have:=jfa s l hx2 (lw th) p;omega
  ·have:=jfa s l hx2 th (p++[less s x]);simp only[qm,qi,qu,jim] at this;omega
theorem jqO(s:Int):∀t,sizeT (less s t)<=sizeT t:=by
 intro t
 induction t using Trust.ind with
 | _ t ih =>
  have h1:=jgC s t.nodes t.th [];have h2:=jfa s t.inner ih (lessN s t.nodes t.th []).1 [];simp only[qu,sizeL] at h1 h2;have h3:sizeT t=t.nodes.length+t.inner.length+sizeL t.inner:=rfl;have h4:sizeT (less s t)=(lessN s t.nodes t.th []).2.length+(lessI s t.inner (lessN s t.nodes t.th []).1 []).2.length+sizeL (lessI s t.inner (lessN s t.nodes t.th []).1 []).2:=rfl;omega
def delT(s k:Int)(t:Trust):Trust:=if (less s t).th<=0 then .mk 1 [k] [] else less s t
def delM(s:Int)(k:Nat)(m:Mem):Mem:=if has s k=true then ⟨false,Trust.none⟩ else if m.decl=true then ⟨true,delT s k m.t⟩ else m
def delGo(s:Int):Nat->List Mem->List Mem
 | _,[]=>[]
 | k,m::r=>delM s k m::delGo s (k+1) r
def delC(c:List Mem)(s:Int):List Mem:=delGo s 0 c
theorem jgu(s:Int):∀(k:Nat)(l:List Mem),(delGo s k l).length=l.length
 | _,[]=>rfl
 | k,m::r=>by simp only[delGo,qi,jgu s (k+1) r]
theorem jl1(s:Int):∀(l:List Mem)(k i:Nat)(m:Mem),l[i]?=some m->(delGo s k l)[i]?=some (delM s (k+i) m)
 | m::r,k,0,x,h=>by simp at h;subst h;rfl
 | m::r,k,i+1,x,h=>by
  have h2:r[i]?=some x:=by simpa using h
  simp only[delGo,List.getElem?_cons_succ];rw[jl1 s r (k+1) i x h2,Nat.add_assoc,Nat.add_comm 1 i]
theorem jqV(s:Int)(k:Nat)(m:Mem):sizeT (delM s k m).t<=sizeT m.t+1:=by
 unfold delM;split
 ·have:sizeT Trust.none=0:=rfl
  show sizeT Trust.none<=_;omega
 ·split
  ·show sizeT (delT s k m.t)<=_
   unfold delT;split
   ·have:sizeT (.mk 1 [(k:Int)] [])=1:=rfl
    omega
   ·have:=jqO s m.t;omega
  ·omega
theorem jq2{c:List Mem}{s:Int}{B:Nat}(h:∀m∈c,sizeT m.t<=B):∀m∈delC c s,sizeT m.t<=B+1:=λm hm=>by
 obtain⟨i,hi⟩:=List.mem_iff_getElem?.1 hm;have hil:i<c.length:=by have:=(List.getElem?_eq_some_iff.1 hi).1;unfold delC at this;rwa [jgu] at this
 have h2:=jl1 s c 0 i c[i] (ze hil);unfold delC at hi;rw[h2] at hi;obtain rfl:delM s (0+i) c[i]=m:=by simpa using hi
 have:=jqV s (0+i) c[i];have:=h c[i] (List.getElem_mem hil);omega
structure Cl where
 a:Int
 b:Int
deriving DecidableEq
structure Msg where
 node:Int
 seq:Int
 t:Trust
 votes:List Cl
 acc:List Cl
def validCl(x:Cl):Bool:=decide (0<=x.a)&&(decide (x.a<8)&&(decide (0<=x.b)&&decide (x.b<=15)))
def cmpZ(a b:Int):Int:=if a<b then -1 else if b<a then 1 else 0
def cmpC(x y:Cl):Int:=if cmpZ x.a y.a=0 then cmpZ x.b y.b else cmpZ x.a y.a
def plainGo(p:Option Cl):List Cl->Bool
 | []=>true
 | x::r=>validCl x&&((match p with | none=>true | some y=>decide (cmpC y x<0))&&plainGo (some x) r)
def plainC(l:List Cl):Bool:=plainGo none l
def nodeV(k:Int):Bool:=decide (0<=k)&&decide (k<10)
def plainM(m:Msg):Bool:=nodeV m.node&&(decide (1<=m.seq)&&(decide (validT m.t=0)&&(plainC m.votes&&plainC m.acc)))
def noMem:Mem:=⟨false,Trust.none⟩
def viewGo(v:Int):List Mem->List Msg->List Mem
 | q,[]=>q
 | q,m::r=>if (!decide (m.node=v)&&plainM m)=true then viewGo v (q.set m.node.toNat ⟨true,m.t⟩) r else viewGo v q r
def view(v:Int)(t:Trust)(l:List Msg):List Mem :=
 if (nodeV v&&decide (validT t=0))=true then (viewGo v (List.replicate 10 noMem) l).set v.toNat ⟨true,t⟩ else viewGo v (List.replicate 10 noMem) l
theorem jfw(v:Int):∀(l:List Msg)(q:List Mem),(viewGo v q l).length=q.length
 | [],q=>rfl
 | m::r,q=>by
  simp only[viewGo];split
  ·rw[jfw v r,List.length_set]
  ·exact jfw v r q
theorem jog{v:Nat}{t:Trust}{l:List Msg}(hv:v<10)(ht:validT t=0):(view v t l)[v]?=some ⟨true,t⟩:=by
 unfold view nodeV;rw[qf (by simp[ht];omega),qq,List.getElem?_set_self (by rw[jfw];simp;exact hv)]
theorem jng{w:World}{O:Nat->Prop}{sz:Nat}{d:D}{c:Value}(hc:c.cells.size=sz)(h1:∀u∈c.cells.toList,u.oneCell'=true)(hr:Rep w O d c):∀n,RepE w O sz (List.replicate n d) (List.replicate n c.cells.toList).flatten
 | 0=>by simp[RepE]
 | n+1=>by
  rw[List.replicate_succ,List.replicate_succ,List.flatten_cons];exact⟨c,_,rfl,hc,h1,hr,jng hc h1 hr n⟩
def zeroMem:Value:=.agg #[.bool false,.int .i64 0,.slice none 0 0,.slice none 0 0]
theorem jn4(w:World)(O:Nat->Prop):RepE w O 4 ((List.replicate 10 noMem).map mv) (List.replicate 10 zeroMem.cells.toList).flatten:=by
 rw[List.map_replicate];refine jng rfl (by simp[zeroMem,Value.cells,Value.oneCell']) ?_ 10;simp[mv,noMem,Trust.none,Trust.th,Trust.nodes,Trust.inner,zeroMem,Rep,RepL,RepE,avs,capB,Value.oneCell'];exact⟨_,_,⟨rfl,rfl⟩,rfl,rfl,_,_,rfl,rfl,rfl,_,_,rfl,.inr rfl,rfl,_,_,rfl,.inr rfl,rfl,rfl⟩
def sg(a b:Int):Int:=if a<b then -1 else if b<a then 1 else 0
def cmpN:List Int->List Int->Int
 | [],[]=>0
 | [],_::_=>-1
 | _::_,[]=>1
 | a::r,b::s=>if sg a b=0 then cmpN r s else sg a b
mutual
def cmp0:Trust->Trust->Int
 | .mk a ns is,.mk b ms js=>if sg a b=0 then (if cmpN ns ms=0 then cmpL is js else cmpN ns ms) else sg a b
def cmpL:List Trust->List Trust->Int
 | [],[]=>0
 | [],_::_=>-1
 | _::_,[]=>1
 | t::r,u::q=>if cmp0 t u=0 then cmpL r q else cmp0 t u
end
structure PairOK(lo hi:List Mem):Prop where
 vl:validC lo=0
 vh:validC hi=0
 len:1<=lo.length/\lo.length<=6
 len2:hi.length=lo.length
 decl:declC lo=declC hi
 sat:∀(k:Nat)(a b:Mem),lo[k]?=some a->hi[k]?=some b->∀s,sat s b.t=true->sat s a.t=true
theorem jh7{n:Nat}:∀(c:List Mem),memsV n c=0->∀m∈c,sizeT m.t<=200
 | [],_,m,hm=>qp hm qv
 | x::r,h,m,hm=>by
  simp only[memsV] at h
  by_cases h0:memV x n=0
  ·rw[qf h0] at h
   rcases zf hm with rfl | hm
   ·unfold memV at h0
    split at h0
    ·split at h0
     ·rename_i hv
      unfold validT at hv;split at hv
      ·omega
      ·omega
     ·omega
    ·split at h0
     ·rename_i hb
      cases e:m.t with
      | mk a ns is =>
       rw[e] at hb;simp only[Trust.th,Trust.nodes,Trust.inner] at hb;rw[List.eq_nil_of_length_eq_zero hb.2.1,List.eq_nil_of_length_eq_zero hb.2.2];simp[sizeT,Trust.nodes,Trust.inner,sizeL]
     ·omega
   ·exact jh7 r h m hm
  ·rw[qe h0] at h
   exact qp h h0
theorem jbS{c:List Mem}(h:validC c=0):∀m∈c,sizeT m.t<=200:=by
 unfold validC at h;split at h
 ·omega
 ·exact jh7 c h
abbrev Str:=ByteArray
def noS:Str:=⟨#[]⟩
structure Bal where
 n:Int
 v:Str
def Bal.none:Bal:=⟨0,noS⟩
def bv(b:Bal):D:=.agg [.i b.n,.v (.string b.v)]
def zB(b:Bal):Bool:=decide (b.n=0)&&decide (b.v=noS)
def vB(b:Bal):Bool:=((decide (1<=b.n)&&decide (b.n<=1000))||decide (b.n=1000000))&&(decide (1<=b.v.size)&&decide (b.v.size<=200))
def sLt(a b:Str):Bool:=Op.bytesLess a.toList b.toList
def s3(a b:Str):Int:=if sLt a b=true then -1 else if (!(sLt a b||decide (a=b)))=true then 1 else 0
def or3(a b:Int):Int:=if a=0 then b else a
def cV(a b:Str):Int:=or3 (sg a.size b.size) (s3 a b)
def cmB(a b:Bal):Int:=or3 (sg a.n b.n) (cV a.v b.v)
def lB(a b:Bal):Bool:=decide (cmB a b<0)
def cB(a b:Bal):Bool:=decide (a.v=b.v)
def covB(p b:Bal):Bool:=!zB p&&(cB p b&&decide (b.n<=p.n))
def abB(p b:Bal):Bool:=!zB p&&(!cB p b&&lB b p)
def prB(p q b:Bal):Bool:=covB p b||(covB q b||(!zB q&&lB b q))
structure Evp where
 node:Int
 slot:Int
 seq:Int
 t:Trust
 kind:Int
 bal:Bal
 prep:Bal
 prime:Bal
 low:Int
 high:Int
def ev(e:Evp):D:=.agg [.i e.node,.i e.slot,.i e.seq,.i e.t.th,.sl 1 (e.t.nodes.map .i),.sl 3 (avs e.t.inner),.i e.kind,.i e.bal.n,.v (.string e.bal.v),.i e.prep.n,.v (.string e.prep.v),.i e.prime.n,.v (.string e.prime.v),.i e.low,.i e.high]
def at_(e:Evp)(k:Int):Bal:=⟨k,e.bal.v⟩
def finB(b:Bal):Bool:=vB b&&decide (b.n<=1000)
def optB(b:Bal):Bool:=zB b||vB b
def prepE(e:Evp):Bool :=
 (finB e.bal&&(optB e.prep&&(optB e.prime&&((zB e.prime||(!zB e.prep&&(lB e.prime e.prep&&!cB e.prime e.prep)))&&(decide (0<=e.low)&&(decide (e.low<=e.high)&&decide (e.high<=e.bal.n))))))) &&
   ((decide (e.high=0)||prB e.prep e.prime (at_ e e.high))&&(decide (e.low=0)||(!abB e.prep (at_ e e.low)&&!abB e.prime (at_ e e.low))))
def rngE(e:Evp):Bool:=decide (1<=e.low)&&(decide (e.low<=e.high)&&decide (e.high<=1000))
def headE(e:Evp):Bool:=decide (0<=e.node)&&(decide (e.node<10)&&(decide (1<=e.slot)&&(decide (e.slot<=1000000)&&(decide (1<=e.seq)&&(decide (e.seq<=1000000)&&decide (validT e.t=0))))))
def kindE(e:Evp):Bool :=
 if e.kind=1 then prepE e
 else if e.kind=2 then finB e.bal&&(vB e.prep&&(cB e.prep e.bal&&(zB e.prime&&(rngE e&&decide (e.high<=e.prep.n)))))
 else if e.kind=3 then vB e.bal&&(zB e.prep&&(zB e.prime&&rngE e))
 else false
def vE(e:Evp):Bool:=headE e&&kindE e
def cntE(e:Evp):Int:=if e.kind=3 then 1000000 else e.bal.n
structure Mach where
 node:Int
 slot:Int
 seq:Int
 t:Trust
 phase:Int
 bal:Bal
 prep:Bal
 prime:Bal
 conf:Bal
 low:Int
 high:Int
 prop:Str
 heard:List Evp
def mcv(m:Mach):D:=.agg [.i m.node,.i m.slot,.i m.seq,.i m.t.th,.sl 1 (m.t.nodes.map .i),.sl 3 (avs m.t.inner),.i m.phase,.i m.bal.n,.v (.string m.bal.v),.i m.prep.n,.v (.string m.prep.v),.i m.prime.n,.v (.string m.prime.v),.i m.conf.n,.v (.string m.conf.v),.i m.low,.i m.high,.v (.string m.prop),.sl 15 (m.heard.map ev)]
def msgM(m:Mach):Evp:=⟨m.node,m.slot,m.seq,m.t,m.phase,m.bal,m.prep,m.prime,m.low,if m.phase=1 then (if (!zB m.conf&&cB m.conf m.bal)=true then m.conf.n else 0) else m.high⟩
def heardGo(m:Mach):Option Int->List Evp->Bool
 | _,[]=>true
 | p,e::r=>(vE e&&(decide (e.slot=m.slot)&&(!decide (e.node=m.node)&&(match p with | none=>true | some q=>decide (q<e.node)))))&&heardGo m (some e.node) r
def heardM(m:Mach):Bool:=heardGo m none m.heard
def freshM(m:Mach):Bool:=decide (m.phase=1)&&(decide (m.seq=0)&&(zB m.prep&&(zB m.prime&&(zB m.conf&&(decide (m.low=0)&&decide (m.high=0))))))
def confM(m:Mach):Bool :=
 if zB m.conf=true then true else if (!vB m.conf||decide (1000<m.conf.n))=true then false
 else prB m.prep m.prime m.conf||(!decide (m.phase=1)&&cB m.conf m.bal)
def headM(m:Mach):Bool:=decide (0<=m.node)&&(decide (m.node<10)&&(decide (1<=m.slot)&&(decide (m.slot<=1000000)&&(decide (0<=m.seq)&&(decide (m.seq<=1000000)&&(decide (validT m.t=0)&&(decide (m.prop.size<=200)&&heardM m)))))))
def checkM(m:Mach):Bool :=
 headM m&&(if zB m.bal=true then freshM m else vE (msgM m)&&(confM m&&((!decide (m.phase=1)||decide (m.high=0))&&((decide (m.phase=1)||zB m.prime)&&(!decide (m.phase=3)||zB m.prep)))))
def nobody:List Mem:=List.replicate 10 ⟨false,Trust.none⟩
def putE(c:List Mem)(e:Evp):List Mem :=
 if vE e=true then (match c[e.node.toNat]? with | some m=>if m.decl=true then c else c.set e.node.toNat ⟨true,e.t⟩ | none=>c) else c
def putsE:List Evp->List Mem->List Mem
 | [],c=>c
 | e::r,c=>putsE r (putE c e)
def viewE(node:Int)(t:Trust)(l:List Evp):List Mem:=if node<0\/10<=node then nobody else putsE l (nobody.set node.toNat ⟨true,t⟩)
def rights(l:List Evp):List Evp:=l.filter vE
def whoGo(p:Evp->Bool):List Evp->Nat->Nat
 | [],s=>s
 | e::r,s=>whoGo p r (if p e=true then s|||1 * 2^e.node.toNat else s)
def whoE(p:Evp->Bool)(l:List Evp):Nat:=whoGo p l 0
def togM(m:Mach):Bool :=
 if (!(!zB m.bal&&checkM m))=true then false else if m.phase=3 then false
 else has (great (viewE m.node m.t (m.heard++[msgM m])) (whoE (λe=>decide (m.bal.n<=cntE e)) (rights (m.heard++[msgM m])):Nat)) m.node
theorem jcx{e:Evp}(h:vE e=true):0<=e.node/\e.node<10:=by
 simp only[vE,headE,qh,qo] at h;omega
structure Tm where
 n:Int
 due:Int
def tmv(t:Tm):D:=.agg [.i t.n,.i t.due]
def waitV(k:Int):Int:=max (min k 11) 0+1
def vTm(t:Tm):Bool:=decide (0<=t.n)&&(decide (t.n<=1000000)&&(decide (-1<=t.due)&&decide (t.due<=212)))
def stepBad(t:Tm)(now:Int):Bool:=!vTm t||(decide (now<0)||decide (200<now))
def stepNew(t:Tm)(m:Mach):Bool:=decide (t.due=-1)||!decide (t.n=m.bal.n)
def stepV(t:Tm)(m:Mach)(now:Int):Tm × Bool :=
 if stepBad t now=true then (⟨0,-1⟩,false)
 else if togM m=false then (⟨m.bal.n,-1⟩,false)
 else if stepNew t m=true then (⟨m.bal.n,now+waitV m.bal.n⟩,false)
 else if t.due<=now then (⟨m.bal.n,-1⟩,true) else (t,false)
theorem jxk{a b:Int}(h:a=b):sg a b=0:=by unfold sg;rw[qe zo,qe zo]
theorem jyK{a b:Int}(h:a<b):sg a b=-1:=by unfold sg;rw[qf h]
theorem jyD{a b:Int}(h:b<a):sg a b=1:=by unfold sg;rw[qe zo,qf h]
theorem jzI(b:Int):or3 0 b=b:=rfl
theorem jz3(b:Int):or3 (-1) b=-1:=rfl
theorem jzo(b:Int):or3 1 b=1:=rfl
theorem jAc(a b:Str):decide (s3 a b<0)=sLt a b:=by
 unfold s3;cases h:sLt a b with
 | true=>rfl
 | false =>
  rw[qe zd];split<;>rfl
theorem jtk(a b:Str):decide (cV a b<0)=if a.size=b.size then sLt a b else decide ((a.size:Int)<(b.size:Int)):=by
 unfold cV
 by_cases h:a.size=b.size
 ·rw[qf h,jxk zo,jzI,jAc]
 ·rw[qe h]
  by_cases h2:(a.size:Int)<b.size
  ·rw[jyK h2,jz3,qg h2];rfl
  ·rw[jyD zo,jzo,qz h2];rfl
theorem jk5(a b:Bal):lB a b=if a.n=b.n then decide (cV a.v b.v<0) else decide (a.n<b.n):=by
 unfold lB cmB
 by_cases h:a.n=b.n
 ·rw[qf h,jxk h,jzI]
 ·rw[qe h]
  by_cases h2:a.n<b.n
  ·rw[jyK h2,jz3,qg h2];rfl
  ·rw[jyD zo,jzo,qz h2];rfl
def rkL:Nat->List UInt8->Nat
 | a,[]=>a
 | a,x::r=>rkL (a * 257+(x.toNat+1)) r
theorem jft:∀(l:List UInt8)(a:Nat),rkL a l=a * 257^l.length+rkL 0 l
 | [],a=>by simp[rkL]
 | x::r,a=>by
  simp only[rkL,qi];rw[jft r (a * 257+(x.toNat+1)),jft r (0 * 257+(x.toNat+1)),Nat.pow_succ];simp only[Nat.zero_mul,Nat.zero_add,Nat.add_mul];rw[Nat.mul_assoc a,Nat.mul_comm 257];omega
theorem jnJ:∀(l:List UInt8),rkL 0 l<257^l.length
 | []=>by simp[rkL]
 | x::r=>by
  have h1:=jnJ r;have h2:x.toNat<256:=x.toNat_lt;simp only[rkL,qi];rw[jft,Nat.pow_succ];have h3:(0 * 257+(x.toNat+1)) * 257^r.length<=256 * 257^r.length:=Nat.mul_le_mul_right _ zo;omega
theorem jwk(x:UInt8)(r:List UInt8):257^r.length<=rkL 0 (x::r):=by
 simp only[rkL];rw[jft];have h3:1 * 257^r.length<=(0 * 257+(x.toNat+1)) * 257^r.length:=Nat.mul_le_mul_right _ zo;omega
theorem jwA{x y:List UInt8}(h:x.length<y.length):rkL 0 x<rkL 0 y:=by
 cases y with
 | nil=>simp at h
 | cons a r =>
  have h1:=jnJ x;have h2:=jwk a r;have h3:257^x.length<=257^r.length:=Nat.pow_le_pow_right zo (by simp at h;omega);omega
theorem jnu:∀(x y:List UInt8),x.length=y.length->Op.bytesLess x y=true->rkL 0 x<rkL 0 y
 | [],[],_,h=>by simp[Op.bytesLess] at h
 | [],_::_,h,_=>by simp at h
 | _::_,[],h,_=>by simp at h
 | a::x,b::y,hl,h=>by
  have hl':x.length=y.length:=by simpa using hl
  simp only[Op.bytesLess,Bool.or_eq_true,qh,qo,beq_iff_eq] at h;simp only[rkL];rw[jft x,jft y,hl'];rcases h with h | ⟨rfl,h⟩
  ·have h1:a.toNat<b.toNat:=h
   have h2:=jnJ x;rw[hl'] at h2;have h3:(0 * 257+(a.toNat+1)+1) * 257^y.length<=(0 * 257+(b.toNat+1)) * 257^y.length:=Nat.mul_le_mul_right _ zo;rw[Nat.add_mul _ 1] at h3;omega
  ·have:=jnu x y hl' h
   omega
def RR:Nat:=257^201
def rk(s:Str):Nat:=rkL 0 s.toList
theorem jg8(s:Str):s.toList.length=s.size:=by rw[ByteArray.toList_eq];rfl
theorem jyR{s:Str}(h:s.size<=200):rk s<RR:=by
 refine qA (jnJ _) ?_;rw[jg8];exact Nat.pow_le_pow_right zo zo
theorem jyf{a b:Str}(h:cV a b<0):rk a<rk b:=by
 have h1:=jtk a b;rw[qg h] at h1
 by_cases h2:a.size=b.size
 ·rw[qf h2] at h1
  exact jnu _ _ (by rw[jg8,jg8,h2]) h1.symm
 ·rw[qe h2] at h1
  have h3:=qc h1.symm;exact jwA (by rw[jg8,jg8];omega)
def rB(b:Bal):Nat:=b.n.toNat * RR+rk b.v
structure BB(b:Bal):Prop where
 n0:0<=b.n
 n1:b.n<=1000000
 sz:b.v.size<=200
theorem jcc:BB Bal.none:=⟨by decide,by decide,by decide⟩
def RM:Nat:=1000001 * RR
theorem jva{b:Bal}(h:BB b):rB b<=RM:=by
 have h1:=jyR h.sz;have h2:(b.n.toNat+1) * RR<=1000001 * RR:=Nat.mul_le_mul_right _ (by have:=h.n0;have:=h.n1;omega);rw[Nat.add_mul,Nat.one_mul] at h2;unfold rB RM;omega
theorem rB_n{a b:Bal}(ha:BB a)(h:a.n<b.n):rB a<rB b:=by
 have h1:=jyR ha.sz;have h2:(a.n.toNat+1) * RR<=b.n.toNat * RR:=Nat.mul_le_mul_right _ (by have:=ha.n0;omega);rw[Nat.add_mul,Nat.one_mul] at h2;unfold rB;omega
theorem jl5{a b:Bal}(ha:BB a)(h:lB a b=true):rB a<rB b:=by
 rw[jk5] at h
 by_cases h1:a.n=b.n
 ·rw[qf h1] at h
  have:=jyf (qc h);unfold rB;rw[h1];omega
 ·rw[qe h1] at h
  exact rB_n ha (qc h)
theorem lB_n{n:Int}{v:Str}{b:Bal}(h:lB ⟨n,v⟩ b=true):n<=b.n:=by
 rw[jk5] at h
 by_cases h1:n=b.n
 ·omega
 ·rw[qe h1] at h
  have:=qc h;simp only at this;omega
theorem jqa{b:Bal}(h:zB b=true):b=Bal.none:=by
 unfold zB at h;simp only[qh,qo] at h;cases b;simp only at h;rw[h.1,h.2];rfl
theorem jrX:rB Bal.none=0:=by
 unfold rB rk Bal.none;rw[show (noS:Str).toList=[] from by rw[ByteArray.toList_eq];rfl];simp[rkL]
theorem jzC{b:Bal}(h0:0<=b.n)(h:zB b=false):0<rB b:=by
 have hR:0<RR:=Nat.pow_pos zo
 by_cases h1:b.n=0
 ·have h2:¬b.v=noS:=by
   intro e;unfold zB at h;rw[qg h1,qg e] at h;cases h
  cases e:b.v.toList with
  | nil =>
   exfalso;apply h2;have:b.v.data.toList=[]:=by rw[<-ByteArray.toList_eq];exact e
   cases hb:b.v with
   | mk d =>
    rw[hb] at this;simp only at this;show ByteArray.mk d=ByteArray.mk #[]
    congr 1
    exact Array.toList_inj.1 this
  | cons x r =>
   have:=jwk x r;have h3:0<257^r.length:=Nat.pow_pos zo;unfold rB rk;rw[e];omega
 ·have:1 * RR<=b.n.toNat * RR:=Nat.mul_le_mul_right _ zo
  unfold rB;omega
def joinV(p q b:Bal):Bal × Bal :=
 if zB b=true then (p,q) else if zB p=true then (b,q)
 else if lB p b=true then (if (!cB p b)=true then (b,p) else if cB q b=true then (b,Bal.none) else (b,q))
 else if (lB b p&&(!cB b p&&(zB q||lB q b)))=true then (p,b) else (p,q)
theorem jpv{p q b:Bal}(hp:BB p)(hq:BB q)(hb:BB b):BB (joinV p q b).1/\BB (joinV p q b).2/\(joinV p q b=(p,q)\/rB p<rB (joinV p q b).1\/((joinV p q b).1=p/\rB q<rB (joinV p q b).2)):=by
 unfold joinV;split
 ·exact⟨hp,hq,.inl rfl⟩
 rename_i h1;have hb0:=jzC hb.n0 (by simpa using h1);split
 ·rename_i h2
  refine⟨hb,hq,.inr (.inl ?_)⟩;rw[jqa h2,jrX];exact hb0
 split
 ·rename_i h3
  have h4:=jl5 hp h3;split
  ·exact⟨hb,hp,.inr (.inl h4)⟩
  split
  ·exact⟨hb,jcc,.inr (.inl h4)⟩
  ·exact⟨hb,hq,.inr (.inl h4)⟩
 split
 ·rename_i h5
  refine⟨hp,hb,.inr (.inr ⟨rfl,?_⟩)⟩;simp only[qh,Bool.or_eq_true] at h5;rcases h5.2.2 with h6 | h6
  ·rw[jqa h6,jrX];exact hb0
  ·exact jl5 hq h6
 ·exact⟨hp,hq,.inl rfl⟩
structure InvM(m:Mach):Prop where
 ph:m.phase=1\/m.phase=2\/m.phase=3
 bal:BB m.bal
 baln:m.bal.n<=1000
 prep:BB m.prep
 prime:BB m.prime
 conf:BB m.conf
 confn:m.conf.n<=1000
 low:0<=m.low/\m.low<=1000
 high:0<=m.high/\m.high<=1000
 prop:m.prop.size<=200
 sz:sizeT m.t<=100000
 hl:m.heard.length<=20
 hs:∀e∈m.heard,sizeT e.t<=100000/\BB e.bal
structure SameF(m m':Mach):Prop where
 node:m'.node=m.node
 slot:m'.slot=m.slot
 seq:m'.seq=m.seq
 t:m'.t=m.t
 prop:m'.prop=m.prop
 heard:m'.heard=m.heard
theorem SameF.refl(m:Mach):SameF m m:=⟨rfl,rfl,rfl,rfl,rfl,rfl⟩
theorem SameF.trans{a b c:Mach}(h:SameF a b)(k:SameF b c):SameF a c:=⟨k.node.trans h.node,k.slot.trans h.slot,k.seq.trans h.seq,k.t.trans h.t,k.prop.trans h.prop,k.heard.trans h.heard⟩
def grGo:Bal->List Bal->Bal
 | out,[]=>out
 | out,b::r=>grGo (if lB out b=true then b else out) r
def grM:List Bal->Bal
 | []=>Bal.none
 | b::r=>grGo b r
theorem joS:∀(l:List Bal)(o:Bal),BB o->(∀b∈l,BB b)->BB (grGo o l)
 | [],o,h,_=>h
 | b::r,o,h,hl=>joS r _ (by split;exact hl b (za);exact h) (λx hx=>hl x (qj _ hx))
theorem jy7{l:List Bal}(h:∀b∈l,BB b):BB (grM l):=by
 cases l with
 | nil=>exact jcc
 | cons b r=>exact joS r b (h b (za)) (λx hx=>h x (qj _ hx))
def valM(m:Mach):Str:=if (!zB m.conf)=true then m.conf.v else if (!decide (m.phase=1))=true then m.bal.v else if (!decide (m.prop=noS))=true then m.prop else (grM (m.heard.map Evp.bal)).v
theorem jhb{m:Mach}(h:InvM m):(valM m).size<=200:=by
 unfold valM;split
 ·exact h.conf.sz
 split
 ·exact h.bal.sz
 split
 ·exact h.prop
 ·exact(jy7 (λb hb=>by
   obtain⟨e,he,rfl⟩:=List.mem_map.1 hb
   exact(h.hs e he).2)).sz
def lowm(l:Int):Nat:=if l=0 then 0 else (1001 - l).toNat
def balm(m:Mach):Nat:=(if m.bal.v=valM m then 0 else 2000)+(1000 - m.bal.n).toNat
def lexN(a b:Nat):Nat:=a * (RM+1)+b
def pq(m:Mach):Nat:=lexN (RM - rB m.prep) (RM - rB m.prime)
def g1(m:Mach):Nat:=pq m * 10000+(lowm m.low+balm m)
def GQ:Nat:=RM * (RM+1)+RM
def GM:Nat:=GQ * 10000+9999
def f1(m:Mach):Nat:=(RM - rB m.conf) * (GM+1)+g1 m
def f2(m:Mach):Nat:=pq m+((1000 - m.high).toNat * 2000+m.low.toNat)+((1000 - m.bal.n).toNat+(1000 - m.conf.n).toNat+(if m.conf.v=m.bal.v then 0 else 1))
def F2M:Nat:=GQ+3000000
def mu(m:Mach):Nat:=if m.phase=1 then F2M+2+f1 m else if m.phase=2 then 1+f2 m else 0
theorem jsb{a a' b b':Nat}(h:a'<a)(hb:b'<=RM):lexN a' b'<lexN a b:=by
 have h1:(a'+1) * (RM+1)<=a * (RM+1):=Nat.mul_le_mul_right _ h;rw[Nat.add_mul,Nat.one_mul] at h1;unfold lexN;omega
theorem jwQ{a b:Nat}(ha:a<=RM)(hb:b<=RM):lexN a b<=GQ:=Nat.add_le_add (Nat.mul_le_mul_right _ ha) hb
theorem jzg(m:Mach):pq m<=GQ:=jwQ (Nat.sub_le ..) (Nat.sub_le ..)
theorem jtr{l:Int}(h:0<=l/\l<=1000):lowm l<=1001:=by unfold lowm;split<;>omega
theorem jrL{m:Mach}(h:InvM m):balm m<=3000:=by
 have:=h.bal.n0;unfold balm;split<;>omega
theorem jAa{m:Mach}(h:InvM m):g1 m<=GM:=by
 have h1:=jzg m;have h2:=jtr h.low;have h3:=jrL h;have h4:∀q p a b:Nat,p<=q->a<=1001->b<=3000->p * 10000+(a+b)<=q * 10000+9999:=λq p a b _ _ _=>by omega
 exact h4 GQ (pq m) _ _ h1 h2 h3
theorem jz9{m:Mach}(h:InvM m):f2 m<=F2M:=by
 have h1:=jzg m;have:=h.bal.n0;have:=h.conf.n0;have:=h.low;have:=h.high;unfold f2 F2M;split<;>omega
theorem jsS{m m':Mach}{b:Bal}(h:InvM m)(hb:BB b)(h1:m'.prep=(joinV m.prep m.prime b).1)(h2:m'.prime=(joinV m.prep m.prime b).2) :
 BB m'.prep/\BB m'.prime/\((m'.prep=m.prep/\m'.prime=m.prime)\/pq m'<pq m):=by
 obtain⟨k1,k2,k3⟩:=jpv h.prep h.prime hb;rw[<-h1] at k1 k3;rw[<-h2] at k2 k3;refine⟨k1,k2,?_⟩;have e1:=jva k1;have e2:=jva k2;rcases k3 with k3 | k3 | ⟨k3,k4⟩
 ·rw[k3] at h1 h2
  exact .inl ⟨h1,h2⟩
 ·exact .inr (jsb zo (Nat.sub_le ..))
 ·right
  unfold pq lexN;rw[k3];omega
theorem jrB{m m':Mach}(h:InvM m)(h':InvM m')(hp:m.phase=1)(hp':m'.phase=1)(hc:rB m.conf<rB m'.conf):mu m'<mu m:=by
 have e1:=jva h'.conf;have e2:=jAa h';have e3:(RM - rB m'.conf+1) * (GM+1)<=(RM - rB m.conf) * (GM+1):=Nat.mul_le_mul_right _ zo;rw[Nat.add_mul,Nat.one_mul] at e3;unfold mu;rw[qf hp,qf hp'];unfold f1;omega
theorem jxz{m m':Mach}(h':InvM m')(hp:m.phase=1)(hp':m'.phase=2):mu m'<mu m:=by
 have:=jz9 h';unfold mu;rw[qf hp,qe zo,qf hp'];omega
theorem jqW{m m':Mach}(hp:m.phase=1\/m.phase=2)(hp':m'.phase=3):mu m'<mu m:=by
 unfold mu;rw[qe zo,qe zo];rcases hp with hp | hp
 ·rw[qf hp];omega
 ·rw[qe zo,qf hp];omega
theorem jz6{m m':Mach}(hp:m.phase=1)(hp':m'.phase=1)(hc:m'.conf=m.conf)(h:g1 m'<g1 m):mu m'<mu m:=by
 unfold mu;rw[qf hp,qf hp'];unfold f1;rw[hc];omega
theorem jAj{m m':Mach}(hp:m.phase=2)(hp':m'.phase=2)(h:f2 m'<f2 m):mu m'<mu m:=by
 unfold mu;rw[qe (show ¬m'.phase=1 by omega),qf hp',qe (show ¬m.phase=1 by omega),qf hp];omega
theorem jpX{m:Mach}{b:Bal}{l:Int}(h:InvM m)(hb:BB b)(hp:m.phase=1)(hl:0<=l/\l<=1000)(hll:l=m.low\/lowm l<lowm m.low) :
 InvM { m with prep:=(joinV m.prep m.prime b).1,prime:=(joinV m.prep m.prime b).2,low:=l }/\(({ m with prep:=(joinV m.prep m.prime b).1,prime:=(joinV m.prep m.prime b).2,low:=l }:Mach)=m\/mu { m with prep:=(joinV m.prep m.prime b).1,prime:=(joinV m.prep m.prime b).2,low:=l }<mu m):=by
 obtain⟨m',hm'⟩:∃m':Mach,m'={ m with prep:=(joinV m.prep m.prime b).1,prime:=(joinV m.prep m.prime b).2,low:=l }:=⟨_,rfl⟩
 obtain⟨k1,k2,k3⟩:=jsS (m':=m') h hb (by rw[hm']) (by rw[hm'])
 have hI:InvM m':=by
  subst hm';exact⟨h.ph,h.bal,h.baln,k1,k2,h.conf,h.confn,hl,h.high,h.prop,h.sz,h.hl,h.hs⟩
 have hbal:balm m'=balm m:=by subst hm';rfl
 rw[<-hm'];refine⟨hI,?_⟩;have e1:=jtr hI.low;have e2:=jrL hI;have hlow:m'.low=l:=by rw[hm']
 rcases k3 with⟨k3,k4⟩ | k3
 ·rcases hll with hll | hll
  ·left
   rw[hm'] at k3 k4 ⊢;simp only at k3 k4;rw[k3,k4,hll]
  ·right
   refine jz6 hp (by rw[hm'];exact hp) (by rw[hm']) ?_;have e3:pq m'=pq m:=by unfold pq;rw[k3,k4]
   unfold g1;rw[e3,hbal,hlow];omega
 ·right
  refine jz6 hp (by rw[hm'];exact hp) (by rw[hm']) ?_;unfold g1;omega
theorem jpz{m:Mach}{b:Bal}(h:InvM m)(hb:BB b)(hp:m.phase=2) :
 InvM { m with prep:=(joinV m.prep m.prime b).1,prime:=(joinV m.prep m.prime b).2 }/\(({ m with prep:=(joinV m.prep m.prime b).1,prime:=(joinV m.prep m.prime b).2 }:Mach)=m\/mu { m with prep:=(joinV m.prep m.prime b).1,prime:=(joinV m.prep m.prime b).2 }<mu m):=by
 obtain⟨m',hm'⟩:∃m':Mach,m'={ m with prep:=(joinV m.prep m.prime b).1,prime:=(joinV m.prep m.prime b).2 }:=⟨_,rfl⟩
 obtain⟨k1,k2,k3⟩:=jsS (m':=m') h hb (by rw[hm']) (by rw[hm'])
 have hI:InvM m':=by
  subst hm';exact⟨h.ph,h.bal,h.baln,k1,k2,h.conf,h.confn,h.low,h.high,h.prop,h.sz,h.hl,h.hs⟩
 rw[<-hm'];refine⟨hI,?_⟩;rcases k3 with⟨k3,k4⟩ | k3
 ·left
  rw[hm'] at k3 k4 ⊢;simp only at k3 k4;rw[k3,k4]
 ·right
  refine jAj hp (by rw[hm'];exact hp) ?_
  have e:f2 m'=pq m'+(f2 m - pq m):=by
   subst hm';unfold f2;simp only;omega
  have e2:pq m<=f2 m:=by unfold f2;omega
  omega
theorem jyN{b:Bal}{k:Int}(h:BB b)(hk:k<=1000):BB ⟨max b.n k,b.v⟩:=⟨by have:=h.n0;show 0<=max b.n k;omega,by have:=h.n1;show max b.n k<=1000000;omega,h.sz⟩
theorem fin9{p p' a a' b b' c c' d:Nat}(h1:p'<=p)(h2:a'<=a)(h3:b'<=b)(h4:c'<=c)(h:p'<p\/a'<a\/b'<b\/c'<c\/0<d):p'+a'+(b'+c'+0)<p+a+(b+c+d):=by omega
theorem jvk{m:Mach}{l k:Int}(h:InvM m)(hp:m.phase=2)(hl:0<=l/\l<=1000)(hk:0<=k/\k<=1000)(hlk:(k=m.high/\l<=m.low)\/m.high<k) :
 InvM { m with low:=l,high:=k,bal:=⟨max m.bal.n k,m.bal.v⟩,conf:=⟨max m.conf.n k,m.bal.v⟩,prep:=⟨max m.prep.n k,m.prep.v⟩ } /\
 (({ m with low:=l,high:=k,bal:=⟨max m.bal.n k,m.bal.v⟩,conf:=⟨max m.conf.n k,m.bal.v⟩,prep:=⟨max m.prep.n k,m.prep.v⟩ }:Mach)=m\/mu { m with low:=l,high:=k,bal:=⟨max m.bal.n k,m.bal.v⟩,conf:=⟨max m.conf.n k,m.bal.v⟩,prep:=⟨max m.prep.n k,m.prep.v⟩ }<mu m):=by
 obtain⟨m',hm'⟩:∃m':Mach,m'={ m with low:=l,high:=k,bal:=⟨max m.bal.n k,m.bal.v⟩,conf:=⟨max m.conf.n k,m.bal.v⟩,prep:=⟨max m.prep.n k,m.prep.v⟩ }:=⟨_,rfl⟩
 have b0:=h.bal.n0;have b1:=h.baln;have c0:=h.conf.n0;have c1:=h.confn;have p0:=h.prep.n0;have p1:=h.prep.n1;have hl0:=h.low;have hh0:=h.high;have hc:BB ⟨max m.conf.n k,m.bal.v⟩:=⟨by show 0<=max m.conf.n k;omega,by show max m.conf.n k<=1000000;omega,h.bal.sz⟩
 have hprep:=jyN h.prep hk.2
 have hI:InvM m':=by
  subst hm';exact⟨h.ph,jyN h.bal hk.2,by show max m.bal.n k<=1000;omega,hprep,h.prime,hc,by show max m.conf.n k<=1000;omega,hl,hk,h.prop,h.sz,h.hl,h.hs⟩
 rw[<-hm'];refine⟨hI,?_⟩;have q1:m'.low=l:=by rw[hm']
 have q2:m'.high=k:=by rw[hm']
 have q3:m'.bal=⟨max m.bal.n k,m.bal.v⟩:=by rw[hm']
 have q4:m'.conf=⟨max m.conf.n k,m.bal.v⟩:=by rw[hm']
 have q5:m'.prep=⟨max m.prep.n k,m.prep.v⟩:=by rw[hm']
 have q6:m'.prime=m.prime:=by rw[hm']
 have u1:(1000 - max m.bal.n k).toNat<=(1000 - m.bal.n).toNat:=by omega
 have u2:m.bal.n<k->(1000 - max m.bal.n k).toNat<(1000 - m.bal.n).toNat:=λ_=>by omega
 have u3:(1000 - max m.conf.n k).toNat<=(1000 - m.conf.n).toNat:=by omega
 have u4:m.conf.n<k->(1000 - max m.conf.n k).toNat<(1000 - m.conf.n).toNat:=λ_=>by omega
 have u5:(1000 - k).toNat * 2000+l.toNat<=(1000 - m.high).toNat * 2000+m.low.toNat:=by rcases hlk with⟨a1,a2⟩ | a1<;>omega
 have u6:m.high<k\/l<m.low->(1000 - k).toNat * 2000+l.toNat<(1000 - m.high).toNat * 2000+m.low.toNat:=λh9=>by rcases hlk with⟨a1,a2⟩ | a1<;>rcases h9 with h9 | h9<;>omega
 have hpq:pq m'<=pq m/\(m.prep.n<k->pq m'<pq m)/\(¬m.prep.n<k->pq m'=pq m):=by
  by_cases hlt:m.prep.n<k
  ·have:pq m'<pq m:=by
    have r1:rB m.prep<rB m'.prep:=rB_n h.prep (by rw[q5];show m.prep.n<max m.prep.n k;omega);have r2:=jva hI.prep;exact jsb zo (Nat.sub_le ..)
   exact⟨by omega,λ_=>this,λh=>qp hlt h⟩
  ·have:m'.prep=m.prep:=by rw[q5,show max m.prep.n k=m.prep.n from by omega]
   have:pq m'=pq m:=by unfold pq;rw[this,q6]
   exact⟨by omega,λh=>qp h hlt,λ_=>this⟩
 have hf:f2 m'=pq m'+((1000 - k).toNat * 2000+l.toNat)+((1000 - max m.bal.n k).toNat+(1000 - max m.conf.n k).toNat+0):=by
  unfold f2;rw[q1,q2,q3,q4];simp only;rw[qf trivial]
 have hf0:f2 m=pq m+((1000 - m.high).toNat * 2000+m.low.toNat)+((1000 - m.bal.n).toNat+(1000 - m.conf.n).toNat+(if m.conf.v=m.bal.v then 0 else 1)):=rfl
 by_cases hall:k=m.high/\l=m.low/\¬m.prep.n<k/\¬m.bal.n<k/\¬m.conf.n<k/\m.conf.v=m.bal.v
 ·left
  obtain⟨a1,a2,a3,a4,a5,a6⟩:=hall;rw[hm',a1,a2,show max m.bal.n m.high=m.bal.n from by omega,show max m.conf.n m.high=m.conf.n from by omega,show max m.prep.n m.high=m.prep.n from by omega,<-a6];have:(⟨m.bal.n,m.conf.v⟩:Bal)=m.bal:=by rw[a6]
  rw[this]
 ·right
  refine jAj hp (by rw[hm'];exact hp) ?_;rw[hf,hf0];obtain⟨s1,s2,s3⟩:=hpq;refine fin9 s1 u5 u1 u3 ?_
  by_cases hv:m.conf.v=m.bal.v
  ·rcases hlk with⟨a1,a2⟩ | a1
   ·by_cases a3:m.prep.n<k
    ·exact .inl (s2 a3)
    ·by_cases h1:l=m.low
     ·by_cases h2:m.bal.n<k
      ·exact .inr (.inr (.inl (u2 h2)))
      ·by_cases h3:m.conf.n<k
       ·exact .inr (.inr (.inr (.inl (u4 h3))))
       ·exact qp ⟨a1,h1,a3,h2,h3,hv⟩ hall
     ·exact .inr (.inl (u6 (.inr (by clear hall hf hf0 s2 s3 u2 u4 u6;omega))))
   ·exact .inr (.inl (u6 (.inl a1)))
  ·rw[qe hv]
   exact .inr (.inr (.inr (.inr zd)))
theorem jmD{m:Mach}{k:Int}{v:Str}(h:InvM m)(hp:m.phase=1\/m.phase=2)(hk:0<=k/\k<=1000)(hv:v=if m.phase=1 then valM m else m.bal.v) :
 InvM { m with low:=if v=m.bal.v then m.low else 0,bal:=⟨max m.bal.n k,v⟩ }/\(({ m with low:=if v=m.bal.v then m.low else 0,bal:=⟨max m.bal.n k,v⟩ }:Mach)=m\/mu { m with low:=if v=m.bal.v then m.low else 0,bal:=⟨max m.bal.n k,v⟩ }<mu m):=by
 obtain⟨m',hm'⟩:∃m':Mach,m'={ m with low:=if v=m.bal.v then m.low else 0,bal:=⟨max m.bal.n k,v⟩ }:=⟨_,rfl⟩
 have b0:=h.bal.n0;have b1:=h.baln;have hl0:=h.low
 have hvs:v.size<=200:=by
  rw[hv];split
  ·exact jhb h
  ·exact h.bal.sz
 have hI:InvM m':=by
  subst hm';exact⟨h.ph,⟨by show 0<=max m.bal.n k;omega,by show max m.bal.n k<=1000000;omega,hvs⟩,by show max m.bal.n k<=1000;omega,h.prep,h.prime,h.conf,h.confn,by show 0<=(if v=m.bal.v then m.low else 0)/\(if v=m.bal.v then m.low else 0)<=1000;split<;>omega,h.high,h.prop,h.sz,h.hl,h.hs⟩
 rw[<-hm'];refine⟨hI,?_⟩;have q1:m'.low=if v=m.bal.v then m.low else 0:=by rw[hm']
 have q3:m'.bal=⟨max m.bal.n k,v⟩:=by rw[hm']
 have q5:m'.prep=m.prep:=by rw[hm']
 have q6:m'.prime=m.prime:=by rw[hm']
 have q7:m'.conf=m.conf:=by rw[hm']
 have q8:m'.high=m.high:=by rw[hm']
 have hpq:pq m'=pq m:=by unfold pq;rw[q5,q6]
 by_cases hvb:v=m.bal.v
 ·rw[qf hvb] at q1
  by_cases hn:m.bal.n<k
  ·right
   rcases hp with hp | hp
   ·have hp':m'.phase=1:=by rw[hm'];exact hp
    have hval:valM m'=valM m:=by
     unfold valM;rw[q7,hp,hp',show m'.prop=m.prop from by rw[hm'],show m'.heard=m.heard from by rw[hm']];simp
    refine jz6 hp hp' q7 ?_;unfold g1;rw[hpq,q1];unfold balm;rw[hval,q3];simp only;rw[hvb];omega
   ·refine jAj hp (by rw[hm'];exact hp) ?_
    unfold f2;rw[hpq,q1,q8,q7,q3];simp only;rw[hvb];omega
  ·left
   rw[hm',qf hvb,show max m.bal.n k=m.bal.n from by omega,hvb]
 ·rcases hp with hp | hp
  ·right
   rw[qe hvb] at q1;have hp':m'.phase=1:=by rw[hm'];exact hp
   have hval:valM m'=valM m:=by
    unfold valM;rw[q7,hp,hp',show m'.prop=m.prop from by rw[hm'],show m'.heard=m.heard from by rw[hm']];simp
   rw[qf hp] at hv;refine jz6 hp hp' q7 ?_;unfold g1;rw[hpq,q1];unfold balm;rw[hval,q3];simp only;rw[qf hv,qe (by rw[<-hv];exact λe=>hvb e.symm),show lowm 0=0 from rfl];omega
  ·rw[qe zo] at hv
   exact qp hv hvb
def StepR(m m':Mach):Prop:=SameF m m'/\InvM m'/\(m'=m\/mu m'<mu m)
theorem StepR.refl{m:Mach}(h:InvM m):StepR m m:=⟨SameF.refl m,h,.inl rfl⟩
theorem jed{m:Mach}{b:Bal}{l:Int}(h:InvM m)(hb:BB b)(hp:m.phase=1)(hl:0<=l/\l<=1000)(hll:l=m.low\/lowm l<lowm m.low) :
 StepR m { m with prep:=(joinV m.prep m.prime b).1,prime:=(joinV m.prep m.prime b).2,low:=l } :=
 ⟨⟨rfl,rfl,rfl,rfl,rfl,rfl⟩,jpX h hb hp hl hll⟩
theorem jm4{m:Mach}{b:Bal}(h:InvM m)(hb:BB b)(hp:m.phase=2):StepR m { m with prep:=(joinV m.prep m.prime b).1,prime:=(joinV m.prep m.prime b).2 } :=
 ⟨⟨rfl,rfl,rfl,rfl,rfl,rfl⟩,jpz h hb hp⟩
theorem jys{l r:Int}(h0:¬l=0)(h:0<=l/\l<=1000)(hr:l<=r)(hr2:r<=1000):r=l\/lowm r<lowm l:=by
 unfold lowm;rw[qe h0,qe zo];omega
theorem jqB{l:Int}(h0:¬l=0)(h:0<=l/\l<=1000):lowm 0<lowm l:=by
 unfold lowm;rw[qe h0,qf rfl];omega
theorem jiP{m:Mach}{b bal':Bal}{l:Int}(h:InvM m)(hp:m.phase=1)(hb:BB b)(hbn:b.n<=1000)(hlb:lB m.conf b=true)(hbal:bal'=m.bal\/bal'=b)(hl:0<=l/\l<=1000) :
 StepR m { m with conf:=b,bal:=bal',low:=l }:=by
 have h1:BB bal'/\bal'.n<=1000:=by
  rcases hbal with rfl | rfl
  ·exact⟨h.bal,h.baln⟩
  ·exact⟨hb,hbn⟩
 have hI:InvM { m with conf:=b,bal:=bal',low:=l }:=⟨h.ph,h1.1,h1.2,h.prep,h.prime,hb,hbn,hl,h.high,h.prop,h.sz,h.hl,h.hs⟩
 exact⟨⟨rfl,rfl,rfl,rfl,rfl,rfl⟩,hI,.inr (jrB h hI hp hp (jl5 h.conf hlb))⟩
theorem jvz{m:Mach}{sv:Str}{bal' prep':Bal}(h:InvM m)(hp:m.phase=1)(hv:sv.size<=200)(hlo:1<=lo/\lo<=1000)(hhi:1<=hi/\hi<=1000)(hbal:bal'=m.bal\/bal'=⟨max m.bal.n hi,sv⟩)(hprep:prep'=m.prep\/prep'=⟨hi,sv⟩) :
 StepR m { m with bal:=bal',prep:=prep',phase:=2,low:=lo,high:=hi,conf:=⟨hi,sv⟩,prime:=Bal.none }:=by
 have b0:=h.bal.n0;have b1:=h.baln;have hc:BB ⟨hi,sv⟩:=⟨by show 0<=hi;omega,by show hi<=1000000;omega,hv⟩
 have h1:BB bal'/\bal'.n<=1000:=by
  rcases hbal with rfl | rfl
  ·exact⟨h.bal,h.baln⟩
  ·exact⟨⟨by show 0<=max m.bal.n hi;omega,by show max m.bal.n hi<=1000000;omega,hv⟩,by show max m.bal.n hi<=1000;omega⟩
 have h2:BB prep':=by
  rcases hprep with rfl | rfl
  ·exact h.prep
  ·exact hc
 have hI:InvM { m with bal:=bal',prep:=prep',phase:=2,low:=lo,high:=hi,conf:=⟨hi,sv⟩,prime:=Bal.none } :=
  ⟨.inr (.inl rfl),h1.1,h1.2,h2,jcc,hc,by show hi<=1000;omega,by show 0<=lo/\lo<=1000;omega,by show 0<=hi/\hi<=1000;omega,h.prop,h.sz,h.hl,h.hs⟩
 exact⟨⟨rfl,rfl,rfl,rfl,rfl,rfl⟩,hI,.inr (jxz hI hp rfl)⟩
theorem jtc{m:Mach}{l k:Int}(h:InvM m)(hp:m.phase=2)(hl:0<=l/\l<=1000)(hk:0<=k/\k<=1000)(hlk:(k=m.high/\l<=m.low)\/m.high<k) :
 StepR m { m with low:=l,high:=k,bal:=⟨max m.bal.n k,m.bal.v⟩,conf:=⟨max m.conf.n k,m.bal.v⟩,prep:=⟨max m.prep.n k,m.prep.v⟩ }:=⟨⟨rfl,rfl,rfl,rfl,rfl,rfl⟩,jvk h hp hl hk hlk⟩
theorem jwz{m:Mach}(h:InvM m)(hp:m.phase=2)(hlo:1<=lo/\lo<=1000)(hhi:1<=hi/\hi<=1000) :
 StepR m { m with phase:=3,low:=lo,high:=hi,bal:=⟨hi,m.bal.v⟩,prep:=Bal.none,prime:=Bal.none,conf:=Bal.none }:=by
 have hI:InvM { m with phase:=3,low:=lo,high:=hi,bal:=⟨hi,m.bal.v⟩,prep:=Bal.none,prime:=Bal.none,conf:=Bal.none } :=
  ⟨.inr (.inr rfl),⟨by show 0<=hi;omega,by show hi<=1000000;omega,h.bal.sz⟩,by show hi<=1000;omega,jcc,jcc,jcc,by show (0:Int)<=1000;omega,by show 0<=lo/\lo<=1000;omega,by show 0<=hi/\hi<=1000;omega,h.prop,h.sz,h.hl,h.hs⟩
 exact⟨⟨rfl,rfl,rfl,rfl,rfl,rfl⟩,hI,.inr (jqW (.inr hp) rfl)⟩
theorem jk4{m:Mach}{k:Int}{v:Str}{l:Int}(h:InvM m)(hp:m.phase=1\/m.phase=2)(hk:0<=k/\k<=1000)(hv:v=if m.phase=1 then valM m else m.bal.v)(hl:l=if v=m.bal.v then m.low else 0) :
 StepR m { m with low:=l,bal:=⟨max m.bal.n k,v⟩ }:=by
 subst hl;exact⟨⟨rfl,rfl,rfl,rfl,rfl,rfl⟩,jmD h hp hk hv⟩
structure Vd where
 nodes:Nat
 splits:Bool
 halts:Bool
 l:Nat
 r:Nat
def vv(v:Vd):D:=.agg [.i v.nodes,.b v.splits,.b v.halts,.i v.l,.i v.r]
def pairGo(f g:Nat->Nat):Nat->Nat->Nat × Nat × Bool
 | 0,k=>(0,0,false)
 | n+1,k=>if f k=0\/g k=0 then pairGo f g n (k+1) else (f k,g k,true)
def pairL(c:List Mem)(s k:Nat):Nat:=great (delC c s) (k:Int)
def pairR(c:List Mem)(s k:Nat):Nat:=great (delC c s) (co c k:Nat)
def pairC(c:List Mem)(s:Nat):Nat × Nat × Bool:=pairGo (pairL c s) (pairR c s) (2^c.length) 0
def silentC(c:List Mem)(s:Nat):Bool:=decide (((great c (co c s:Nat):Nat):Int)=0)
def judgeC(c:List Mem)(s:Nat):Vd:=⟨s,(pairC c s).2.2,silentC c s,(pairC c s).1,(pairC c s).2.1⟩
theorem jd6{n:Nat}(hk:k<n)(h:f k=0\/g k=0):pairGo f g (n - k) k=pairGo f g (n - (k+1)) (k+1):=by
 obtain⟨m,hm⟩:∃m,n - k=m+1:=⟨n - k - 1,by omega⟩
 have:n - (k+1)=m:=by omega
 rw[hm,this,pairGo,qf h]
theorem jiF{n:Nat}(hk:k<n)(h1:¬f k=0)(h2:¬g k=0):pairGo f g (n - k) k=(f k,g k,true):=by
 obtain⟨m,hm⟩:∃m,n - k=m+1:=⟨n - k - 1,by omega⟩
 rw[hm,pairGo,qe (λh=>h.elim h1 h2)]
theorem jhX{n:Nat}(hk:n<=k):pairGo f g (n - k) k=(0,0,false):=by
 rw[show n - k=0 from by omega];rfl
theorem jd9(f g:Nat->Nat):∀n k,((pairGo f g n k).2.2=true/\∃j,k<=j/\j<k+n/\¬f j=0/\¬g j=0/\(pairGo f g n k).1=f j/\(pairGo f g n k).2.1=g j) \/
 ((pairGo f g n k).2.2=false/\(pairGo f g n k).1=0/\(pairGo f g n k).2.1=0/\∀j,k<=j->j<k+n->f j=0\/g j=0)
 | 0,k=>.inr ⟨rfl,rfl,rfl,λj h1 h2=>by omega⟩
 | n+1,k=>by
  by_cases h:f k=0\/g k=0
  ·rw[pairGo,qf h]
   rcases jd9 f g n (k+1) with⟨h1,j,h2,h3,h4⟩ | ⟨h1,h2,h3,h4⟩
   ·exact .inl ⟨h1,j,by omega,by omega,h4⟩
   ·refine .inr ⟨h1,h2,h3,λj hj1 hj2=>?_⟩
    by_cases e:j=k
    ·rw[e];exact h
    ·exact h4 j zo zo
  ·rw[pairGo,qe h]
   exact .inl ⟨rfl,k,Nat.le_refl _,by omega,λe=>h (.inl e),λe=>h (.inr e),rfl,rfl⟩
theorem dlen(c:List Mem)(s:Nat):(delC c s).length=c.length:=by unfold delC;rw[jgu]
theorem jpJ{c:List Mem}{q s:Nat}(hs:s<1024)(hq:q<1024)(h:quorumC c q=true)(hqs:Sub q s):¬great c s=0:=λe=>by
 obtain⟨h1,h2,h3⟩:=(jck hq).1 h;have:=(jbw c hs).most q hq hqs h2 h3;rw[e] at this;obtain⟨i,hi⟩:=Nat.exists_testBit_of_ne_zero h1;have:=this i hi;rw[Nat.zero_testBit] at this;cases this
theorem js1{c:List Mem}{s:Nat}(hs:s<1024)(h:¬great c s=0):quorumC c (great c s)=true :=
 have g:=jbw c hs
 (jck g.lt).2 ⟨h,g.decl,g.quorum⟩
structure Two(c:List Mem)(s a b:Nat):Prop where
 a1:1<=a
 an:a<2^c.length
 b1:1<=b
 bn:b<2^c.length
 dis:a&&&b=0
 qa:quorumC (delC c s) a=true
 qb:quorumC (delC c s) b=true
theorem jgl{c:List Mem}(hc:c.length<=4){s:Nat}(h:(pairC c s).2.2=true):Two c s (pairC c s).1 (pairC c s).2.1:=by
 have hp:=jaC (show c.length<=10 by omega);have hd:=dlen c s;rcases jd9 (pairL c s) (pairR c s) (2^c.length) 0 with⟨_,j,_,h2,h3,h4,h5,h6⟩ | ⟨h1,_⟩
 ·have hj:j<1024:=by omega
  have hcj:co c j<1024:=jzV zo;have g1:=jbw (delC c s) hj;have g2:=jbw (delC c s) hcj;have e1:(pairC c s).1=great (delC c s) j:=h5;have e2:(pairC c s).2.1=great (delC c s) (co c j):=h6;unfold pairL at h3;unfold pairR at h4;rw[e1,e2];refine⟨by omega,by rw[<-hd];exact jlQ hj,by omega,by rw[<-hd];exact jlQ hcj,?_,js1 hj h3,js1 hcj h4⟩;refine Nat.eq_of_testBit_eq λi=>?_;rw[Nat.testBit_and,Nat.zero_testBit];cases e:(great (delC c s) (j:Int)).testBit i with
  | false=>rfl
  | true =>
   cases e':(great (delC c s) ((co c j:Nat):Int)).testBit i with
   | false=>rfl
   | true =>
    have a1:=g1.within i e;have a2:=g2.within i e';rw[jmJ zo hj,a1] at a2;simp at a2
 ·have e:(pairC c s).2.2=false:=h1
  rw[e] at h;cases h
theorem jr8{c:List Mem}{s:Nat}(h:(pairC c s).2.2=false):(pairC c s).1=0/\(pairC c s).2.1=0:=by
 rcases jd9 (pairL c s) (pairR c s) (2^c.length) 0 with⟨h1,_⟩ | ⟨_,h1,h2,_⟩
 ·have e:(pairC c s).2.2=true:=h1
  rw[e] at h;cases h
 ·exact⟨h1,h2⟩
def apR(e:Evp)(b:Bal):Bool:=(vE e&&!zB b)&&(if e.kind=3 then cB e.bal b else prB e.prep e.prime b)
def vpR(e:Evp)(b:Bal):Bool:=(vE e&&!zB b)&&(if e.kind=1 then covB e.bal b else cB e.bal b)
def acR(e:Evp)(v:Str)(lo hi:Int):Bool :=
 (vE e&&(decide (1<=lo)&&(decide (lo<=hi)&&(!decide (e.kind=1)&&(decide (e.bal.v=v)&&decide (e.low<=lo))))))&&(decide (e.kind=3)||decide (hi<=e.high))
def vcR(e:Evp)(v:Str)(lo hi:Int):Bool :=
 (vE e&&(decide (1<=lo)&&(decide (lo<=hi)&&(decide (e.bal.v=v)&&(!decide (e.low=0)&&decide (e.low<=lo))))))&&(!decide (e.kind=1)||decide (hi<=e.high))
def setP(p:Evp->Bool)(l:List Evp):Nat:=whoGo (λe=>p e&&(decide (0<=e.node)&&decide (e.node<=9))) l 0
def acc25(node:Int)(t:Trust)(l:List Evp)(b:Bal):Bool:=acceptsC (viewE node t l) node (setP (λe=>apR e b||vpR e b) l) (setP (λe=>apR e b) l)
def cnf25(node:Int)(t:Trust)(l:List Evp)(b:Bal):Bool:=confirmsC (viewE node t l) node (setP (λe=>apR e b) l)
def acc26(node:Int)(t:Trust)(l:List Evp)(v:Str)(lo hi:Int):Bool:=acceptsC (viewE node t l) node (setP (λe=>acR e v lo hi||vcR e v lo hi) l) (setP (λe=>acR e v lo hi) l)
def cnf26(node:Int)(t:Trust)(l:List Evp)(v:Str)(lo hi:Int):Bool:=confirmsC (viewE node t l) node (setP (λe=>acR e v lo hi) l)
def posG{α:Type}(lt:α->Bool):List α->Nat
 | []=>0
 | x::r=>if lt x=true then posG lt r+1 else 0
def insG{α:Type}(lt eq:α->Bool)(x:α)(l:List α):List α :=
 if (match l[posG lt l]? with | some y=>eq y | none=>false)=true then l else l.take (posG lt l)++[x]++l.drop (posG lt l)
def beqB(a b:Bal):Bool:=decide (a.n=b.n)&&decide (a.v=b.v)
def intoV(l:List Bal)(b:Bal):List Bal:=if zB b=true then l else insG (λx=>lB b x) (λx=>beqB x b) b l
def ownB(e:Evp):List Bal:=if e.kind=1 then [e.bal,e.prep,e.prime] else [e.prep,⟨1000000,e.bal.v⟩]
def ballotsGo:List Evp->List Bal->List Bal
 | [],q=>q
 | e::r,q=>ballotsGo r (if vE e=true then (ownB e).foldl intoV q else q)
def ballotsV(l:List Evp):List Bal:=ballotsGo l []
def intoS(q:List Str)(v:Str):List Str:=insG (λx=>decide (cV x v<0)) (λx=>decide (x=v)) v q
def valuesGo:List Evp->List Str->List Str
 | [],q=>q
 | e::r,q=>valuesGo r (if vE e=true then intoS q e.bal.v else q)
def valuesV(l:List Evp):List Str:=valuesGo l []
def intoI(q:List Int)(n:Int):List Int:=insG (λx=>decide (x<n)) (λx=>decide (x=n)) n q
def boundsGo(v:Str):List Evp->List Int->List Int
 | [],q=>q
 | e::r,q=>boundsGo v r (if (vE e&&(decide (e.bal.v=v)&&!decide (e.low=0)))=true then intoI (intoI q e.low) e.high else q)
def boundsV(l:List Evp)(v:Str):List Int:=boundsGo v l []
theorem je9{α:Type}(lt:α->Bool):∀l:List α,posG lt l<=l.length
 | []=>Nat.le_refl _
 | x::r=>by
  have:=je9 lt r;simp only[posG,qi];split<;>omega
theorem jdy{α:Type}{lt:α->Bool}{l:List α}(h:l.length<=k):posG lt (l.drop k)=0:=by rw[List.drop_eq_nil_of_le h];rfl
theorem jje{α:Type}{l:List α}{y:α}(h:l[k]?=some y):l.drop k=y::l.drop (k+1):=by
 obtain⟨hk,e⟩:=List.getElem?_eq_some_iff.1 h;rw[List.drop_eq_getElem_cons hk,e]
theorem jcN{α:Type}{lt:α->Bool}{l:List α}{y:α}(h:l[k]?=some y)(hl:lt y=false):posG lt (l.drop k)=0:=by
 rw[jje h];simp[posG,hl]
theorem jfz{α:Type}{lt:α->Bool}{l:List α}{y:α}(h:l[k]?=some y)(hl:lt y=true):posG lt (l.drop k)=posG lt (l.drop (k+1))+1:=by
 rw[jje h];simp[posG,hl]
theorem jrm{α:Type}{lt eq:α->Bool}{x y:α}{l:List α}(hp:posG lt l=k)(h:l[k]?=some y)(he:eq y=true):insG lt eq x l=l:=by
 unfold insG;rw[hp,h];simp[he]
theorem jnq{α:Type}{lt eq:α->Bool}{x:α}{l:List α}(hp:posG lt l=k)(h:∀y,l[k]?=some y->eq y=false):insG lt eq x l=l.take k++[x]++l.drop k:=by
 unfold insG;rw[hp];cases e:l[k]? with
 | none=>simp
 | some y=>simp[h y e]
theorem jtm{α:Type}{lt eq:α->Bool}{x:α}{l:List α}:insG lt eq x l=l\/insG lt eq x l=l.take (posG lt l)++[x]++l.drop (posG lt l):=by
 unfold insG
 generalize (match l[posG lt l]? with | some y=>eq y | none=>false)=c
 cases c
 ·right;simp
 ·left;simp
theorem jdR{α:Type}{lt eq:α->Bool}{x:α}{l:List α}:(insG lt eq x l).length<=l.length+1:=by
 have:=je9 lt l;rcases jtm (lt:=lt) (eq:=eq) (x:=x) (l:=l) with h | h<;>rw[h]
 ·omega
 ·simp only[qm,List.length_take,List.length_drop,qi,qu];omega
theorem jj0{α:Type}{p:α->Prop}{lt eq:α->Bool}{x:α}{l:List α}(h:∀y∈l,p y)(hx:p x):∀y∈insG lt eq x l,p y:=by
 intro y hy;rcases jtm (lt:=lt) (eq:=eq) (x:=x) (l:=l) with e | e<;>rw[e] at hy
 ·exact h y hy
 ·simp only[List.mem_append,List.mem_cons,qv,or_false] at hy
  rcases hy with(hy | rfl) | hy
  ·exact h y (List.mem_of_mem_take hy)
  ·exact hx
  ·exact h y (List.mem_of_mem_drop hy)
theorem jwE{l:List Bal}{b:Bal}(h:zB b=true):intoV l b=l:=qf h
theorem jqR{l:List Bal}{b:Bal}(h:zB b=false):intoV l b=insG (λx=>lB b x) (λx=>beqB x b) b l:=qe (by rw[h];decide)
theorem jsh{l:List Bal}{b:Bal}:(intoV l b).length<=l.length+1:=by
 unfold intoV;split
 ·omega
 ·exact jdR
def raiseB(b:Bal):Bal:=⟨if 1000<=b.n then 1000000 else b.n,b.v⟩
def nextGo(node:Int)(t:Trust)(l:List Evp)(p q:Bal)(v:Str):List Bal->Bal
 | []=>Bal.none
 | b::r=>if ((!decide (v=noS)&&!decide (b.v=v))||prB (raiseB p) (raiseB q) b)=true then nextGo node t l p q v r else if acc25 node t l b=true then b else nextGo node t l p q v r
def nextV(node:Int)(t:Trust)(l:List Evp)(p q:Bal)(v:Str):Bal:=nextGo node t l p q v (ballotsV l)
def highGo(node:Int)(t:Trust)(l:List Evp)(a:Bal):List Bal->Bal
 | []=>Bal.none
 | b::r=>if (decide (b.n<=1000)&&(lB a b&&cnf25 node t l b))=true then b else highGo node t l a r
def highV(node:Int)(t:Trust)(l:List Evp)(a:Bal):Bal:=highGo node t l a (ballotsV l)
def freeV(p q:Bal)(n:Int)(v:Str):Bool:=!abB p ⟨n,v⟩&&!abB q ⟨n,v⟩
def bestN(node:Int)(t:Trust)(l:List Evp)(p q:Bal)(v:Str):List Int->Bal->Bal
 | [],b=>b
 | n::r,b=>bestN node t l p q v r (if (lB b ⟨n,v⟩&&(freeV p q n v&&acc26 node t l v n n))=true then ⟨n,v⟩ else b)
def bestS(node:Int)(t:Trust)(l:List Evp)(p q:Bal):List Str->Bal->Bal
 | [],b=>b
 | v::r,b=>bestS node t l p q r (bestN node t l p q v (boundsV l v) b)
def bestV(node:Int)(t:Trust)(l:List Evp)(p q:Bal):Bal:=bestS node t l p q (valuesV l) Bal.none
def lowGo(ok:Int->Bool):List Int->Int->Int
 | [],f=>f
 | n::r,f=>if n>=f then lowGo ok r f else if ok n=true then lowGo ok r n else f
def firstV(node:Int)(t:Trust)(l:List Evp)(p q:Bal):Str × Int × Int × Bool :=
 if zB (bestV node t l p q)=true then (noS,0,0,false)
 else ((bestV node t l p q).v,lowGo (λn=>freeV p q n (bestV node t l p q).v&&acc26 node t l (bestV node t l p q).v n (bestV node t l p q).n) (boundsV l (bestV node t l p q).v).reverse (bestV node t l p q).n,(bestV node t l p q).n,true)
def downV(node:Int)(t:Trust)(l:List Evp)(v:Str)(f hi:Int):Int:=lowGo (λn=>acc26 node t l v n hi) (boundsV l v).reverse f
def extGo(node:Int)(t:Trust)(l:List Evp)(v:Str):List Int->Int × Int->Int × Int
 | [],lh=>lh
 | n::r,lh=>if n>lh.2 then (if acc26 node t l v n n=true then ((if downV node t l v n n - 1>lh.2 then downV node t l v n n else min lh.1 (downV node t l v n n)),n) else extGo node t l v r lh) else lh
def extendV(node:Int)(t:Trust)(l:List Evp)(v:Str)(lo hi:Int):Int × Int :=
 (downV node t l v (extGo node t l v (boundsV l v).reverse (lo,hi)).1 (extGo node t l v (boundsV l v).reverse (lo,hi)).2,(extGo node t l v (boundsV l v).reverse (lo,hi)).2)
def finLow(node:Int)(t:Trust)(l:List Evp)(v:Str)(hi:Int):List Int->Int->Int
 | [],f=>f
 | n::r,f=>if cnf26 node t l v n hi=true then finLow node t l v hi r n else f
def finGo(node:Int)(t:Trust)(l:List Evp)(v:Str):List Int->Int × Int × Bool
 | []=>(0,0,false)
 | hi::r=>if cnf26 node t l v hi hi=true then (finLow node t l v hi r hi,hi,true) else finGo node t l v r
def finalB(node:Int)(t:Trust)(l:List Evp)(v:Str):Int × Int × Bool:=finGo node t l v (boundsV l v).reverse
def envR(m:Mach):Evp:=⟨m.node,m.slot,m.seq,m.t,m.phase,m.bal,if m.phase=1\/m.phase=2 then m.prep else Bal.none,if m.phase=1 then m.prime else Bal.none,m.low,if m.phase=1 then (if (!zB m.conf&&cB m.conf m.bal)=true then m.conf.n else 0) else m.high⟩
def sayR(m:Mach):Evp:={ envR m with seq:=max m.seq 1 }
def insE(e:Evp):List Evp->List Evp
 | []=>[e]
 | x::r=>if e.node<x.node then e::x::r else x::insE e r
def allM(m:Mach):List Evp:=if zB m.bal=true then m.heard else insE (sayR m) m.heard
def finB1(b:Bal):Bal:=if 1000<b.n then ⟨1000,b.v⟩ else b
def low1(v:Str)(n:Int)(x:Bal):Int:=if (vB x&&abB x ⟨n,v⟩)=true then (if abB x ⟨x.n,v⟩=true then x.n+1 else x.n) else n
def lowestV(v:Str)(fr:Int)(p q:Bal):Int:=low1 v (low1 v (max fr 1) p) q
def prepB(m:Mach):Bal:=finB1 (nextV m.node m.t (allM m) m.prep m.prime (if m.phase=2 then m.bal.v else noS))
def prep1(m:Mach):Mach:={ m with prep:=(joinV m.prep m.prime (prepB m)).1,prime:=(joinV m.prep m.prime (prepB m)).2 }
def prepL(m:Mach):Int:=lowestV m.bal.v m.low (prep1 m).prep (prep1 m).prime
def prepM(m:Mach):Mach :=
 if m.phase=3\/zB m.bal=true then m
 else if m.phase=1/\¬m.low=0 then (if prepL m>(envR (prep1 m)).high then { prep1 m with low:=0 } else { prep1 m with low:=prepL m })
 else prep1 m
def confB(m:Mach):Bal:=highV m.node m.t (allM m) m.conf
def conf1(m:Mach):Mach:=if lB m.bal (confB m)=true then { m with conf:=confB m,low:=(if cB m.bal (confB m)=true then m.low else 0),bal:=confB m } else { m with conf:=confB m }
def conf2(m c:Mach):Mach:=if (c.low=0/\cB c.bal (confB m)=true)/\lowestV (confB m).v c.bal.n c.prep c.prime<=(confB m).n then { c with low:=lowestV (confB m).v c.bal.n c.prep c.prime } else c
def confS(m:Mach):Mach :=
 if ¬m.phase=1\/zB m.bal=true then m
 else if zB (confB m)=true then m
 else conf2 m (conf1 m)
def comF(m:Mach):Str × Int × Int × Bool:=firstV m.node m.t (allM m) m.prep m.prime
def comX(m:Mach):Int × Int:=extendV m.node m.t (allM m) m.bal.v m.low m.high
def comB(m:Mach):Bal:=⟨(comF m).2.2.1,(comF m).1⟩
def comM(m:Mach):Mach :=
 if m.phase=1 then
  if (comF m).2.2.2=true then
   { m with bal:=(if (!cB m.bal (comB m)||lB m.bal (comB m))=true then ⟨max m.bal.n (comB m).n,(comB m).v⟩ else m.bal),prep:=(if covB m.prep (comB m)=true then m.prep else comB m),phase:=2,low:=(comF m).2.1,high:=(comB m).n,conf:=comB m,prime:=Bal.none }
  else m
 else if m.phase=2 then
  { m with low:=(comX m).1,high:=(comX m).2,bal:=⟨max m.bal.n (comX m).2,m.bal.v⟩,conf:=⟨max m.conf.n (comX m).2,m.bal.v⟩,prep:=⟨max m.prep.n (comX m).2,m.prep.v⟩ }
 else m
def finF(m:Mach):Int × Int × Bool:=finalB m.node m.t (allM m) m.bal.v
def finM(m:Mach):Mach :=
 if ¬m.phase=2 then m
 else if (finF m).2.2=true then { m with phase:=3,low:=(finF m).1,high:=(finF m).2.1,bal:=⟨(finF m).2.1,m.bal.v⟩,prep:=Bal.none,prime:=Bal.none,conf:=Bal.none } else m
def cntR(e:Evp):Int:=if vE e=true then cntE e else 0
def aheadV(m:Mach)(n:Int):Bool:=blocksC (viewE m.node m.t (allM m)) m.node (setP (λe=>decide (cntR e>n)) m.heard)
def bestGo(m:Mach):List Evp->Int->Int
 | [],b=>b
 | e::r,b=>bestGo m r (if (decide (cntR e>m.bal.n)&&(decide (cntR e<b)&&!aheadV m (cntR e)))=true then cntR e else b)
def cauV(m:Mach):Str:=if m.phase=1 then valM m else m.bal.v
def cauM(m:Mach):Mach :=
 if m.phase=3\/aheadV m m.bal.n=false then m
 else { m with low:=(if cauV m=m.bal.v then m.low else 0),bal:=⟨max m.bal.n (min (bestGo m m.heard 1000000) 1000),cauV m⟩ }
def sameV(a b:Mach):Bool:=decide (a.phase=b.phase)&&((decide (a.bal.n=b.bal.n)&&decide (a.bal.v=b.bal.v))&&((decide (a.prep.n=b.prep.n)&&decide (a.prep.v=b.prep.v))&&((decide (a.prime.n=b.prime.n)&&decide (a.prime.v=b.prime.v))&&((decide (a.conf.n=b.conf.n)&&decide (a.conf.v=b.conf.v))&&(decide (a.low=b.low)&&decide (a.high=b.high))))))
def stepG(m:Mach):Mach :=
 if sameV m (prepM m)=false then prepM m else if sameV m (confS m)=false then confS m else if sameV m (comM m)=false then comM m else if sameV m (finM m)=false then finM m else cauM m
def iterM:Nat->Mach->Mach
 | 0,m=>m
 | n+1,m=>iterM n (stepG m)
def restM(m:Mach):Mach:=iterM (mu m) m
def advM(m:Mach):Mach:=if checkM m=true then (if zB (restM m).bal=true then restM m else { restM m with seq:=max (restM m).seq 1 }) else m
def sameE(a b:Evp):Bool:=decide (a.node=b.node)&&(decide (a.slot=b.slot)&&(decide (a.seq=b.seq)&&(same a.t b.t&&(decide (a.kind=b.kind)&&(beqB a.bal b.bal&&(beqB a.prep b.prep&&(beqB a.prime b.prime&&(decide (a.low=b.low)&&decide (a.high=b.high)))))))))
def numM(before m:Mach):Mach :=
 if zB (advM m).bal=true then advM m
 else if (!zB before.bal&&!sameE { envR before with seq:=0 } { envR (advM m) with seq:=0 })=true then { advM m with seq:=min ((advM m).seq+1) 1000000 } else advM m
def rvP(q:List Int)(i:Int):List Int:=(q.take (i+1).toNat).reverse
theorem jhm(q:List Int){i:Int}(h:i<0):rvP q i=[]:=by unfold rvP;rw[show (i+1).toNat=0 from by omega];rfl
theorem jcP{q:List Int}{n:Nat}{x:Int}(h:q[n]?=some x):rvP q (n:Int)=x::rvP q ((n:Int) - 1):=by
 unfold rvP;rw[show ((n:Int)+1).toNat=n+1 from by omega,show ((n:Int) - 1+1).toNat=n from by omega,List.take_add_one,h];simp
theorem jj5(q:List Int):rvP q ((q.length:Int) - 1)=q.reverse:=by
 unfold rvP;rw[show ((q.length:Int) - 1+1).toNat=q.length from by omega,List.take_length]
theorem jiG{node:Int}{t:Trust}{l:List Evp}{v:Str}{x:Int}{r:List Int}(h:¬x>lh.2):extGo node t l v (x::r) lh=lh:=by
 rw[extGo,qe h]
theorem jtQ{node:Int}{t:Trust}{l:List Evp}{v:Str}{x:Int}{r:List Int}(h:x>lh.2)(ha:acc26 node t l v x x=false):extGo node t l v (x::r) lh=extGo node t l v r lh:=by
 rw[extGo,qf h,qe (by rw[ha];decide)]
theorem jrJ{node:Int}{t:Trust}{l:List Evp}{v:Str}{x:Int}{r:List Int}(h:x>lh.2)(ha:acc26 node t l v x x=true):extGo node t l v (x::r) lh=((if downV node t l v x x - 1>lh.2 then downV node t l v x x else min lh.1 (downV node t l v x x)),x):=by
 rw[extGo,qf h,qf ha]
theorem jl3{p:Int->Prop}{q:List Int}{n:Int}(h:∀y∈q,p y)(hn:p n):∀y∈intoI q n,p y:=jj0 h hn
theorem jyy{e:Evp}(h:vE e=true)(h0:¬e.low=0):(1<=e.low/\e.low<=1000)/\1<=e.high/\e.high<=1000:=by
 unfold vE at h;rw[qh] at h;have h2:=h.2;unfold kindE at h2;split at h2
 ·unfold prepE finB at h2
  simp only[qh,qo] at h2;omega
 ·split at h2
  ·unfold rngE at h2
   simp only[qh,qo] at h2;omega
  ·split at h2
   ·unfold rngE at h2
    simp only[qh,qo] at h2;omega
   ·cases h2
theorem jfV{v:Str}:∀(l:List Evp)(q:List Int),(∀x∈q,1<=x/\x<=1000)->∀x∈boundsGo v l q,1<=x/\x<=1000
 | [],q,h=>h
 | e::r,q,h=>by
  rw[boundsGo];apply jfV r;split
  ·rename_i hc
   simp only[qh,qo,Bool.not_eq_true',decide_eq_false_iff_not] at hc;have h1:=jyy hc.1 hc.2.2;exact jl3 (jl3 h h1.1) h1.2
  ·exact h
theorem jaW(l:List Evp)(v:Str):∀x∈boundsV l v,1<=x/\x<=1000:=jfV l [] (λx h=>qp h qv)
theorem jeo{ok:Int->Bool}:∀(l:List Int)(f:Int),(∀x∈l,1<=x/\x<=1000)->lowGo ok l f<=f/\(lowGo ok l f=f\/(1<=lowGo ok l f/\lowGo ok l f<=1000))
 | [],f,_=>⟨Int.le_refl _,.inl rfl⟩
 | n::r,f,h=>by
  have hr:∀x∈r,1<=x/\x<=1000:=λx hx=>h x (qj _ hx);have hn:=h n (za);rw[lowGo];split
  ·exact jeo r f hr
  ·split
   ·have:=jeo (ok:=ok) r n hr
    omega
   ·exact⟨Int.le_refl _,.inl rfl⟩
theorem jdN(node:Int)(t:Trust)(l:List Evp)(v:Str)(f hi:Int):downV node t l v f hi<=f/\(downV node t l v f hi=f\/(1<=downV node t l v f hi/\downV node t l v f hi<=1000)) :=
 jeo _ f (λx hx=>jaW l v x (List.mem_reverse.1 hx))
theorem jsi{b:Bal}(h:vB b=true):BB b:=by
 simp only[vB,qh,Bool.or_eq_true,qo] at h;exact⟨by omega,by omega,by omega⟩
theorem jws{b:Bal}(h:optB b=true):BB b:=by
 unfold optB at h;rw[Bool.or_eq_true] at h;rcases h with h | h
 ·rw[jqa h];exact jcc
 ·exact jsi h
theorem jyw{e:Evp}(h:vE e=true):BB e.bal/\BB e.prep/\BB e.prime:=by
 unfold vE at h;rw[qh] at h;have h2:=h.2;unfold kindE at h2;split at h2
 ·unfold prepE finB at h2
  simp only[qh] at h2;exact⟨jsi h2.1.1.1,jws h2.1.2.1,jws h2.1.2.2.1⟩
 ·split at h2
  ·unfold finB at h2
   simp only[qh] at h2;refine⟨jsi h2.1.1,jsi h2.2.1,?_⟩;rw[jqa h2.2.2.2.1];exact jcc
  ·split at h2
   ·simp only[qh] at h2
    refine⟨jsi h2.1,?_,?_⟩
    ·rw[jqa h2.2.1];exact jcc
    ·rw[jqa h2.2.2.1];exact jcc
   ·cases h2
theorem jxe{e:Evp}(h:vE e=true):∀b∈ownB e,BB b:=by
 obtain⟨h1,h2,h3⟩:=jyw h;unfold ownB;split
 ·intro b hb
  simp only[List.mem_cons,qv,or_false] at hb;rcases hb with rfl | rfl | rfl
  ·exact h1
  ·exact h2
  ·exact h3
 ·intro b hb
  simp only[List.mem_cons,qv,or_false] at hb;rcases hb with rfl | rfl
  ·exact h2
  ·exact⟨show (0:Int)<=1000000 by omega,show (1000000:Int)<=1000000 by omega,h1.sz⟩
def GB(b:Bal):Prop:=BB b/\zB b=false
theorem jw4{l:List Bal}{b:Bal}(h:∀x∈l,GB x)(hb:BB b):∀x∈intoV l b,GB x:=by
 unfold intoV;split
 ·exact h
 ·rename_i hz
  exact jj0 h ⟨hb,by simpa using hz⟩
theorem jhA:∀(ys:List Bal)(q:List Bal),(∀b∈ys,BB b)->(∀x∈q,GB x)->∀x∈ys.foldl intoV q,GB x
 | [],q,_,hq=>hq
 | y::r,q,h,hq=>jhA r (intoV q y) (λb hb=>h b (qj _ hb)) (jw4 hq (h y (za)))
theorem jfU:∀(l:List Evp)(q:List Bal),(∀x∈q,GB x)->∀x∈ballotsGo l q,GB x
 | [],q,h=>h
 | e::r,q,h=>by
  rw[ballotsGo];apply jfU r;split
  ·rename_i hv
   exact jhA _ q (jxe hv) h
  ·exact h
theorem jic(l:List Evp):∀x∈ballotsV l,GB x:=jfU l [] (λx h=>qp h qv)
theorem jbV(node:Int)(t:Trust)(l:List Evp)(p q:Bal)(v:Str):∀bs:List Bal,nextGo node t l p q v bs=Bal.none\/(nextGo node t l p q v bs∈bs/\((!decide (v=noS)&&!decide ((nextGo node t l p q v bs).v=v))||prB (raiseB p) (raiseB q) (nextGo node t l p q v bs))=false/\acc25 node t l (nextGo node t l p q v bs)=true)
 | []=>.inl rfl
 | b::r=>by
  rw[nextGo]
  by_cases h1:((!decide (v=noS)&&!decide (b.v=v))||prB (raiseB p) (raiseB q) b)=true
  ·rw[qf h1]
   rcases jbV node t l p q v r with h | ⟨h,h2⟩
   ·exact .inl h
   ·exact .inr ⟨qj _ h,h2⟩
  ·rw[qe h1]
   by_cases h2:acc25 node t l b=true
   ·rw[qf h2]
    exact .inr ⟨za,by simpa using h1,h2⟩
   ·rw[qe h2]
    rcases jbV node t l p q v r with h | ⟨h,h2⟩
    ·exact .inl h
    ·exact .inr ⟨qj _ h,h2⟩
theorem jw2(node:Int)(t:Trust)(l:List Evp)(p q:Bal)(v:Str):BB (nextV node t l p q v):=by
 rcases jbV node t l p q v (ballotsV l) with h | ⟨h,_⟩
 ·unfold nextV;rw[h];exact jcc
 ·exact(jic l _ h).1
theorem jeH(node:Int)(t:Trust)(l:List Evp)(a:Bal):∀bs:List Bal,highGo node t l a bs=Bal.none\/(highGo node t l a bs∈bs/\(highGo node t l a bs).n<=1000/\lB a (highGo node t l a bs)=true/\cnf25 node t l (highGo node t l a bs)=true)
 | []=>.inl rfl
 | b::r=>by
  rw[highGo]
  by_cases h1:(decide (b.n<=1000)&&(lB a b&&cnf25 node t l b))=true
  ·rw[qf h1]
   simp only[qh,qo] at h1;exact .inr ⟨za,h1.1,h1.2.1,h1.2.2⟩
  ·rw[qe h1]
   rcases jeH node t l a r with h | ⟨h,h2⟩
   ·exact .inl h
   ·exact .inr ⟨qj _ h,h2⟩
theorem jy4{b:Bal}(h:BB b):BB (finB1 b):=by
 unfold finB1;split
 ·exact⟨show (0:Int)<=1000 by omega,show (1000:Int)<=1000000 by omega,h.sz⟩
 ·exact h
theorem jtB{v:Str}{n:Int}{x:Bal}(h:1<=n):n<=low1 v n x:=by
 unfold low1;split
 ·rename_i hc
  rw[qh] at hc;have h1:=hc.2;unfold abB at h1;simp only[qh] at h1;have:=lB_n h1.2.2;split<;>omega
 ·exact Int.le_refl _
theorem jkD(v:Str)(fr:Int)(p q:Bal):max fr 1<=lowestV v fr p q:=by
 have h1:max fr 1<=low1 v (max fr 1) p:=jtB zo;have h2:low1 v (max fr 1) p<=lowestV v fr p q:=jtB zo;omega
theorem jsc{m:Mach}(h:m.phase=1)(hc:m.conf.n<=1000):(envR m).high<=1000:=by
 unfold envR;simp only[h,if_true];split<;>omega
theorem jgQ:∀(l:List Evp)(q:List Str),(∀x∈q,x.size<=200)->∀x∈valuesGo l q,x.size<=200
 | [],q,h=>h
 | e::r,q,h=>by
  rw[valuesGo];apply jgQ r;split
  ·rename_i hv
   exact jj0 h (jyw hv).1.sz
  ·exact h
theorem jtC(l:List Evp):∀x∈valuesV l,x.size<=200:=jgQ l [] (λx h=>qp h qv)
def BestOk(node:Int)(t:Trust)(l:List Evp)(p q:Bal)(b:Bal):Prop:=b=Bal.none\/(b.v∈valuesV l/\b.n∈boundsV l b.v/\freeV p q b.n b.v=true/\acc26 node t l b.v b.n b.n=true)
theorem joA{node:Int}{t:Trust}{l:List Evp}{p q:Bal}{v:Str}(hv:v∈valuesV l):∀(ns:List Int)(b:Bal),(∀n∈ns,n∈boundsV l v)->BestOk node t l p q b->BestOk node t l p q (bestN node t l p q v ns b)
 | [],b,_,h=>h
 | n::r,b,hn,h=>by
  rw[bestN];apply joA hv r _ (λx hx=>hn x (qj _ hx));split
  ·rename_i hc
   simp only[qh] at hc;exact .inr ⟨hv,hn n (za),hc.2.1,hc.2.2⟩
  ·exact h
theorem joO{node:Int}{t:Trust}{l:List Evp}{p q:Bal}:∀(vs:List Str)(b:Bal),(∀v∈vs,v∈valuesV l)->BestOk node t l p q b->BestOk node t l p q (bestS node t l p q vs b)
 | [],b,_,h=>h
 | v::r,b,hv,h=>by
  rw[bestS];exact joO r _ (λx hx=>hv x (qj _ hx)) (joA (hv v (za)) _ _ (λn h=>h) h)
theorem jmF(node:Int)(t:Trust)(l:List Evp)(p q:Bal):BestOk node t l p q (bestV node t l p q):=joO _ _ (λv h=>h) (.inl rfl)
theorem jos{node:Int}{t:Trust}{l:List Evp}{p q:Bal}(h:(firstV node t l p q).2.2.2=true) :
 (firstV node t l p q).1.size<=200/\(1<=(firstV node t l p q).2.1/\(firstV node t l p q).2.1<=1000)/\(1<=(firstV node t l p q).2.2.1/\(firstV node t l p q).2.2.1<=1000)/\acc26 node t l (firstV node t l p q).1 (firstV node t l p q).2.2.1 (firstV node t l p q).2.2.1=true:=by
 unfold firstV at h ⊢;split at h
 ·cases h
 ·rename_i hz
  rw[qe hz];rcases jmF node t l p q with e | ⟨h1,h2,_,h4⟩
  ·rw[e] at hz;exact qp rfl hz
  ·have hb:=jaW l _ _ h2
   refine⟨jtC l _ h1,?_,hb,h4⟩;have:=jeo (ok:=λn=>freeV p q n (bestV node t l p q).v&&acc26 node t l (bestV node t l p q).v n (bestV node t l p q).n) (boundsV l (bestV node t l p q).v).reverse (bestV node t l p q).n (λx hx=>jaW l _ x (List.mem_reverse.1 hx));simp only;omega
theorem jjz{node:Int}{t:Trust}{l:List Evp}{v:Str}:∀(ns:List Int)(lh:Int × Int),(∀x∈ns,1<=x/\x<=1000)->(extGo node t l v ns lh=lh\/((extGo node t l v ns lh).1<=1000/\(1<=(extGo node t l v ns lh).1\/(extGo node t l v ns lh).1=lh.1)/\lh.2<(extGo node t l v ns lh).2/\(extGo node t l v ns lh).2<=1000/\1<=(extGo node t l v ns lh).2))
 | [],lh,_=>.inl rfl
 | n::r,lh,h=>by
  have hn:=h n (za);have hd:=jdN node t l v n n;rw[extGo];split
  ·split
   ·right
    simp only;split<;>omega
   ·exact jjz r lh (λx hx=>h x (qj _ hx))
  ·exact .inl rfl
theorem jkE{node:Int}{t:Trust}{l:List Evp}{v:Str}(hlo:0<=lo/\lo<=1000)(hhi:0<=hi/\hi<=1000) :
 (0<=(extendV node t l v lo hi).1/\(extendV node t l v lo hi).1<=1000)/\(0<=(extendV node t l v lo hi).2/\(extendV node t l v lo hi).2<=1000)/\(((extendV node t l v lo hi).2=hi/\(extendV node t l v lo hi).1<=lo)\/hi<(extendV node t l v lo hi).2):=by
 have h1:=jjz (node:=node) (t:=t) (l:=l) (v:=v) (boundsV l v).reverse (lo,hi) (λx hx=>jaW l v x (List.mem_reverse.1 hx));have h2:=jdN node t l v (extGo node t l v (boundsV l v).reverse (lo,hi)).1 (extGo node t l v (boundsV l v).reverse (lo,hi)).2;unfold extendV
 revert h1 h2
 generalize extGo node t l v (boundsV l v).reverse (lo,hi)=x
 obtain⟨a,b⟩:=x;simp only[Prod.mk.injEq]
 generalize downV node t l v a b=d
 intro h1 h2;omega
theorem jkw{node:Int}{t:Trust}{l:List Evp}{v:Str}{hi:Int}:∀(ns:List Int)(f:Int),(∀x∈ns,1<=x/\x<=1000)->1<=f/\f<=1000->1<=finLow node t l v hi ns f/\finLow node t l v hi ns f<=1000
 | [],f,_,hf=>hf
 | n::r,f,h,hf=>by
  rw[finLow];split
  ·exact jkw r n (λx hx=>h x (qj _ hx)) (h n (za))
  ·exact hf
theorem jjU{node:Int}{t:Trust}{l:List Evp}{v:Str}{n:Int}{r:List Int}(h:cnf26 node t l v n n=true):finGo node t l v (n::r)=(finLow node t l v n r n,n,true):=by rw[finGo,qf h]
theorem jjD{node:Int}{t:Trust}{l:List Evp}{v:Str}{n:Int}{r:List Int}(h:cnf26 node t l v n n=false):finGo node t l v (n::r)=finGo node t l v r:=by rw[finGo,qe (by rw[h];decide)]
theorem jtU{node:Int}{t:Trust}{l:List Evp}{v:Str}(ns:List Int):(∀x∈ns,1<=x/\x<=1000)->(finGo node t l v ns).2.2=true->(1<=(finGo node t l v ns).1/\(finGo node t l v ns).1<=1000)/\(1<=(finGo node t l v ns).2.1/\(finGo node t l v ns).2.1<=1000)/\cnf26 node t l v (finGo node t l v ns).2.1 (finGo node t l v ns).2.1=true:=by
 induction ns with
 | nil=>intro _ h;cases h
 | cons n r ih =>
  intro h h2;have hn:=h n (za);have hr:∀x∈r,1<=x/\x<=1000:=λx hx=>h x (qj _ hx);cases hc:cnf26 node t l v n n with
  | true =>
   rw[jjU hc];exact⟨jkw r n hr hn,hn,hc⟩
  | false =>
   rw[jjD hc] at h2 ⊢;exact ih hr h2
theorem jgf{node:Int}{t:Trust}{l:List Evp}{v:Str}(h:(finalB node t l v).2.2=true):(1<=(finalB node t l v).1/\(finalB node t l v).1<=1000)/\(1<=(finalB node t l v).2.1/\(finalB node t l v).2.1<=1000)/\cnf26 node t l v (finalB node t l v).2.1 (finalB node t l v).2.1=true :=
 jtU _ (λx hx=>jaW l v x (List.mem_reverse.1 hx)) h
theorem juQ(m:Mach):BB (prepB m):=jy4 (jw2 m.node m.t (allM m) m.prep m.prime (if m.phase=2 then m.bal.v else noS))
theorem jek{m:Mach}(h:InvM m):StepR m (prepM m):=by
 unfold prepM;split
 ·exact StepR.refl h
 ·rename_i h0
  have hb:=juQ m
  by_cases h1:m.phase=1
  ·by_cases hl:m.low=0
   ·rw[qe (λx=>x.2 hl)]
    exact jed h hb h1 h.low (.inl rfl)
   ·rw[qf ⟨h1,hl⟩]
    have hh:=jsc (m:=prep1 m) h1 h.confn;have hg:max m.low 1<=prepL m:=jkD m.bal.v m.low (prep1 m).prep (prep1 m).prime;have hl0:=h.low;split
    ·exact jed h hb h1 zo (.inr (jqB hl h.low))
    ·exact jed h hb h1 zo (jys hl h.low zo zo)
  ·rw[qe (λx=>h1 x.1)]
   have h2:m.phase=2:=by have:=h.ph;omega
   exact jm4 h hb h2
theorem juu(m:Mach):confB m=Bal.none\/(GB (confB m)/\(confB m).n<=1000/\lB m.conf (confB m)=true/\cnf25 m.node m.t (allM m) (confB m)=true):=by
 rcases jeH m.node m.t (allM m) m.conf (ballotsV (allM m)) with h | ⟨h1,h2⟩
 ·exact .inl h
 ·exact .inr ⟨jic _ _ h1,h2⟩
theorem ju0(m:Mach)(h:InvM m):∃(bal':Bal) (l:Int),conf1 m={ m with conf:=confB m,bal:=bal',low:=l }/\(bal'=m.bal\/bal'=confB m)/\0<=l/\l<=1000:=by
 have hl:=h.low;unfold conf1;split
 ·exact⟨confB m,if cB m.bal (confB m)=true then m.low else 0,rfl,.inr rfl,by split<;>omega⟩
 ·exact⟨m.bal,m.low,rfl,.inl rfl,hl⟩
theorem jey{m:Mach}(h:InvM m):StepR m (confS m):=by
 unfold confS;split
 ·exact StepR.refl h
 ·rename_i h0
  have h1:m.phase=1:=by omega
  split
  ·exact StepR.refl h
  ·rename_i hz
   rcases juu m with hb | ⟨hg,hn,hl,_⟩
   ·rw[hb] at hz;exact qp rfl hz
   ·obtain⟨bal',l,e,hbal,hll⟩:=ju0 m h
    rw[e];unfold conf2;split
    ·rename_i hc
     have hlo:=jkD (confB m).v bal'.n m.prep m.prime;have hle:lowestV (confB m).v bal'.n m.prep m.prime<=(confB m).n:=hc.2;exact jiP (l:=lowestV (confB m).v bal'.n m.prep m.prime) h h1 hg.1 hn hl hbal zo
    ·exact jiP h h1 hg.1 hn hl hbal hll
theorem jf3{m:Mach}(h:InvM m):StepR m (comM m):=by
 unfold comM;split
 ·rename_i h1
  split
  ·rename_i hf
   obtain⟨a1,a2,a3,_⟩:=jos hf;refine jvz h h1 a1 a2 a3 ?_ ?_
   ·split
    ·exact .inr rfl
    ·exact .inl rfl
   ·split
    ·exact .inl rfl
    ·exact .inr rfl
  ·exact StepR.refl h
 ·split
  ·rename_i h2
   obtain⟨a1,a2,a3⟩:=jkE (node:=m.node) (t:=m.t) (l:=allM m) (v:=m.bal.v) h.low h.high;exact jtc h h2 a1 a2 a3
  ·exact StepR.refl h
theorem jgm{m:Mach}(h:InvM m):StepR m (finM m):=by
 unfold finM;split
 ·exact StepR.refl h
 ·rename_i h2
  split
  ·rename_i hf
   obtain⟨a1,a2,_⟩:=jgf hf;exact jwz h zo a1 a2
  ·exact StepR.refl h
theorem jg1{m:Mach}(h0:0<=m.bal.n):∀(l:List Evp)(b:Int),0<=b->0<=bestGo m l b
 | [],b,h=>h
 | e::r,b,h=>by
  rw[bestGo];apply jg1 h0 r;split
  ·rename_i hc
   simp only[qh,qo] at hc;omega
  ·exact h
theorem jj3{m:Mach}(h:InvM m):StepR m (cauM m):=by
 unfold cauM;split
 ·exact StepR.refl h
 ·rename_i h0
  have hp:m.phase=1\/m.phase=2:=by have:=h.ph;omega
  have hb:=jg1 h.bal.n0 m.heard 1000000 zo;exact jk4 h hp zo rfl rfl
theorem ja3{m:Mach}(h:InvM m):StepR m (stepG m):=by
 unfold stepG;split
 ·exact jek h
 split
 ·exact jey h
 split
 ·exact jf3 h
 split
 ·exact jgm h
 ·exact jj3 h
theorem jfF{a b:Bal}(h:a.n=b.n)(h2:a.v=b.v):a=b:=by cases a;cases b;simp only at h h2;rw[h,h2]
theorem jb5{a b:Mach}(hs:SameF a b)(h:sameV a b=true):b=a:=by
 simp only[sameV,qh,qo] at h;obtain⟨h1,⟨h2,h3⟩,⟨h4,h5⟩,⟨h6,h7⟩,⟨h8,h9⟩,h10,h11⟩:=h;have e1:=jfF h2 h3;have e2:=jfF h4 h5;have e3:=jfF h6 h7;have e4:=jfF h8 h9;have k1:=hs.node;have k2:=hs.slot;have k3:=hs.seq;have k4:=hs.t;have k5:=hs.prop;have k6:=hs.heard;cases a;cases b;simp only at *
 subst_vars
 rfl
theorem jez{a b:Mach}(h:sameV a b=false):¬b=a:=by
 rintro rfl;simp[sameV] at h
theorem ja2(a:Mach):sameV a a=true:=by simp[sameV]
structure AtRest(m:Mach):Prop where
 prep:prepM m=m
 conf:confS m=m
 com:comM m=m
 fin:finM m=m
 cau:cauM m=m
theorem jxJ{m:Mach}(h:InvM m)(hs:stepG m=m):AtRest m:=by
 have p1:sameV m (prepM m)=true:=by
  cases hx:sameV m (prepM m) with
  | true=>rfl
  | false=>unfold stepG at hs;rw[qf hx] at hs;exact qp hs (jez hx)
 unfold stepG at hs;rw[qe (by rw[p1];decide)] at hs
 have p2:sameV m (confS m)=true:=by
  cases hx:sameV m (confS m) with
  | true=>rfl
  | false=>rw[qf hx] at hs;exact qp hs (jez hx)
 rw[qe (by rw[p2];decide)] at hs
 have p3:sameV m (comM m)=true:=by
  cases hx:sameV m (comM m) with
  | true=>rfl
  | false=>rw[qf hx] at hs;exact qp hs (jez hx)
 rw[qe (by rw[p3];decide)] at hs
 have p4:sameV m (finM m)=true:=by
  cases hx:sameV m (finM m) with
  | true=>rfl
  | false=>rw[qf hx] at hs;exact qp hs (jez hx)
 rw[qe (by rw[p4];decide)] at hs;exact⟨jb5 (jek h).1 p1,jb5 (jey h).1 p2,jb5 (jf3 h).1 p3,jb5 (jgm h).1 p4,hs⟩
theorem jf5{m:Mach}(hs:stepG m=m):∀n,iterM n m=m
 | 0=>rfl
 | n+1=>by rw[iterM,hs];exact jf5 hs n
theorem jhg:∀(n:Nat)(m:Mach),InvM m->mu m<=n->iterM (n+1) m=iterM n m
 | 0,m,h,hm=>by
  show stepG m=m;rcases(ja3 h).2.2 with e | e
  ·exact e
  ·omega
 | n+1,m,h,hm=>by
  show iterM (n+1) (stepG m)=iterM n (stepG m);rcases(ja3 h).2.2 with e | e
  ·rw[e,jf5 e,jf5 e]
  ·exact jhg n _ (ja3 h).2.1 zo
theorem jkB{m:Mach}(h:InvM m):∀(d n:Nat),mu m<=n->iterM (n+d) m=iterM n m
 | 0,n,_=>rfl
 | d+1,n,hn=>by rw[show n+(d+1)=(n+d)+1 from rfl,jhg _ m h zo];exact jkB h d n hn
theorem jdt{m:Mach}(h:InvM m):restM (stepG m)=restM m:=by
 unfold restM;rcases(ja3 h).2.2 with e | e
 ·rw[e]
 ·have h':=(ja3 h).2.1
  have h1:iterM (mu m) m=iterM (mu m - 1) (stepG m):=by rw[show mu m=(mu m - 1)+1 from by omega,iterM];rfl
  rw[h1];have:=jkB h' (mu m - 1 - mu (stepG m)) (mu (stepG m)) (Nat.le_refl _);rw[show mu (stepG m)+(mu m - 1 - mu (stepG m))=mu m - 1 from by omega] at this;exact this.symm
theorem je0{m:Mach}(hs:stepG m=m):restM m=m:=jf5 hs _
theorem jj6{P:Mach->Prop}(hP:∀c,InvM c->P c->P (stepG c)):∀(n:Nat)(m:Mach),InvM m->P m->P (iterM n m)/\InvM (iterM n m)/\SameF m (iterM n m)
 | 0,m,h,hp=>⟨hp,h,SameF.refl m⟩
 | n+1,m,h,hp=>by
  rw[iterM];have h1:=ja3 h;obtain⟨a,b,c⟩:=jj6 hP n (stepG m) h1.2.1 (hP m h hp);exact⟨a,b,h1.1.trans c⟩
theorem jcu{P:Mach->Prop}(hP:∀c,InvM c->P c->P (stepG c)){m:Mach}(h:InvM m)(hp:P m):P (restM m):=(jj6 hP _ m h hp).1
theorem jbj{m:Mach}(h:InvM m):InvM (restM m)/\SameF m (restM m):=(jj6 (P:=λ_=>True) (λ_ _ _=>trivial) _ m h trivial).2
theorem jju{m:Mach}(h:InvM m):stepG (restM m)=restM m:=by
 have h1:stepG (restM m)=iterM (mu m+1) m:=by
  unfold restM
  have:∀(n:Nat)(c:Mach),stepG (iterM n c)=iterM (n+1) c:=by
   intro n
   induction n with
   | zero=>intro c;rfl
   | succ n ih=>intro c;rw[iterM,ih];rfl
  exact this _ _
 rw[h1,jhg _ m h (Nat.le_refl _)];rfl
theorem jti{m:Mach}(h:InvM m):AtRest (restM m):=jxJ (jbj h).1 (jju h)
set_option linter.unusedSimpArgs false
def ltE(e x:Evp):Bool:=decide (x.node<e.node)
def putGo(l:List Evp)(e:Evp):List Evp->Nat->List Evp × Bool
 | [],_=>(l.take (posG (ltE e) l)++[e]++l.drop (posG (ltE e) l),true)
 | x::r,i=>if x.node=e.node then (if x.seq>=e.seq then (l,false) else (l.take i++[e]++l.drop (i+1),true)) else putGo l e r (i+1)
def putV(l:List Evp)(e:Evp):List Evp × Bool:=if vE e=true then putGo l e l 0 else (l,false)
theorem jyH{l:List Evp}{e:Evp}(h:vE e=false):putV l e=(l,false):=by unfold putV;rw[h];rfl
theorem joP{l:List Evp}{e:Evp}(h:vE e=true):putV l e=putGo l e l 0:=qf h
def zeroM:Mach:=⟨0,0,0,Trust.none,0,Bal.none,Bal.none,Bal.none,Bal.none,0,0,noS,[]⟩
def newV(node slot:Int)(t:Trust):Mach × Int :=
 if node<0\/node>9 then (zeroM,5) else if slot<1\/slot>1000000 then (zeroM,77) else if ¬validT t=0 then (zeroM,1)
 else (⟨node,slot,0,t,1,Bal.none,Bal.none,Bal.none,Bal.none,0,0,noS,[]⟩,0)
def propM(m:Mach)(v:Str):Mach:=if zB m.bal=true then { m with prop:=v,bal:=⟨1,valM { m with prop:=v }⟩,seq:=1 } else { m with prop:=v }
def propV(m:Mach)(v:Str):Mach × Int :=
 if checkM m=false then (zeroM,13) else if v.size<1\/v.size>200 then (zeroM,1) else (numM m (propM m v),0)
def recV(m:Mach)(e:Evp):Mach × Int :=
 if checkM m=false then (zeroM,13)
 else if (vE e=false\/e.node=m.node)\/¬e.slot=m.slot then (zeroM,61)
 else if (putV m.heard e).2=false then (zeroM,9)
 else (numM m { m with heard:=(putV m.heard e).1 },0)
def tmoM(m:Mach):Mach:={ m with bal:=⟨m.bal.n+1,valM m⟩,low:=(if valM m=m.bal.v then m.low else 0),seq:=max m.seq 1 }
def tmoV(m:Mach):Mach × Int :=
 if checkM m=false then (zeroM,13) else if m.phase=3\/valM m=noS then (zeroM,62) else if m.bal.n>=1000 then (zeroM,3) else (numM m (tmoM m),0)
def dcdV(m:Mach):Str × Bool:=if checkM m=false\/¬m.phase=3 then (noS,false) else (m.bal.v,true)
theorem jjR{m:Mach}(h:InvM m)(k:Int):InvM { m with seq:=k }:=⟨h.ph,h.bal,h.baln,h.prep,h.prime,h.conf,h.confn,h.low,h.high,h.prop,h.sz,h.hl,h.hs⟩
theorem jxf{m:Mach}(h:InvM m):InvM (advM m):=by
 unfold advM;split
 ·split
  ·exact(jbj h).1
  ·exact jjR (jbj h).1 _
 ·exact h
structure InvS(m:Mach):Prop where
 inv:InvM m
 seq:0<=m.seq/\m.seq<=1000000
theorem jl9{m:Mach}(h:InvM m)(hq:0<=m.seq/\m.seq<=1000000):0<=(advM m).seq/\(advM m).seq<=1000000:=by
 have h1:=(jbj h).2.seq;unfold advM;split
 ·split
  ·rw[h1];exact hq
  ·show 0<=max (restM m).seq 1/\max (restM m).seq 1<=1000000
   rw[h1];omega
 ·exact hq
theorem jmL{b m:Mach}(h:InvS m):InvS (numM b m):=by
 have h1:=jxf h.inv;have h2:=jl9 h.inv h.seq;unfold numM;split
 ·exact⟨h1,h2⟩
 ·split
  ·exact⟨jjR h1 _,by show 0<=min ((advM m).seq+1) 1000000/\min ((advM m).seq+1) 1000000<=1000000;omega⟩
  ·exact⟨h1,h2⟩
theorem jgq{α:Type}{l:List α}{x:α}{j:Nat}(h:k<=j):(l.take k++[x]++l.drop j).length<=l.length+1:=by simp;omega
theorem jgn{α:Type}{p:α->Prop}{l:List α}{x:α}{j:Nat}(h:∀y∈l,p y)(hx:p x):∀y∈l.take k++[x]++l.drop j,p y:=λy hy=>by
 simp only[List.append_assoc,List.mem_append,List.mem_singleton] at hy;rcases hy with hy | rfl | hy
 ·exact h y (List.mem_of_mem_take hy)
 ·exact hx
 ·exact h y (List.mem_of_mem_drop hy)
theorem joV{p:Evp->Prop}{l:List Evp}{e:Evp}(h:∀x∈l,p x)(he:p e):∀(r:List Evp)(i:Nat),(putGo l e r i).1.length<=l.length+1/\∀x∈(putGo l e r i).1,p x
 | [],i=>⟨jgq (Nat.le_refl _),jgn h he⟩
 | x::r,i=>by
  unfold putGo;split
  ·split
   ·exact⟨by show l.length<=l.length+1;omega,h⟩
   ·exact⟨jgq (Nat.le_succ _),jgn h he⟩
  ·exact joV h he r (i+1)
theorem jxK{p:Evp->Prop}{l:List Evp}{e:Evp}(h:∀x∈l,p x)(he:vE e=true->p e):(putV l e).1.length<=l.length+1/\∀x∈(putV l e).1,p x:=by
 unfold putV;split
 ·rename_i hv;exact joV h (he hv) l 0
 ·exact⟨by show l.length<=l.length+1;omega,h⟩
theorem jtV{e:Evp}(h:vE e=true):0<=e.node/\e.node<10:=by
 simp only[vE,headE,qh,qo] at h;exact⟨h.1.1,h.1.2.1⟩
theorem jhw{m:Mach}:∀(l:List Evp)(p:Option Int),heardGo m p l=true->(l.length:Int)<=(match p with | none=>10 | some q=>max (9 - q) 0)
 | [],p,_=>by cases p<;>simp<;>omega
 | e::r,p,h=>by
  have h':vE e=true/\heardGo m (some e.node) r=true/\(∀q,p=some q->q<e.node):=by
   cases p<;>simp only[heardGo,qh,qo] at h<;>exact⟨h.1.1,h.2,λq hq=>by cases hq;try exact h.1.2.2.2⟩
  have h1:=jhw r _ h'.2.1;have h2:=jtV h'.1;simp only at h1;cases p with
  | none=>simp only[qi];omega
  | some q=>have:=h'.2.2 q rfl;simp only[qi];omega
theorem jwG{m:Mach}(h:checkM m=true):m.heard.length<=10:=by
 simp only[checkM,headM,qh] at h;have h1:=jhw m.heard none h.1.2.2.2.2.2.2.2.2;simp only at h1;omega
theorem jkg{m:Mach}(h:InvM m){v:Str}(hv:v.size<=200):InvM { m with prop:=v }:=⟨h.ph,h.bal,h.baln,h.prep,h.prime,h.conf,h.confn,h.low,h.high,hv,h.sz,h.hl,h.hs⟩
theorem jn1{m:Mach}(h:InvM m){n l k:Int}{v:Str}(hn:0<=n/\n<=1000)(hv:v.size<=200)(hl:l=m.low\/l=0):InvM { m with bal:=⟨n,v⟩,low:=l,seq:=k } :=
 ⟨h.ph,⟨hn.1,by show n<=1000000;omega,hv⟩,hn.2,h.prep,h.prime,h.conf,h.confn,by have:=h.low;show 0<=l/\l<=1000;omega,h.high,h.prop,h.sz,h.hl,h.hs⟩
theorem jqZ{m:Mach}(h:InvM m){q:List Evp}(hl:q.length<=20)(hq:∀e∈q,sizeT e.t<=100000/\BB e.bal):InvM { m with heard:=q }:=⟨h.ph,h.bal,h.baln,h.prep,h.prime,h.conf,h.confn,h.low,h.high,h.prop,h.sz,hl,hq⟩
theorem jds{m:Mach}(h:InvS m){v:Str}(hv:v.size<=200):InvS (propM m v):=by
 unfold propM;split
 ·exact⟨jn1 (m:={ m with prop:=v }) (l:=m.low) (jkg h.inv hv) zo (jhb (jkg h.inv hv)) (.inl rfl),by show (0:Int)<=1/\(1:Int)<=1000000;omega⟩
 ·exact⟨jkg h.inv hv,h.seq⟩
theorem jga{m:Mach}(h:InvS m)(hc:checkM m=true){e:Evp}(he:sizeT e.t<=100000):InvS { m with heard:=(putV m.heard e).1 }:=by
 obtain⟨h1,h2⟩:=jxK (l:=m.heard) (e:=e) h.inv.hs (λhv=>⟨he,(jyw hv).1⟩);exact⟨jqZ h.inv (by have:=jwG hc;omega) h2,h.seq⟩
theorem jf4{m:Mach}(h:InvS m)(hn:m.bal.n<1000):InvS (tmoM m):=by
 have hb0:=h.inv.bal.n0;have hq:=h.seq;exact⟨jn1 h.inv zo (jhb h.inv) (by split;exact .inl rfl;exact .inr rfl),by show 0<=max m.seq 1/\max m.seq 1<=1000000;omega⟩
def valN(x:Str):Bool:=decide (1<=(x.size:Int))&&decide ((x.size:Int)<=200)
def cN(a b:Str):Int:=if a=b then 0 else if (decide ((a.size:Int)<(b.size:Int))||(decide ((a.size:Int)=(b.size:Int))&&Op.bytesLess a.toList b.toList))=true then -1 else 1
def hasN(l:List Str)(x:Str):Bool:=l.any (λy=>decide (x=y))
def plnGo:Option Str->List Str->Bool
 | _,[]=>true
 | p,x::r=>(valN x&&(match p with | none=>true | some y=>decide (cN y x<0)))&&plnGo (some x) r
def plainN(l:List Str):Bool:=plnGo none l&&decide (l.length<=40)
def prevN(l:List Str)(k:Nat):Option Str:=if k=0 then none else l[k - 1]?
theorem jqi{l:List Str}{x:Str}(h:l[k]?=some x):prevN l (k+1)=some x:=by
 unfold prevN;rw[qe zo,Nat.add_sub_cancel,h]
def sameN(a b:List Str):Bool:=decide (a=b)
def putsGo(x:Str):List Str->Bool->List Str->List Str
 | [],d,q=>if d=true then q else q++[x]
 | y::r,d,q=>if (!d&&decide (cN x y<0))=true then putsGo x r true (q++[x]++[y]) else putsGo x r d (q++[y])
def putN(l:List Str)(x:Str):List Str:=if (hasN l x||decide (40<=l.length))=true then l else putsGo x l false []
def unionGo:Nat->List Str->List Str->List Str->List Str
 | 0,_,_,q=>q
 | n+1,[],[],q=>q
 | n+1,x::a,[],q=>unionGo n a [] (q++[x])
 | n+1,[],y::b,q=>unionGo n [] b (q++[y])
 | n+1,x::a,y::b,q=>if cN x y<0 then unionGo n a (y::b) (q++[x]) else if cN x y>0 then unionGo n (x::a) b (q++[y]) else unionGo n a b (q++[x])
def unionN(a b:List Str):List Str:=unionGo (a.length+b.length) a b []
def compGo:List Str->Str × Bool->Str × Bool
 | [],q=>q
 | x::r,q=>compGo r (if (valN x&&(!q.2||decide (cN x q.1>0)))=true then (x,true) else q)
def compN(l:List Str):Str × Bool:=compGo l (noS,false)
def okN(p:Option Str)(x:Str):Bool:=match p with | none=>true | some y=>decide (cN y x<0)
theorem jib(p:Option Str)(x:Str)(r:List Str):plnGo p (x::r)=((valN x&&okN p x)&&plnGo (some x) r):=by cases p<;>rfl
theorem jyY{l:List Str}{x y:Str}(hy:0<k->l[k - 1]?=some y):okN (prevN l k) x=if (0:Int)<(k:Int) then decide (cN y x<0) else true:=by
 unfold prevN
 by_cases h:k=0
 ·rw[qf h,qe zo];rfl
 ·rw[qe h,qf zo,hy zo];rfl
theorem jvP{l:List Str}(x:Str)(h:k<=l.length):∃y,0<k->l[k - 1]?=some y:=by
 rcases Nat.eq_zero_or_pos k with h0 | h0
 ·exact⟨x,λh1=>by omega⟩
 ·exact⟨l[k - 1]'zo,λ_=>ze _⟩
theorem jmd:∀(n:Nat)(q:List Str),unionGo n [] [] q=q
 | 0,_=>rfl
 | _+1,_=>rfl
theorem jpp{l:List Str}{x:Str}(h:l[i]?=some x):l.drop i=x::l.drop (i+1):=by
 obtain⟨h1,h2⟩:=List.getElem?_eq_some_iff.1 h;rw[List.drop_eq_getElem_cons h1,h2]
theorem jg0{n:Nat}{a b q:List Str}{x:Str}(ha:a[i]?=some x)(h:k=b.length\/∃y,b[k]?=some y/\cN x y<0):unionGo (n+1) (a.drop i) (b.drop k) q=unionGo n (a.drop (i+1)) (b.drop k) (q++[x]):=by
 rw[jpp ha];rcases h with rfl | ⟨y,hy,hlt⟩
 ·rw[List.drop_length];rfl
 ·rw[jpp hy,unionGo,qf hlt]
theorem jkZ{n:Nat}{a b q:List Str}{y:Str}(hb:b[k]?=some y)(h:i=a.length\/∃x,a[i]?=some x/\cN x y>0):unionGo (n+1) (a.drop i) (b.drop k) q=unionGo n (a.drop i) (b.drop (k+1)) (q++[y]):=by
 rw[jpp hb];rcases h with rfl | ⟨x,hx,hlt⟩
 ·rw[List.drop_length];rfl
 ·rw[jpp hx,unionGo,qe zo,qf hlt]
theorem jqN{n:Nat}{a b q:List Str}{x y:Str}(ha:a[i]?=some x)(hb:b[k]?=some y)(h1:¬cN x y<0)(h2:¬cN x y>0):unionGo (n+1) (a.drop i) (b.drop k) q=unionGo n (a.drop (i+1)) (b.drop (k+1)) (q++[x]):=by
 rw[jpp ha,jpp hb,unionGo,qe h1,qe h2]
structure Nmn where
 node:Int
 seq:Int
 t:Trust
 votes:List Str
 accs:List Str
structure Nmr where
 node:Int
 slot:Int
 round:Int
 seq:Int
 t:Trust
 own:Str
 votes:List Str
 accs:List Str
 confs:List Str
 heard:List Nmn
def sayN(n:Nmr):Nmn:=⟨n.node,n.seq,n.t,n.votes,n.accs⟩
def plainNm(m:Nmn):Bool:=((((decide (m.node>=0)&&decide (m.node<10))&&decide (m.seq>=1))&&decide (validT m.t=0))&&plainN m.votes)&&plainN m.accs
theorem jbP:∀(n:Nat)(a b q:List Str),(unionGo n a b q).length<=q.length+a.length+b.length
 | 0,a,b,q=>by unfold unionGo;omega
 | n+1,[],[],q=>by simp[unionGo]
 | n+1,x::a,[],q=>by have:=jbP n a [] (q++[x]);simp only[unionGo,qi,qm,qu] at this ⊢;omega
 | n+1,[],y::b,q=>by have:=jbP n [] b (q++[y]);simp only[unionGo,qi,qm,qu] at this ⊢;omega
 | n+1,x::a,y::b,q=>by
  have h1:=jbP n a (y::b) (q++[x]);have h2:=jbP n (x::a) b (q++[y]);have h3:=jbP n a b (q++[x]);simp only[unionGo,qi,qm,qu] at h1 h2 h3 ⊢;split
  ·omega
  ·split<;>omega
theorem jdO(a b:List Str):(unionN a b).length<=a.length+b.length:=by
 have:=jbP (a.length+b.length) a b [];unfold unionN;simp only[qu] at this;omega
structure NB(n:Nmr):Prop where
 sz:sizeT n.t<=100000
 v:n.votes.length<=1000
 a:n.accs.length<=1000
 c:n.confs.length<=1000
 hl:n.heard.length<=20
 hs:∀m∈n.heard,sizeT m.t<=100000/\m.votes.length<=1000/\m.accs.length<=1000
 nd:0<=n.node/\n.node<10
 hn:∀m∈n.heard,0<=m.node/\m.node<10
def knownF(q:List Str)(m:Nmn):List Str:=unionN q (unionN m.votes m.accs)
def knownN(n:Nmr):List Str:=n.heard.foldl knownF (unionN n.votes n.accs)
theorem jqe{q:List Str}{m:Nmn}(hv:m.votes.length<=1000)(ha:m.accs.length<=1000):(knownF q m).length<=q.length+2000:=by
 have h1:=jdO m.votes m.accs;have h2:=jdO q (unionN m.votes m.accs);unfold knownF;omega
def sideS(f:Nmn->List Str)(x:Str)(s:Nat)(m:Nmn):Nat:=if hasN (f m) x=true then s|||1 * 2^m.node.toNat else s
def sideN(f:Nmn->List Str)(n:Nmr)(x:Str):Nat:=(n.heard++[sayN n]).foldl (sideS f x) 0
theorem jjl{f:Nmn->List Str}{x:Str}{s w:Nat}{m:Nmn}(hw:m.node=(w:Int))(h:hasN (f m) x=true):sideS f x s m=s|||1 * 2^w:=by unfold sideS;rw[qf h,hw,qq]
theorem jjM{f:Nmn->List Str}{x:Str}{s:Nat}{m:Nmn}(h:hasN (f m) x=false):sideS f x s m=s:=by unfold sideS;rw[qe (by rw[h];decide)]
def plainMg(m:Nmn):Bool:=(((decide (m.node>=0)&&decide (m.node<10))&&decide (m.seq>=1))&&decide (validT m.t=0))
def seenGo:List Mem->List Nmn->List Mem
 | q,[]=>q
 | q,m::r=>seenGo (if plainMg m=true then q.set m.node.toNat ⟨true,m.t⟩ else q) r
def seenV(v:Int)(t:Trust)(l:List Nmn):List Mem :=
 if 0<=v/\v<10 then (if validT t=0 then ((seenGo (List.replicate 10 ⟨false,Trust.none⟩) l).set v.toNat ⟨false,Trust.none⟩).set v.toNat ⟨true,t⟩ else (seenGo (List.replicate 10 ⟨false,Trust.none⟩) l).set v.toNat ⟨false,Trust.none⟩)
 else seenGo (List.replicate 10 ⟨false,Trust.none⟩) l
def fol2(k:Int)(q:List Str)(m:Nmn):List Str:=if m.node=k then (unionN m.votes m.accs).foldl putN q else q
def fol1(n:Nmr)(q:List Str)(k:Int):List Str:=if k=n.node then (if n.own=noS then q else putN q n.own) else n.heard.foldl (fol2 k) q
def followN(n:Nmr):Nmr:={ n with votes:=(nodesOf (leadersR n.t n.node n.slot n.round).1).foldl (fol1 n) n.votes }
def canN(n:Nmr)(x:Str):Bool:=(!hasN n.accs x&&decide ((n.accs.length:Int)<40))&&acceptsC (seenV n.node n.t n.heard) n.node (sideN Nmn.votes n x:Nat) (sideN Nmn.accs n x:Nat)
def accN(n:Nmr)(x:Str):Nmr:={ n with accs:=putN n.accs x }
def againN:Nat->Nmr->Nmr
 | 0,n=>n
 | k+1,n=>match (knownN n).find? (canN n) with | none=>n | some x=>againN k (accN n x)
def confN(n:Nmr)(x:Str):Bool:=confirmsC (seenV n.node n.t n.heard) n.node (sideN Nmn.accs n x:Nat)
def cnd1(n:Nmr)(q:List Str)(x:Str):List Str:=if confN n x=true then putN q x else q
def chosenN(n:Nmr):Nmr:={ n with confs:=n.accs.foldl (cnd1 n) n.confs }
def firstN(n:Nmr):Nmr:=if n.confs.length=0 then followN n else n
def bodyN(n:Nmr):Nmr:=chosenN (againN 41 (firstN n))
def turnN(b n:Nmr):Bool:=(!sameN b.votes n.votes||!sameN b.accs n.accs)||!same b.t n.t
def settleN(b n:Nmr):Nmr:=if turnN b (bodyN n)=true then { bodyN n with seq:=b.seq+1 } else bodyN n
def zeroN:Nmr:=⟨0,0,0,0,Trust.none,noS,[],[],[],[]⟩
def newN(node slot:Int)(t:Trust)(own:Str):Nmr:=⟨node,slot,1,1,t,own,[],[],[],[]⟩
def startN(node slot:Int)(t:Trust)(own:Str):Nmr × Int :=
 if node<0\/node>=10 then (zeroN,5) else if slot<0\/slot>1000000 then (zeroN,1) else if ¬validT t=0 then (zeroN,validT t)
 else if (own.size:Int)>200 then (zeroN,3) else ({ settleN (newN node slot t own) (newN node slot t own) with seq:=1 },0)
def nhGo(n:Nmr):Option Int->List Nmn->Bool
 | _,[]=>true
 | p,m::r=>((plainNm m&&!decide (m.node=n.node))&&(match p with | none=>true | some q=>decide (q<m.node)))&&nhGo n (some m.node) r
def rngN(n:Nmr):Bool:=((((((((decide (n.node>=0)&&decide (n.node<10))&&decide (n.slot>=0))&&decide (n.slot<=1000000))&&decide (n.round>=1))&&decide (n.round<=1000))&&decide (n.seq>=1))&&decide (n.seq<=1000000)))
def lstN(n:Nmr):Bool:=(((decide (validT n.t=0)&&decide ((n.own.size:Int)<=200))&&plainN n.votes)&&plainN n.accs)&&plainN n.confs
def validNr(n:Nmr):Bool:=((rngN n&&lstN n)&&n.confs.all (hasN n.accs))&&nhGo n none n.heard
def insGo(m:Nmn):List Nmn->Bool->List Nmn->Option (List Nmn)
 | [],d,q=>some (if d=true then q else q++[m])
 | x::r,d,q=>if x.node=m.node then (if x.seq>=m.seq then none else insGo m r d q)
  else if (decide (x.node>m.node)&&!d)=true then insGo m r true (q++[m]++[x]) else insGo m r d (q++[x])
def insN(n:Nmr)(m:Nmn):Option (List Nmn):=insGo m n.heard false []
def hearN(n:Nmr)(m:Nmn):Nmr × Int :=
 if (validNr n=false\/plainNm m=false)\/m.node=n.node then (zeroN,1)
 else match insN n m with | none=>(zeroN,9) | some h=>(settleN n { n with heard:=h },0)
def tickN(n:Nmr):Nmr × Int :=
 if validNr n=false then (zeroN,1) else if n.round=1000 then (zeroN,3) else (settleN n { n with round:=n.round+1 },0)
structure Slt where
 nom:Nmr
 mach:Mach
 tm:Tm
 round:Int
 next:Int
 done:Bool
 value:Str
structure Ltr where
 kind:Int
 slot:Int
 nom:Nmn
 env:Evp
def zNmn:Nmn:=⟨0,0,Trust.none,[],[]⟩
def zEvp:Evp:=⟨0,0,0,Trust.none,0,Bal.none,Bal.none,Bal.none,0,0⟩
def zTm:Tm:=⟨0,0⟩
def zSlt:Slt:=⟨zeroN,zeroM,zTm,0,0,false,noS⟩
def wantS(s:Slt):Bool:=(((compN s.nom.confs).2&&decide (s.mach.phase=1))&&zB s.mach.conf)&&!decide ((compN s.nom.confs).1=s.mach.prop)
def setM(s:Slt):Mach:=if wantS s=true/\(propV s.mach (compN s.nom.confs).1).2=0 then (propV s.mach (compN s.nom.confs).1).1 else s.mach
def setS(s:Slt):Slt:={ s with mach:=setM s,value:=(dcdV (setM s)).1,done:=(dcdV (setM s)).2 }
def newS(node number:Int)(t:Trust)(own:Str)(now:Int):Slt × Int :=
 if now<0\/now>200 then (zSlt,1) else if ¬(newV node number t).2=0 then (zSlt,(newV node number t).2)
 else if ¬(startN node number t own).2=0 then (zSlt,(startN node number t own).2)
 else (setS ⟨(startN node number t own).1,(newV node number t).1,⟨0,-1⟩,1,now+waitV 1,false,noS⟩,0)
def chk1S(s:Slt):Bool:=((((checkM s.mach&&validNr s.nom)&&decide (s.nom.node=s.mach.node))&&decide (s.nom.slot=s.mach.slot))&&same s.nom.t s.mach.t)&&vTm s.tm
def chk2S(s:Slt):Bool:=((((decide (s.round>=1)&&decide (s.round<=1000))&&decide (s.next>=0))&&decide (s.next<=212))&&decide (s.done=(dcdV s.mach).2))&&decide (s.value=(dcdV s.mach).1)
def checkS(s:Slt):Bool:=chk1S s&&chk2S s
def nomS(s:Slt)(m:Nmn):Slt × Int :=
 if checkS s=false then (zSlt,13) else if ¬(hearN s.nom m).2=0 then (zSlt,(hearN s.nom m).2) else (setS { s with nom:=(hearN s.nom m).1 },0)
def balS(s:Slt)(e:Evp):Slt × Int :=
 if checkS s=false then (zSlt,13) else if ¬(recV s.mach e).2=0 then (zSlt,(recV s.mach e).2) else (setS { s with mach:=(recV s.mach e).1 },0)
def prefS'(s:Slt)(v:Str):Slt × Int :=
 if checkS s=false then (zSlt,13) else if ¬(propV s.mach v).2=0 then (zSlt,(propV s.mach v).2) else (setS { s with mach:=(propV s.mach v).1 },0)
def tkN(s:Slt):Nmr:=if (tickN s.nom).2=0 then (tickN s.nom).1 else s.nom
def tk1(s:Slt)(now:Int):Slt :=
 if s.nom.confs.length=0/\now>=s.next then setS { s with nom:=tkN s,round:=min (s.round+1) 1000,next:=now+waitV (min (s.round+1) 1000) } else s
def tkM(m:Mach):Mach:=if (tmoV m).2=0 then (tmoV m).1 else m
def tk2(s:Slt)(now:Int):Slt :=
 if (stepV s.tm s.mach now).2=true then setS { s with tm:=(stepV s.tm s.mach now).1,mach:=tkM s.mach } else { s with tm:=(stepV s.tm s.mach now).1 }
def tickSl(s:Slt)(now:Int):Slt × Int :=
 if checkS s=false then (zSlt,13) else if now<0\/now>200 then (zSlt,1) else (tk2 (tk1 s now) now,0)
def ltrN(s:Slt):List Ltr:=if s.done=true then [] else [⟨1,s.mach.slot,sayN s.nom,zEvp⟩]
def ltrE(s:Slt):List Ltr:=if (checkM s.mach&&!zB s.mach.bal)=true then [⟨2,s.mach.slot,zNmn,msgM s.mach⟩] else []
def lettersS(s:Slt):List Ltr:=if checkS s=false then [] else ltrN s++ltrE s
structure Ptc where
 node:Int
 stopped:Bool
 t:Trust
 slots:List Slt
def zPtc:Ptc:=⟨0,false,Trust.none,[]⟩
def psGo(p:Ptc):Option Int->List Slt->Bool
 | _,[]=>true
 | q,s::r=>(((checkS s&&decide (s.mach.node=p.node))&&same s.mach.t p.t)&&(match q with | none=>true | some k=>decide (k<s.mach.slot)))&&psGo p (some s.mach.slot) r
def checkP(p:Ptc):Bool:=(((decide (p.node>=0)&&decide (p.node<=9))&&decide (validT p.t=0))&&decide (p.slots.length<=8))&&psGo p none p.slots
def ltSl(number:Int)(s:Slt):Bool:=decide (s.mach.slot<number)
def atP(p:Ptc)(number:Int):Nat:=posG (ltSl number) p.slots
def thereP(p:Ptc)(number:Int):Bool:=match p.slots[atP p number]? with | some s=>decide (s.mach.slot=number) | none=>false
def beginG(p:Ptc)(number:Int)(own:Str)(now:Int):Ptc × Int :=
 if thereP p number=true then (zPtc,6) else if p.slots.length=8 then (zPtc,3)
 else if ¬(newS p.node number p.t own now).2=0 then (zPtc,(newS p.node number p.t own now).2)
 else ({ p with slots:=p.slots.take (atP p number)++[(newS p.node number p.t own now).1]++p.slots.drop (atP p number) },0)
def beginP(p:Ptc)(number:Int)(own:Str)(now:Int):Ptc × Int :=
 if checkP p=false then (zPtc,13) else if p.stopped=true then (p,0) else beginG p number own now
def withP(p:Ptc)(i:Nat)(s:Slt × Int):Ptc × Int:=if ¬s.2=0 then (zPtc,s.2) else ({ p with slots:=p.slots.set i s.1 },0)
def readyP(p:Ptc)(number:Int)(own:Str)(now:Int):Ptc × Int:=if thereP p number=true then (p,0) else beginG p number own now
def onP(f:Slt->Slt × Int)(p:Ptc)(number:Int):Ptc × Int:=match p.slots[atP p number]? with | some s=>withP p (atP p number) (f s) | none=>(zPtc,0)
def prefP(p:Ptc)(number:Int)(v:Str)(now:Int):Ptc × Int :=
 if checkP p=false then (zPtc,13) else if p.stopped=true then (p,0)
 else if ¬(readyP p number v now).2=0 then (zPtc,(readyP p number v now).2) else onP (λs=>prefS' s v) (readyP p number v now).1 number
def sZ:Str:=⟨#[48]⟩
def badL(l:Ltr):Bool:=(!decide (l.kind=1)&&!decide (l.kind=2))||(decide (l.kind=2)&&!decide (l.slot=l.env.slot))
def hearP(p:Ptc)(l:Ltr)(now:Int):Ptc × Int :=
 if checkP p=false then (zPtc,13) else if p.stopped=true then (p,0) else if badL l=true then (zPtc,1)
 else if ¬(readyP p l.slot sZ now).2=0 then (zPtc,(readyP p l.slot sZ now).2)
 else onP (λs=>if l.kind=1 then nomS s l.nom else balS s l.env) (readyP p l.slot sZ now).1 l.slot
def stopP(p:Ptc):Ptc:=if checkP p=false then p else { p with stopped:=true }
def tksGo(now:Int):List Slt->List Slt->List Slt × Int
 | [],q=>(q,0)
 | s::r,q=>if ¬(tickSl s now).2=0 then ([],(tickSl s now).2) else tksGo now r (q++[(tickSl s now).1])
def tickP(p:Ptc)(now:Int):Ptc × Int :=
 if checkP p=false then (zPtc,13) else if p.stopped=true then (p,0)
 else if ¬(tksGo now p.slots []).2=0 then (zPtc,(tksGo now p.slots []).2) else ({ p with slots:=(tksGo now p.slots []).1 },0)
def lettersP(p:Ptc):List Ltr:=if (!checkP p||p.stopped)=true then [] else p.slots.flatMap lettersS
def decidedP(p:Ptc)(number:Int):Str × Bool :=
 if checkP p=false then (noS,false) else match p.slots[atP p number]? with | some s=>if (decide (s.mach.slot=number)&&s.done)=true then (s.value,true) else (noS,false) | none=>(noS,false)
structure Pcl where
 due:Int
 src:Int
 dst:Int
 num:Int
 l:Ltr
structure Ntw where
 pcs:List Pcl
 next:Int
 parts:List Int
 dls:List Int
def zNtw:Ntw:=⟨[],0,[],[]⟩
def befV(a b:Pcl):Bool :=
 if ¬a.due=b.due then decide (a.due<b.due) else if ¬a.src=b.src then decide (a.src<b.src) else if ¬a.dst=b.dst then decide (a.dst<b.dst) else decide (a.num<b.num)
def nodeN(n:Int):Bool:=decide (n>=0)&&decide (n<=9)
def partsGo:List Int->Nat->Bool
 | [],_=>true
 | s::r,a=>if s<1\/s>1023\/¬a&&&s.toNat=0 then false else partsGo r (a|||s.toNat)
def partsV(l:List Int):Bool:=partsGo l 0&&decide (l.length<=10)
def pclOk(n:Ntw)(p:Pcl):Bool:=((((((nodeN p.src&&nodeN p.dst)&&!decide (p.src=p.dst))&&decide (p.due>=0))&&decide (p.due<=220))&&decide (p.num>=0))&&decide (p.num<n.next))
def pclGo(n:Ntw):Option Pcl->List Pcl->Bool
 | _,[]=>true
 | q,p::r=>(pclOk n p&&(match q with | none=>true | some x=>befV x p))&&pclGo n (some p) r
def delOk(d:Int):Bool:=decide (d>=0)&&decide (d<=20)
def headNt(n:Ntw):Bool:=(((decide (n.pcs.length<=4000)&&decide (n.next>=0))&&decide (n.next<=1000000000))&&partsV n.parts)&&(decide (n.dls.length=0)||decide (n.dls.length=100))
def checkNt(n:Ntw):Bool:=(headNt n&&n.dls.all delOk)&&pclGo n none n.pcs
def delayV(n:Ntw)(a b:Int):Int :=
 if n.dls.length=0 then 1 else if (n.dls[(a * 10+b).toNat]?).getD 0=0 then 1 else (n.dls[(a * 10+b).toNat]?).getD 0
def newPc(n:Ntw)(a b:Int)(l:Ltr)(now:Int):Pcl:=⟨now+delayV n a b,a,b,n.next,l⟩
def frontGo(p:Pcl)(l:List Pcl):Nat->Nat
 | 0=>0
 | i+1=>if (match l[i]? with | some x=>befV p x | none=>false)=true then frontGo p l i else i+1
def frontP(p:Pcl)(l:List Pcl):Nat:=frontGo p l l.length
def sendV(n:Ntw)(a b:Int)(l:Ltr)(now:Int):Ntw × Int :=
 if checkNt n=false then (zNtw,13) else if (nodeN a=false\/nodeN b=false)\/a=b then (zNtw,5) else if now<0\/now>200 then (zNtw,1)
 else if n.pcs.length=4000\/n.next=1000000000 then (zNtw,3)
 else ({ n with pcs:=n.pcs.take (frontP (newPc n a b l now) n.pcs)++[newPc n a b l now]++n.pcs.drop (frontP (newPc n a b l now) n.pcs),next:=n.next+1 },0)
def hasP(s k:Int):Bool:=(decide (s>=0)&&decide (s<=1023))&&s.toNat.testBit k.toNat
def partGo(k:Int):List Int->Nat->Int
 | [],_=>-1
 | s::r,i=>if hasP s k=true then (i:Int) else partGo k r (i+1)
def partV(n:Ntw)(k:Int):Int:=partGo k n.parts 0
def apartV(n:Ntw)(a b:Int):Bool :=
 if nodeN a=false\/nodeN b=false then false else if n.parts.any (λs=>hasP s a&&hasP s b)=true then false
 else (decide (partV n a>=0)&&decide (partV n b>=0))&&!decide (a=b)
def dueB(now:Int)(p:Pcl):Bool:=decide (p.due<=now)
def dueK(n:Ntw)(now:Int):Nat:=posG (dueB now) n.pcs
def dueV(n:Ntw)(now:Int):List Pcl × Ntw :=
 if checkNt n=false then ([],n) else ((n.pcs.take (dueK n now)).filter (λp=>!apartV n p.src p.dst),{ n with pcs:=n.pcs.drop (dueK n now) })
def partN(n:Ntw)(l:List Int):Ntw × Int:=if checkNt n=false then (zNtw,13) else if partsV l=false then (zNtw,1) else ({ n with parts:=l },0)
def padD(l:List Int):List Int:=l.take 100++List.replicate (100 - l.length) 0
def delayN(n:Ntw)(a b k:Int):Ntw × Int :=
 if checkNt n=false then (zNtw,13) else if nodeN a=false\/nodeN b=false then (zNtw,5) else if k<0\/k>20 then (zNtw,1)
 else ({ n with dls:=(padD n.dls).set (a * 10+b).toNat k },0)
structure Wld where
 time:Int
 nodes:List Ptc
 ill:Int
 net:Ntw
 trs:List (List Trust)
structure Sp where
 kind:Int
 node:Int
 to:Int
 slot:Int
 count:Int
 val:Str
 t:Trust
 l:Ltr
 parts:List Int
structure Otc where
 node:Int
 slot:Int
 val:Str
def zWld:Wld:=⟨0,[],0,zNtw,[]⟩
def hasTr(l:List Trust)(t:Trust):Bool:=l.any (λx=>same x t)
def trsGo:List Trust->List Trust->Bool
 | _,[]=>true
 | q,t::r=>(!hasTr q t&&decide (validT t=0))&&trsGo (q++[t]) r
def wnGo:List Ptc->List (List Trust)->Nat->Bool
 | [],_,_=>true
 | p::r,[],i=>false
 | p::r,q::s,i=>((((decide (p.node=(i:Int))&&checkP p)&&decide (q.length<=4))&&hasTr q p.t)&&trsGo [] q)&&wnGo r s (i+1)
def headW(w:Wld):Bool:=((((((decide (w.time>=0)&&decide (w.time<=200))&&decide (1<=w.nodes.length))&&decide (w.nodes.length<=10))&&decide (w.ill>=0))&&decide (w.ill<(2^w.nodes.length:Nat)))&&checkNt w.net)&&decide (w.trs.length=w.nodes.length)
def checkW(w:Wld):Bool:=headW w&&wnGo w.nodes w.trs 0
def newPtcs:List Mem->Nat->List Ptc
 | [],_=>[]
 | m::r,i=>⟨(i:Int),false,m.t,[]⟩::newPtcs r (i+1)
def sickV(w:Wld)(k:Int):Bool:=w.ill.toNat.testBit k.toNat
def withW(w:Wld)(p:Ptc):Wld:={ w with nodes:=w.nodes.set p.node.toNat p }
def inW(now:Int)(w:Wld)(p:Pcl):Wld :=
 if (decide (p.dst>=w.nodes.length)||sickV w p.dst)=true then w
 else match w.nodes[p.dst.toNat]? with | some x=>if (hearP x p.l now).2=0 then withW w (hearP x p.l now).1 else w | none=>w
def tkW(now:Int)(w:Wld)(i:Nat):Wld :=
 if sickV w i=true then w else match w.nodes[i]? with | some x=>if (tickP x now).2=0 then withW w (tickP x now).1 else w | none=>w
def sndN(now:Int)(i:Nat)(l:Ltr)(n:Ntw)(k:Nat):Ntw :=
 if k=i then n else if (sendV n i k l now).2=0 then (sendV n i k l now).1 else n
def outL(now:Int)(m i:Nat)(n:Ntw)(l:Ltr):Ntw:=(List.range m).foldl (sndN now i l) n
def outN(now:Int)(w:Wld)(n:Ntw)(i:Nat):Ntw :=
 if sickV w i=true then n else match w.nodes[i]? with | some x=>(lettersP x).foldl (outL now w.nodes.length i) n | none=>n
def tickA(w:Wld):Wld:={ w with time:=w.time+1,net:=(dueV w.net (w.time+1)).2 }
def tickB(w:Wld):Wld:=(dueV w.net (w.time+1)).1.foldl (inW (w.time+1)) (tickA w)
def tickC(w:Wld):Wld:=(List.range (tickB w).nodes.length).foldl (tkW (w.time+1)) (tickB w)
def tickD(w:Wld):Wld:={ tickC w with net:=(List.range (tickC w).nodes.length).foldl (outN (w.time+1) (tickC w)) (tickC w).net }
def tickW(w:Wld):Wld × Int:=if w.time>=200 then (zWld,3) else (tickD w,0)
def ticksW:Nat->Wld->Wld × Int
 | 0,w=>(w,0)
 | k+1,w=>if ¬(tickW w).2=0 then (zWld,(tickW w).2) else ticksW k (tickW w).1
def thereW(w:Wld)(k:Int):Bool:=decide (k>=0)&&decide (k<w.nodes.length)
def showW(w:Wld)(s:Sp):Wld × Int :=
 if (sickV w s.node=false\/thereW w s.to=false)\/s.to=s.node then (zWld,63)
 else if (s.l.kind=1/\¬s.l.nom.node=s.node)\/(s.l.kind=2/\¬s.l.env.node=s.node) then (zWld,64)
 else if ¬s.l.kind=1/\¬s.l.kind=2 then (zWld,1)
 else if ¬(sendV w.net s.node s.to s.l w.time).2=0 then (zWld,(sendV w.net s.node s.to s.l w.time).2) else ({ w with net:=(sendV w.net s.node s.to s.l w.time).1 },0)
def nodeW(w:Wld)(s:Sp)(f:Ptc->Ptc × Int):Wld × Int :=
 if sickV w s.node=true then (zWld,63)
 else match w.nodes[s.node.toNat]? with | some p=>if ¬(f p).2=0 then (zWld,(f p).2) else (withW w (f p).1,0) | none=>(zWld,0)
def doW(w:Wld)(s:Sp):Wld × Int :=
 if checkW w=false then (zWld,13) else if s.kind<1\/s.kind>8 then (zWld,63)
 else if (¬s.kind=2/\¬s.kind=6)/\thereW w s.node=false then (zWld,5)
 else if s.kind=2 then (if s.count<1\/s.count>200 then (zWld,63) else ticksW s.count.toNat w)
 else if s.kind=6 then (if ¬(partN w.net s.parts).2=0 then (zWld,(partN w.net s.parts).2) else ({ w with net:=(partN w.net s.parts).1 },0))
 else if s.kind=7 then (if ¬(delayN w.net s.node s.to s.count).2=0 then (zWld,(delayN w.net s.node s.to s.count).2) else ({ w with net:=(delayN w.net s.node s.to s.count).1 },0))
 else if s.kind=5 then showW w s
 else if s.kind=1 then nodeW w s (λp=>beginP p s.slot s.val w.time)
 else if s.kind=8 then nodeW w s (λp=>prefP p s.slot s.val w.time)
 else nodeW w s (λp=>(stopP p,0))
def runGo:Wld->List Sp->Nat->Wld × Nat × Int
 | w,[],i=>(w,i,0)
 | w,s::r,i=>if ¬(doW w s).2=0 then (w,i,(doW w s).2) else runGo (doW w s).1 r (i+1)
def otcS(w:Wld)(i:Nat)(p:Ptc)(s:Slt):List Otc:=if ((decidedP p s.mach.slot).2&&!sickV w i)=true then [⟨(i:Int),s.mach.slot,(decidedP p s.mach.slot).1⟩] else []
def otcGo(w:Wld):List Ptc->Nat->List Otc
 | [],_=>[]
 | p::r,i=>p.slots.flatMap (otcS w i p)++otcGo w r (i+1)
def outcomes(w:Wld):List Otc:=if checkW w=false then [] else otcGo w w.nodes 0
def divB(set:Int)(a b:Otc):Bool:=(((decide (a.slot=b.slot)&&!decide (a.val=b.val))&&set.toNat.testBit a.node.toNat)&&set.toNat.testBit b.node.toNat)
def divIn(set:Int)(a:Otc):List Otc->List Otc->List Otc
 | [],q=>q
 | b::r,q=>divIn set a r (if divB set a b=true/\(match q with | []=>true | x::_=>decide (a.slot<x.slot))=true then [a,b] else q)
def divGo(set:Int):List Otc->List Otc->List Otc
 | [],q=>q
 | a::r,q=>divGo set r (divIn set a r q)
def divV(w:Wld)(set:Int):List Otc:=divGo set (outcomes w) []
theorem jfD(x:Str):∀(l:List Str)(d:Bool)(q:List Str),(putsGo x l d q).length<=q.length+l.length+1
 | [],d,q=>by simp only[putsGo];split<;>simp
 | y::r,d,q=>by
  have h1:=jfD x r true (q++[x]++[y]);have h2:=jfD x r d (q++[y]);simp only[putsGo,qm,qi,qu] at h1 h2 ⊢;split
  ·rename_i hc
   have hd:d=false:=by simp only[qh,Bool.not_eq_true'] at hc;exact hc.1
   have h3:∀(l:List Str)(q:List Str),(putsGo x l true q).length=q.length+l.length:=by
    intro l
    induction l with
    | nil=>intro q;simp[putsGo]
    | cons z s ih=>intro q;simp only[putsGo,Bool.not_true,qy,Bool.false_eq_true,if_false];rw[ih];simp only[qm,qi,qu];omega
   have:=h3 r (q++[x]++[y]);simp only[qm,qi,qu] at this;omega
  ·omega
theorem jcs{l:List Str}{x:Str}{b:Nat}(hb:40<=b)(h:l.length<=b):(putN l x).length<=b:=by
 unfold putN;split
 ·exact h
 ·rename_i hc
  have h1:=jfD x l false [];simp only[Bool.or_eq_true,qo,not_or] at hc;simp only[qu] at h1;omega
theorem jeZ{α:Type}{f:List Str->α->List Str}{b:Nat}(hf:∀q x,q.length<=b->(f q x).length<=b):∀(l:List α)(q:List Str),q.length<=b->(l.foldl f q).length<=b
 | [],q,h=>h
 | x::r,q,h=>jeZ hf r (f q x) (hf q x h)
theorem juh{k:Int}{b:Nat}(hb:40<=b)(q:List Str)(m:Nmn)(h:q.length<=b):(fol2 k q m).length<=b:=by
 unfold fol2;split
 ·exact jeZ (λq x hq=>jcs hb hq) _ _ h
 ·exact h
theorem jvt{n:Nmr}{b:Nat}(hb:40<=b)(q:List Str)(k:Int)(h:q.length<=b):(fol1 n q k).length<=b:=by
 unfold fol1;split
 ·split
  ·exact h
  ·exact jcs hb h
 ·exact jeZ (λq x hq=>juh hb q x hq) _ _ h
theorem juM{n:Nmr}{b:Nat}(hb:40<=b)(q:List Str)(x:Str)(h:q.length<=b):(cnd1 n q x).length<=b:=by
 unfold cnd1;split
 ·exact jcs hb h
 ·exact h
theorem jvD{n:Nmr}(h:NB n){q:List Str}(hq:q.length<=1000):NB { n with votes:=q }:=⟨h.sz,hq,h.a,h.c,h.hl,h.hs,h.nd,h.hn⟩
theorem jwT{n:Nmr}(h:NB n){q:List Str}(hq:q.length<=1000):NB { n with accs:=q }:=⟨h.sz,h.v,hq,h.c,h.hl,h.hs,h.nd,h.hn⟩
theorem je2{n:Nmr}(h:NB n){q:List Str}(hq:q.length<=1000):NB { n with confs:=q }:=⟨h.sz,h.v,h.a,hq,h.hl,h.hs,h.nd,h.hn⟩
theorem jv7{n:Nmr}(h:NB n)(k:Int):NB { n with seq:=k }:=⟨h.sz,h.v,h.a,h.c,h.hl,h.hs,h.nd,h.hn⟩
theorem jnE{n:Nmr}(h:NB n)(k:Int):NB { n with round:=k }:=⟨h.sz,h.v,h.a,h.c,h.hl,h.hs,h.nd,h.hn⟩
theorem jkT{n:Nmr}(h:NB n):NB (followN n):=jvD h (jeZ (λq x hq=>jvt zo q x hq) _ _ h.v)
theorem juK{n:Nmr}(h:NB n):NB (firstN n):=by unfold firstN;split;exact jkT h;exact h
theorem jrf{n:Nmr}(h:NB n)(x:Str):NB (accN n x):=jwT h (jcs zo h.a)
theorem joj:∀(k:Nat){n:Nmr},NB n->NB (againN k n)
 | 0,n,h=>h
 | k+1,n,h=>by
  unfold againN;split
  ·exact h
  ·exact joj k (jrf h _)
theorem jr3{n:Nmr}(h:NB n):NB (chosenN n):=je2 h (jeZ (λq x hq=>juM zo q x hq) _ _ h.c)
theorem jq4{n:Nmr}(h:NB n):NB (bodyN n):=jr3 (joj _ (juK h))
theorem jlp{b n:Nmr}(h:NB n):NB (settleN b n):=by
 unfold settleN;split
 ·exact jv7 (jq4 h) _
 ·exact jq4 h
structure SameN(a b:Nmr):Prop where
 node:b.node=a.node
 slot:b.slot=a.slot
 round:b.round=a.round
 t:b.t=a.t
 own:b.own=a.own
 heard:b.heard=a.heard
theorem SameN.refl(a:Nmr):SameN a a:=⟨rfl,rfl,rfl,rfl,rfl,rfl⟩
theorem SameN.trans{a b c:Nmr}(h:SameN a b)(k:SameN b c):SameN a c:=⟨k.node.trans h.node,k.slot.trans h.slot,k.round.trans h.round,k.t.trans h.t,k.own.trans h.own,k.heard.trans h.heard⟩
theorem jqr(n:Nmr):SameN n (firstN n):=by unfold firstN followN;split<;>exact⟨rfl,rfl,rfl,rfl,rfl,rfl⟩
theorem jiw:∀(k:Nat)(n:Nmr),SameN n (againN k n)
 | 0,n=>SameN.refl n
 | k+1,n=>by
  unfold againN;split
  ·exact SameN.refl n
  ·rename_i x _;exact SameN.trans (b:=accN n x) ⟨rfl,rfl,rfl,rfl,rfl,rfl⟩ (jiw k _)
theorem jlk:∀(k:Nat)(n:Nmr),(againN k n).seq=n.seq
 | 0,n=>rfl
 | k+1,n=>by
  unfold againN;split
  ·rfl
  ·rw[jlk k];rfl
theorem jkY(n:Nmr):SameN n (bodyN n):=(jqr n).trans ((jiw 41 _).trans ⟨rfl,rfl,rfl,rfl,rfl,rfl⟩)
theorem jn9(n:Nmr):(bodyN n).seq=n.seq:=by
 show (againN 41 (firstN n)).seq=n.seq;rw[jlk];unfold firstN followN;split<;>rfl
theorem jcR(b n:Nmr):SameN n (settleN b n):=by
 have h:=jkY n;unfold settleN;split
 ·exact⟨h.node,h.slot,h.round,h.t,h.own,h.heard⟩
 ·exact h
theorem jqv(b n:Nmr):(settleN b n).seq=b.seq+1\/(settleN b n).seq=n.seq:=by
 unfold settleN;split
 ·exact .inl rfl
 ·exact .inr (jn9 n)
structure NI(n:Nmr):Prop where
 nb:NB n
 seq:0<=n.seq/\n.seq<=2000000
 round:0<=n.round/\n.round<=2000
theorem jhQ{l:List Str}(h:plainN l=true):l.length<=40:=by
 simp only[plainN,qh,qo] at h;exact h.2
structure MB(m:Nmn):Prop where
 sz:sizeT m.t<=100000
 v:m.votes.length<=1000
 a:m.accs.length<=1000
theorem joK{n:Nmr}:∀(l:List Nmn)(p:Option Int),nhGo n p l=true->(l.length:Int)<=(match p with | none=>10 | some q=>max (9 - q) 0)
 | [],p,_=>by cases p<;>simp<;>omega
 | m::r,p,h=>by
  have h':plainNm m=true/\nhGo n (some m.node) r=true/\(∀q,p=some q->q<m.node):=by
   cases p<;>simp only[nhGo,qh,qo] at h<;>exact⟨h.1.1.1,h.2,λq hq=>by cases hq;try exact h.1.2⟩
  have h1:=joK r _ h'.2.1
  have h2:0<=m.node/\m.node<10:=by
   have:=h'.1;simp only[plainNm,qh,qo] at this;omega
  simp only at h1;cases p with
  | none=>simp only[qi];omega
  | some q=>have:=h'.2.2 q rfl;simp only[qi];omega
theorem jm1{n:Nmr}(h:validNr n=true):n.heard.length<=10:=by
 simp only[validNr,qh] at h;have:=joK n.heard none h.2;simp only at this;omega
theorem jlq{n:Nmr}(h:validNr n=true):(0<=n.node/\n.node<10)/\(0<=n.slot/\n.slot<=1000000)/\(1<=n.round/\n.round<=1000)/\(1<=n.seq/\n.seq<=1000000):=by
 simp only[validNr,rngN,qh,qo] at h;omega
theorem jsg{m:Nmn}(h:plainNm m=true):(0<=m.node/\m.node<10)/\1<=m.seq/\validT m.t=0/\m.votes.length<=40/\m.accs.length<=40:=by
 simp only[plainNm,qh,qo] at h;exact⟨by omega,by omega,h.1.1.2,jhQ h.1.2,jhQ h.2⟩
theorem jf0{p:Nmn->Prop}{m:Nmn}(hm:p m):∀(l:List Nmn)(d:Bool)(q h:List Nmn),(∀x∈l,p x)->(∀x∈q,p x)->insGo m l d q=some h->h.length<=q.length+l.length+1/\∀x∈h,p x
 | [],d,q,h,hl,hq,e=>by
  simp only[insGo,qs] at e;subst e;split
  ·exact⟨by simp,hq⟩
  ·refine⟨by simp,λx hx=>?_⟩
   rcases zk hx with hx | hx
   ·exact hq x hx
   ·rw[zl hx];exact hm
 | x::r,d,q,h,hl,hq,e=>by
  have hx:=hl x (za);have hr:=λy hy=>hl y (qj _ hy)
  have hqx:∀y∈q++[x],p y:=λy hy=>by
   rcases zk hy with hy | hy
   ·exact hq y hy
   ·rw[zl hy];exact hx
  simp only[insGo] at e;split at e
  ·split at e
   ·cases e
   ·obtain⟨h1,h2⟩:=jf0 hm r d q h hr hq e
    exact⟨by simp only[qi];omega,h2⟩
  ·split at e
   ·rename_i hc
    have hT:∀(l:List Nmn)(q h:List Nmn),(∀x∈l,p x)->(∀x∈q,p x)->insGo m l true q=some h->h.length<=q.length+l.length/\∀x∈h,p x:=by
     intro l
     induction l with
     | nil=>intro q h _ hq e;simp only[insGo,if_true,qs] at e;subst e;exact⟨by simp,hq⟩
     | cons y s ih =>
      intro q h hl hq e;have hy:=hl y (za);have hs:=λz hz=>hl z (qj _ hz);simp only[insGo,Bool.not_true,qB,Bool.false_eq_true,if_false] at e;split at e
      ·split at e
       ·cases e
       ·obtain⟨h1,h2⟩:=ih q h hs hq e
        exact⟨by simp only[qi];omega,h2⟩
      ·obtain⟨h1,h2⟩:=ih (q++[y]) h hs (λz hz=>by
        rcases zk hz with hz | hz
        ·exact hq z hz
        ·rw[zl hz];exact hy) e
       simp only[qm,qi,qu] at h1 ⊢;exact⟨by omega,h2⟩
    obtain⟨h1,h2⟩:=hT r (q++[m]++[x]) h hr (λy hy=>by
     rcases zk hy with hy | hy
     ·rcases zk hy with hy | hy
      ·exact hq y hy
      ·rw[zl hy];exact hm
     ·rw[zl hy];exact hx) e
    simp only[qm,qi,qu] at h1 ⊢;exact⟨by omega,h2⟩
   ·obtain⟨h1,h2⟩:=jf0 hm r d (q++[x]) h hr hqx e
    simp only[qm,qi,qu] at h1 ⊢;exact⟨by omega,h2⟩
theorem jvJ{n:Nmr}(h:NB n){q:List Nmn}(hl:q.length<=20)(hs:∀m∈q,(sizeT m.t<=100000/\m.votes.length<=1000/\m.accs.length<=1000)/\0<=m.node/\m.node<10):NB { n with heard:=q } :=
 ⟨h.sz,h.v,h.a,h.c,hl,λm hm=>(hs m hm).1,h.nd,λm hm=>(hs m hm).2⟩
theorem jsN{n:Nmr}{m:Nmn}{q:List Nmn}(h:NI n)(hv:validNr n=true)(hp:plainNm m=true)(hs:sizeT m.t<=100000)(hq:insN n m=some q):NB { n with heard:=q }:=by
 have hr:=jsg hp
 obtain⟨h1,h2⟩:=jf0 (p:=λm=>(sizeT m.t<=100000/\m.votes.length<=1000/\m.accs.length<=1000)/\0<=m.node/\m.node<10) (m:=m) ⟨⟨hs,by omega,by omega⟩,hr.1⟩ n.heard false [] q
  (λx hx=>⟨h.nb.hs x hx,h.nb.hn x hx⟩) (λx hx=>qp hx qv) hq
 have:=jm1 hv;simp only[qu] at h1;exact jvJ h.nb zo h2
theorem jlZ{b n:Nmr}(hb:NI b)(h:NB n)(hs:n.seq=b.seq)(hb2:b.seq<=1000000)(hr:0<=n.round/\n.round<=2000):NI (settleN b n):=by
 have h1:=jqv b n;have h2:=(jcR b n).round;have h3:=hb.seq;exact⟨jlp h,by omega,by omega⟩
theorem jnj{n:Nmr}{m:Nmn}(h:NI n)(hs:sizeT m.t<=100000)(he:(hearN n m).2=0):NI (hearN n m).1:=by
 unfold hearN at he ⊢;split at he
 ·rename_i hc;rw[qf hc] at *;cases he
 ·rename_i hc
  rw[qe hc];simp only[not_or,Bool.not_eq_false] at hc;cases hi:insN n m with
  | none=>rw[hi] at he;cases he
  | some q =>
   have hv:=jlq hc.1.1;exact jlZ h (jsN h hc.1.1 hc.1.2 hs hi) rfl zo (by show 0<=n.round/\n.round<=2000;omega)
theorem jor{n:Nmr}(h:NI n)(he:(tickN n).2=0):NI (tickN n).1:=by
 unfold tickN at he ⊢;split at he
 ·cases he
 ·rename_i hc
  rw[qe hc];split at he
  ·cases he
  ·rename_i hc2
   rw[qe hc2];have hv:=jlq (by simpa using hc);exact jlZ h (jnE h.nb _) rfl zo (by show 0<=n.round+1/\n.round+1<=2000;omega)
theorem jl7{node:Int}{t:Trust}{own:Str}(hn:0<=node/\node<10)(ht:sizeT t<=100000):NB (newN node slot t own) :=
 ⟨ht,by simp[newN],by simp[newN],by simp[newN],by simp[newN],λm hm=>qp hm qv,hn,λm hm=>qp hm qv⟩
theorem jkv{node:Int}{t:Trust}{own:Str}(ht:sizeT t<=100000)(he:(startN node slot t own).2=0):NI (startN node slot t own).1:=by
 unfold startN at he ⊢;split at he
 ·cases he
 ·rename_i h1
  rw[qe h1];split at he
  ·cases he
  ·rename_i h2
   rw[qe h2];split at he
   ·rename_i h3;exact qp he h3
   ·rename_i h3
    rw[qe h3];split at he
    ·cases he
    ·rename_i h4
     rw[qe h4];have hs:=(jcR (newN node slot t own) (newN node slot t own)).round;refine⟨jv7 (jlp (jl7 zo ht)) _,by show (0:Int)<=1/\(1:Int)<=2000000;omega,?_⟩;show 0<=(settleN _ _).round/\(settleN _ _).round<=2000;rw[hs];show (0:Int)<=1/\(1:Int)<=2000;omega
structure SI(s:Slt):Prop where
 nom:NI s.nom
 mach:InvS s.mach
 round:0<=s.round/\s.round<=2000
theorem jcf{m:Mach}{v:Str}(h:InvS m)(he:(propV m v).2=0):InvS (propV m v).1:=by
 unfold propV at he ⊢;split at he
 ·cases he
 ·rename_i h1
  rw[qe h1];split at he
  ·cases he
  ·rename_i h2
   rw[qe h2];exact jmL (jds h zo)
theorem job{m:Mach}{e:Evp}(h:InvS m)(hs:sizeT e.t<=100000)(he:(recV m e).2=0):InvS (recV m e).1:=by
 unfold recV at he ⊢;split at he
 ·cases he
 ·rename_i h1
  rw[qe h1];split at he
  ·cases he
  ·rename_i h2
   rw[qe h2];split at he
   ·cases he
   ·rename_i h3
    rw[qe h3];exact jmL (jga h (by simpa using h1) hs)
theorem jnm{m:Mach}(h:InvS m)(he:(tmoV m).2=0):InvS (tmoV m).1:=by
 unfold tmoV at he ⊢;split at he
 ·cases he
 ·rename_i h1
  rw[qe h1];split at he
  ·cases he
  ·rename_i h2
   rw[qe h2];split at he
   ·cases he
   ·rename_i h3
    rw[qe h3];exact jmL (jf4 h zo)
theorem jgh{node:Int}{t:Trust}(ht:sizeT t<=100000)(he:(newV node slot t).2=0):InvS (newV node slot t).1:=by
 unfold newV at he ⊢;split at he
 ·cases he
 ·rename_i h1
  rw[qe h1];split at he
  ·cases he
  ·rename_i h2
   rw[qe h2];split at he
   ·cases he
   ·rename_i h3
    rw[qe h3];have hb:BB Bal.none:=⟨by decide,by decide,by decide⟩
    refine⟨⟨.inl rfl,hb,by show (0:Int)<=1000;omega,hb,hb,hb,by show (0:Int)<=1000;omega,by show (0:Int)<=0/\(0:Int)<=1000;omega,by show (0:Int)<=0/\(0:Int)<=1000;omega,by show noS.size<=200;decide,ht,by show (0:Nat)<=20;omega,λe he=>qp he qv⟩,by show (0:Int)<=0/\(0:Int)<=1000000;omega⟩
theorem jt6{s:Slt}(h:InvS s.mach):InvS (setM s):=by
 unfold setM;split
 ·rename_i hc;exact jcf h hc.2
 ·exact h
theorem jfn{s:Slt}(h:SI s):SI (setS s):=⟨h.nom,jt6 h.mach,h.round⟩
theorem jzk{s:Slt}(h:NI s.nom):NI (tkN s):=by
 unfold tkN;split
 ·rename_i hc;exact jor h hc
 ·exact h
theorem jx1{m:Mach}(h:InvS m):InvS (tkM m):=by
 unfold tkM;split
 ·rename_i hc;exact jnm h hc
 ·exact h
theorem jv8{s:Slt}(h:SI s):SI (tk1 s now):=by
 have hr:=h.round;unfold tk1;split
 ·exact jfn ⟨jzk h.nom,h.mach,by show 0<=min (s.round+1) 1000/\min (s.round+1) 1000<=2000;omega⟩
 ·exact h
theorem jzB{s:Slt}(h:SI s):SI (tk2 s now):=by
 unfold tk2;split
 ·exact jfn ⟨h.nom,jx1 h.mach,h.round⟩
 ·exact⟨h.nom,h.mach,h.round⟩
theorem jw1{node:Int}{t:Trust}{own:Str}(ht:sizeT t<=100000)(he:(newS node number t own now).2=0):SI (newS node number t own now).1:=by
 unfold newS at he ⊢;split at he
 ·cases he
 ·rename_i h1
  rw[qe h1];split at he
  ·rename_i h2;exact qp he h2
  ·rename_i h2
   rw[qe h2];split at he
   ·rename_i h3;exact qp he h3
   ·rename_i h3
    rw[qe h3];exact jfn ⟨jkv ht (by simpa using h3),jgh ht (by simpa using h2),by show (0:Int)<=1/\(1:Int)<=2000;omega⟩
theorem jxx{s:Slt}{m:Nmn}(h:SI s)(hm:sizeT m.t<=100000)(he:(nomS s m).2=0):SI (nomS s m).1:=by
 unfold nomS at he ⊢;split at he
 ·cases he
 ·rename_i h1
  rw[qe h1];split at he
  ·rename_i h2;exact qp he h2
  ·rename_i h2
   rw[qe h2];exact jfn ⟨jnj h.nom hm (by simpa using h2),h.mach,h.round⟩
theorem jxL{s:Slt}{e:Evp}(h:SI s)(hm:sizeT e.t<=100000)(he:(balS s e).2=0):SI (balS s e).1:=by
 unfold balS at he ⊢;split at he
 ·cases he
 ·rename_i h1
  rw[qe h1];split at he
  ·rename_i h2;exact qp he h2
  ·rename_i h2
   rw[qe h2];exact jfn ⟨h.nom,job h.mach hm (by simpa using h2),h.round⟩
theorem jtS{s:Slt}{v:Str}(h:SI s)(he:(prefS' s v).2=0):SI (prefS' s v).1:=by
 unfold prefS' at he ⊢;split at he
 ·cases he
 ·rename_i h1
  rw[qe h1];split at he
  ·rename_i h2;exact qp he h2
  ·rename_i h2
   rw[qe h2];exact jfn ⟨h.nom,jcf h.mach (by simpa using h2),h.round⟩
theorem jrS{s:Slt}(h:SI s)(he:(tickSl s now).2=0):SI (tickSl s now).1:=by
 unfold tickSl at he ⊢;split at he
 ·cases he
 ·rename_i h1
  rw[qe h1];split at he
  ·cases he
  ·rename_i h2
   rw[qe h2];exact jzB (jv8 h)
structure LB(l:Ltr):Prop where
 nom:MB l.nom
 env:sizeT l.env.t<=100000
theorem jjX:MB zNmn:=⟨by decide,by decide,by decide⟩
theorem jq9:sizeT zEvp.t<=100000:=by decide
theorem jxH{n:Nmr}(h:NB n):MB (sayN n):=⟨h.sz,h.v,h.a⟩
theorem jp0{s:Slt}(h:SI s):∀l∈lettersS s,LB l:=by
 intro l hl;unfold lettersS at hl;split at hl
 ·cases hl
 ·rcases zk hl with hl | hl
  ·unfold ltrN at hl
   split at hl
   ·cases hl
   ·rw[zl hl];exact⟨jxH h.nom.nb,jq9⟩
  ·unfold ltrE at hl
   split at hl
   ·rw[zl hl];exact⟨jjX,h.mach.inv.sz⟩
   ·cases hl
structure PI(p:Ptc):Prop where
 sz:sizeT p.t<=100000
 hl:p.slots.length<=20
 hs:∀s∈p.slots,SI s
theorem ja8{p:Ptc}(h:checkP p=true):(0<=p.node/\p.node<=9)/\validT p.t=0/\p.slots.length<=8/\psGo p none p.slots=true:=by
 simp only[checkP,qh,qo] at h;exact⟨h.1.1.1,h.1.1.2,h.1.2,h.2⟩
theorem jzZ{p:Ptc}(h:PI p)(hl:p.slots.length<=8){s:Slt}(hs:SI s)(k:Nat):PI { p with slots:=p.slots.take k++[s]++p.slots.drop k }:=by
 refine⟨h.sz,?_,jgn h.hs hs⟩;have:=jgq (l:=p.slots) (x:=s) (Nat.le_refl k);show (p.slots.take k++[s]++p.slots.drop k).length<=20;omega
theorem jyA{p:Ptc}(h:PI p){s:Slt}(hs:SI s)(k:Nat):PI { p with slots:=p.slots.set k s }:=by
 refine⟨h.sz,by simpa using h.hl,λx hx=>?_⟩;rcases List.mem_or_eq_of_mem_set hx with h' | rfl
 ·exact h.hs x h'
 ·exact hs
theorem jgw{p:Ptc}{own:Str}(h:PI p)(hl:p.slots.length<=8)(he:(beginG p number own now).2=0):PI (beginG p number own now).1:=by
 unfold beginG at he ⊢;split at he
 ·cases he
 ·rename_i h1
  rw[qe h1];split at he
  ·cases he
  ·rename_i h2
   rw[qe h2];split at he
   ·rename_i h3;exact qp he h3
   ·rename_i h3
    rw[qe h3];exact jzZ h hl (jw1 h.sz (by simpa using h3)) _
theorem jgZ{p:Ptc}{own:Str}(he:(beginG p number own now).2=0):(beginG p number own now).1.node=p.node/\(beginG p number own now).1.t=p.t/\(beginG p number own now).1.stopped=p.stopped:=by
 unfold beginG at he ⊢;split at he
 ·cases he
 ·rename_i h1
  rw[qe h1];split at he
  ·cases he
  ·rename_i h2
   rw[qe h2];split at he
   ·rename_i h3;exact qp he h3
   ·rename_i h3
    rw[qe h3];exact⟨rfl,rfl,rfl⟩
theorem jeV{p:Ptc}{own:Str}(h:PI p)(he:(beginP p number own now).2=0):PI (beginP p number own now).1/\(beginP p number own now).1.node=p.node:=by
 unfold beginP at he ⊢;split at he
 ·cases he
 ·rename_i h1
  rw[qe h1];split at he
  ·rename_i h2;rw[qf h2];exact⟨h,rfl⟩
  ·rename_i h2
   rw[qe h2];exact⟨jgw h (ja8 (by simpa using h1)).2.2.1 he,(jgZ he).1⟩
theorem jeA{p:Ptc}{own:Str}(h:PI p)(hl:p.slots.length<=8)(he:(readyP p number own now).2=0):PI (readyP p number own now).1/\(readyP p number own now).1.node=p.node:=by
 unfold readyP at he ⊢;split at he
 ·rename_i h2;rw[qf h2];exact⟨h,rfl⟩
 ·rename_i h2
  rw[qe h2];exact⟨jgw h hl he,(jgZ he).1⟩
theorem jvX{p:Ptc}{f:Slt->Slt × Int}(h:PI p)(hf:∀s,SI s->(f s).2=0->SI (f s).1)(hz:(p.slots[atP p number]?).isSome=true)(he:(onP f p number).2=0):PI (onP f p number).1/\(onP f p number).1.node=p.node:=by
 unfold onP at he ⊢;cases hx:p.slots[atP p number]? with
 | none=>rw[hx] at hz;cases hz
 | some s =>
  rw[hx] at he;simp only at he ⊢;unfold withP at he ⊢;split at he
  ·rename_i h3;exact qp he h3
  ·rename_i h3
   rw[qe h3];exact⟨jyA h (hf s (h.hs s (qk hx)) (by simpa using h3)) _,rfl⟩
theorem jiS{p:Ptc}(h:thereP p number=true):∃s,p.slots[atP p number]?=some s/\s.mach.slot=number:=by
 unfold thereP at h;cases hx:p.slots[atP p number]? with
 | none=>rw[hx] at h;cases h
 | some s=>rw[hx] at h;exact⟨s,rfl,qc h⟩
theorem jgL{α:Type}(lt:α->Bool):∀(l:List α)(j:Nat)(x:α),j<posG lt l->l[j]?=some x->lt x=true
 | [],j,x,h,_=>by simp[posG] at h
 | y::r,j,x,h,hx=>by
  unfold posG at h;split at h
  ·rename_i hy
   cases j with
   | zero=>simp only[List.getElem?_cons_zero,qs] at hx;rw[<-hx];exact hy
   | succ j=>simp only[List.getElem?_cons_succ] at hx;exact jgL lt r j x zo hx
  ·omega
theorem jqP{α:Type}(lt:α->Bool):∀(l:List α)(k:Nat)(x:α),(∀j y,j<k->l[j]?=some y->lt y=true)->l[k]?=some x->lt x=false->posG lt l=k
 | [],k,x,_,hx,_=>by simp at hx
 | y::r,0,x,_,hx,hl=>by
  simp only[List.getElem?_cons_zero,qs] at hx;unfold posG;rw[hx,hl];rfl
 | y::r,k+1,x,hb,hx,hl=>by
  simp only[List.getElem?_cons_succ] at hx;have h0:=hb 0 y zo rfl;unfold posG;rw[qf h0,jqP lt r k x (λj z hj hz=>hb (j+1) z zo (by simpa using hz)) hx hl]
theorem jvK{b m:Mach}(h:InvM m):(numM b m).slot=m.slot/\(numM b m).node=m.node/\(numM b m).t=m.t/\(numM b m).heard=m.heard:=by
 have ha:(advM m).slot=m.slot/\(advM m).node=m.node/\(advM m).t=m.t/\(advM m).heard=m.heard:=by
  have h1:=(jbj h).2;unfold advM;split
  ·split
   ·exact⟨h1.slot,h1.node,h1.t,h1.heard⟩
   ·exact⟨h1.slot,h1.node,h1.t,h1.heard⟩
  ·exact⟨rfl,rfl,rfl,rfl⟩
 unfold numM;split
 ·exact ha
 ·split
  ·exact ha
  ·exact ha
theorem jpa(m:Mach)(v:Str):(propM m v).slot=m.slot/\(propM m v).node=m.node/\(propM m v).t=m.t/\(propM m v).heard=m.heard:=by
 unfold propM;split<;>exact⟨rfl,rfl,rfl,rfl⟩
theorem jpU{m:Mach}{v:Str}(h:InvS m)(he:(propV m v).2=0):(propV m v).1.slot=m.slot/\(propV m v).1.node=m.node/\(propV m v).1.t=m.t/\(propV m v).1.heard=m.heard:=by
 unfold propV at he ⊢;split at he
 ·cases he
 ·rename_i h1
  rw[qe h1];split at he
  ·cases he
  ·rename_i h2
   rw[qe h2];have a:=jvK (b:=m) (jds h (v:=v) zo).inv;have b:=jpa m v;exact⟨a.1.trans b.1,a.2.1.trans b.2.1,a.2.2.1.trans b.2.2.1,a.2.2.2.trans b.2.2.2⟩
theorem jrb{s:Slt}(h:InvS s.mach):(setM s).slot=s.mach.slot/\(setM s).node=s.mach.node/\(setM s).t=s.mach.t/\(setM s).heard=s.mach.heard:=by
 unfold setM;split
 ·rename_i hc;exact jpU h hc.2
 ·exact⟨rfl,rfl,rfl,rfl⟩
theorem jse{node:Int}{t:Trust}(he:(newV node slot t).2=0):(newV node slot t).1.slot=slot/\(newV node slot t).1.node=node/\(newV node slot t).1.t=t:=by
 unfold newV at he ⊢;split at he
 ·cases he
 ·rename_i h1
  rw[qe h1];split at he
  ·cases he
  ·rename_i h2
   rw[qe h2];split at he
   ·cases he
   ·rename_i h3
    rw[qe h3];exact⟨rfl,rfl,rfl⟩
theorem jkN{node:Int}{t:Trust}{own:Str}(ht:sizeT t<=100000)(he:(newS node number t own now).2=0):(newS node number t own now).1.mach.slot=number/\(newS node number t own now).1.mach.node=node/\(newS node number t own now).1.mach.t=t:=by
 unfold newS at he ⊢;split at he
 ·cases he
 ·rename_i h1
  rw[qe h1];split at he
  ·rename_i h2;exact qp he h2
  ·rename_i h2
   rw[qe h2];split at he
   ·rename_i h3;exact qp he h3
   ·rename_i h3
    rw[qe h3];have a:=jse (by simpa using h2:(newV node number t).2=0);have b:=jrb (s:=⟨(startN node number t own).1,(newV node number t).1,⟨0,-1⟩,1,now+waitV 1,false,noS⟩) (jgh ht (by simpa using h2));exact⟨b.1.trans a.1,b.2.1.trans a.2.1,b.2.2.1.trans a.2.2⟩
theorem jmQ{p:Ptc}{own:Str}(ht:sizeT p.t<=100000)(he:(beginG p number own now).2=0):thereP (beginG p number own now).1 number=true/\atP (beginG p number own now).1 number=atP p number:=by
 unfold beginG at he ⊢;split at he
 ·cases he
 ·rename_i h1
  rw[qe h1];split at he
  ·cases he
  ·rename_i h2
   rw[qe h2];split at he
   ·rename_i h3;exact qp he h3
   ·rename_i h3
    rw[qe h3];have hn:=(jkN (node:=p.node) (number:=number) (own:=own) (now:=now) ht (by simpa using h3)).1;have hk:=je9 (ltSl number) p.slots
    have hx:(p.slots.take (atP p number)++[(newS p.node number p.t own now).1]++p.slots.drop (atP p number))[atP p number]?=some (newS p.node number p.t own now).1:=by
     have hl:(p.slots.take (atP p number)).length=atP p number:=by rw[List.length_take];unfold atP;omega
     rw[List.append_assoc,List.getElem?_append_right zo,hl,Nat.sub_self];rfl
    have e:atP { p with slots:=p.slots.take (atP p number)++[(newS p.node number p.t own now).1]++p.slots.drop (atP p number) } number=atP p number:=by
     refine jqP (ltSl number) _ (atP p number) _ (λj y hj hy=>?_) hx (by unfold ltSl;rw[hn];exact qz zo);have hl:(p.slots.take (atP p number)).length=atP p number:=by rw[List.length_take];unfold atP;omega
     rw[List.append_assoc,List.getElem?_append_left zo,List.getElem?_take,qf hj] at hy;exact jgL (ltSl number) p.slots j y hj hy
    refine⟨?_,e⟩;unfold thereP;rw[e];show (match (p.slots.take (atP p number)++[(newS p.node number p.t own now).1]++p.slots.drop (atP p number))[atP p number]? with | some s=>decide (s.mach.slot=number) | none=>false)=true;rw[hx];exact qg hn
theorem jmM{p:Ptc}{own:Str}(ht:sizeT p.t<=100000)(he:(readyP p number own now).2=0):thereP (readyP p number own now).1 number=true:=by
 unfold readyP at he ⊢;split at he
 ·rename_i h2;rw[qf h2];exact h2
 ·rename_i h2
  rw[qe h2];exact(jmQ ht he).1
theorem jgg{p:Ptc}{own:Str}(ht:sizeT p.t<=100000)(he:(readyP p number own now).2=0):∃s,(readyP p number own now).1.slots[atP (readyP p number own now).1 number]?=some s:=by
 obtain⟨s,h,_⟩:=jiS (jmM ht he);exact⟨s,h⟩
theorem jeu{p:Ptc}{v:Str}(h:PI p)(he:(prefP p number v now).2=0):PI (prefP p number v now).1/\(prefP p number v now).1.node=p.node:=by
 unfold prefP at he ⊢;split at he
 ·cases he
 ·rename_i h1
  rw[qe h1];split at he
  ·rename_i h2;rw[qf h2];exact⟨h,rfl⟩
  ·rename_i h2
   rw[qe h2];split at he
   ·rename_i h3;exact qp he h3
   ·rename_i h3
    rw[qe h3];have h3':(readyP p number v now).2=0:=by simpa using h3
    have hl:=(ja8 (by simpa using h1)).2.2.1;have hr:=jeA h hl h3';obtain⟨s,hs⟩:=jgg h.sz h3';have:=jvX hr.1 (f:=λs=>prefS' s v) (λs a b=>jtS a b) (by rw[hs];rfl) he;exact⟨this.1,this.2.trans hr.2⟩
theorem jeG{p:Ptc}{l:Ltr}(h:PI p)(hl:LB l)(he:(hearP p l now).2=0):PI (hearP p l now).1/\(hearP p l now).1.node=p.node:=by
 unfold hearP at he ⊢;split at he
 ·cases he
 ·rename_i h1
  rw[qe h1];split at he
  ·rename_i h2;rw[qf h2];exact⟨h,rfl⟩
  ·rename_i h2
   rw[qe h2];split at he
   ·cases he
   ·rename_i hb
    rw[qe hb];split at he
    ·rename_i h3;exact qp he h3
    ·rename_i h3
     rw[qe h3];have h3':(readyP p l.slot sZ now).2=0:=by simpa using h3
     have hll:=(ja8 (by simpa using h1)).2.2.1;have hr:=jeA h hll h3';obtain⟨s,hs⟩:=jgg h.sz h3'
     have:=jvX hr.1 (f:=λs=>if l.kind=1 then nomS s l.nom else balS s l.env) (λs a b=>by
      by_cases hk:l.kind=1
      ·simp only[hk,if_true] at b ⊢;exact jxx a hl.nom.sz b
      ·simp only[hk,if_false] at b ⊢;exact jxL a hl.env b) (by rw[hs];rfl) he
     exact⟨this.1,this.2.trans hr.2⟩
theorem jgc{p:Ptc}(h:PI p):PI (stopP p)/\(stopP p).node=p.node:=by
 unfold stopP;split
 ·exact⟨h,rfl⟩
 ·exact⟨⟨h.sz,h.hl,h.hs⟩,rfl⟩
theorem jnI{now:Int}:∀(l q:List Slt),(∀s∈l,SI s)->(∀s∈q,SI s)->(tksGo now l q).2=0->(tksGo now l q).1.length=q.length+l.length/\∀s∈(tksGo now l q).1,SI s
 | [],q,_,hq,_=>⟨by simp[tksGo],hq⟩
 | s::r,q,hl,hq,he=>by
  unfold tksGo at he ⊢;split at he
  ·rename_i h3;exact qp he h3
  ·rename_i h3
   rw[qe h3]
   have h4:=jnI r (q++[(tickSl s now).1]) (λx hx=>hl x (qj _ hx)) (λx hx=>by
    rcases zk hx with hx | hx
    ·exact hq x hx
    ·rw[zl hx];exact jrS (hl s (za)) (by simpa using h3)) he
   refine⟨?_,h4.2⟩;rw[h4.1];simp only[qm,qi,qu];omega
theorem jev{p:Ptc}(h:PI p)(he:(tickP p now).2=0):PI (tickP p now).1/\(tickP p now).1.node=p.node:=by
 unfold tickP at he ⊢;split at he
 ·cases he
 ·rename_i h1
  rw[qe h1];split at he
  ·rename_i h2;rw[qf h2];exact⟨h,rfl⟩
  ·rename_i h2
   rw[qe h2];split at he
   ·rename_i h3;exact qp he h3
   ·rename_i h3
    rw[qe h3];have:=jnI (now:=now) p.slots [] h.hs (λs hs=>qp hs qv) (by simpa using h3);have hl:=h.hl;exact⟨⟨h.sz,by rw[show (⟨p.node,p.stopped,p.t,(tksGo now p.slots []).1⟩:Ptc).slots=(tksGo now p.slots []).1 from rfl,this.1];simp only[qu];omega,this.2⟩,rfl⟩
theorem jgs{p:Ptc}(h:PI p):∀l∈lettersP p,LB l:=by
 intro l hl;unfold lettersP at hl;split at hl
 ·cases hl
 ·obtain⟨s,hs,hl⟩:=List.mem_flatMap.1 hl
  exact jp0 (h.hs s hs) l hl
structure NtI(n:Ntw):Prop where
 hl:n.pcs.length<=5000
 hs:∀p∈n.pcs,LB p.l
 parts:n.parts.length<=100
 dls:n.dls.length<=1000
theorem jis(p:Pcl)(l:List Pcl):∀i,frontGo p l i<=i
 | 0=>Nat.le_refl _
 | i+1=>by
  have h:=jis p l i;have e:∀c:Bool,(if c=true then frontGo p l i else i+1)<=i+1:=λc=>by cases c<;>simp;omega
  exact e _
theorem jgP(p:Pcl)(l:List Pcl):frontP p l<=l.length:=jis p l _
theorem jby{n:Ntw}(h:checkNt n=true):n.pcs.length<=4000/\(0<=n.next/\n.next<=1000000000)/\partsV n.parts=true/\(n.dls.length=0\/n.dls.length=100)/\n.dls.all delOk=true/\pclGo n none n.pcs=true:=by
 simp only[checkNt,headNt,qh,qo,Bool.or_eq_true] at h;exact⟨h.1.1.1.1.1.1,⟨h.1.1.1.1.1.2,h.1.1.1.1.2⟩,h.1.1.1.2,h.1.1.2,h.1.2,h.2⟩
theorem jgo{n:Ntw}{a b:Int}{l:Ltr}(h:NtI n)(hl:LB l)(he:(sendV n a b l now).2=0):NtI (sendV n a b l now).1:=by
 unfold sendV at he ⊢;split at he
 ·cases he
 ·rename_i h1
  rw[qe h1];split at he
  ·cases he
  ·rename_i h2
   rw[qe h2];split at he
   ·cases he
   ·rename_i h3
    rw[qe h3];split at he
    ·cases he
    ·rename_i h4
     rw[qe h4];have hc:=(jby (by simpa using h1)).1;have hk:=jgP (newPc n a b l now) n.pcs;refine⟨?_,jgn h.hs hl,h.parts,h.dls⟩;have:=jgq (l:=n.pcs) (x:=newPc n a b l now) (Nat.le_refl (frontP (newPc n a b l now) n.pcs));show (n.pcs.take (frontP (newPc n a b l now) n.pcs)++[newPc n a b l now]++n.pcs.drop (frontP (newPc n a b l now) n.pcs)).length<=5000;omega
theorem jg3{n:Ntw}(h:NtI n):NtI (dueV n now).2/\∀p∈(dueV n now).1,LB p.l:=by
 unfold dueV;split
 ·exact⟨h,λp hp=>qp hp qv⟩
 ·refine⟨⟨?_,λp hp=>h.hs p (List.mem_of_mem_drop hp),h.parts,h.dls⟩,λp hp=>h.hs p (List.mem_of_mem_take ((List.mem_filter.1 hp).1))⟩
  have:=h.hl;show (n.pcs.drop (dueK n now)).length<=5000;rw[List.length_drop];omega
theorem joU{n:Ntw}:∀(l:List Pcl)(q:Option Pcl),pclGo n q l=true->∀p∈l,pclOk n p=true
 | [],q,_,p,hp=>qp hp qv
 | x::r,q,h,p,hp=>by
  simp only[pclGo,qh] at h;rcases zf hp with rfl | hp
  ·exact h.1.1
  ·exact joU r (some x) h.2 p hp
theorem ji2{n:Ntw}:∀p∈(dueV n now).1,(0<=p.dst/\p.dst<=9)/\(0<=p.src/\p.src<=9)/\¬p.src=p.dst:=by
 intro p hp;unfold dueV at hp;split at hp
 ·exact qp hp qv
 ·rename_i h1
  have:=joU _ _ (jby (by simpa using h1)).2.2.2.2.2 p (List.mem_of_mem_take ((List.mem_filter.1 hp).1));simp only[pclOk,nodeN,qh,qo,Bool.not_eq_true',decide_eq_false_iff_not] at this;exact⟨by omega,by omega,by omega⟩
theorem jin{l:List Int}(h:partsV l=true):l.length<=10:=by
 simp only[partsV,qh,qo] at h;exact h.2
theorem jnM{n:Ntw}{l:List Int}(h:NtI n)(he:(partN n l).2=0):NtI (partN n l).1:=by
 unfold partN at he ⊢;split at he
 ·cases he
 ·rename_i h1
  rw[qe h1];split at he
  ·cases he
  ·rename_i h2
   rw[qe h2];have:=jin (by simpa using h2:partsV l=true);exact⟨h.hl,h.hs,by show l.length<=100;omega,h.dls⟩
theorem joM(l:List Int):(padD l).length=100:=by unfold padD;simp;omega
theorem jsB{n:Ntw}{a b k:Int}(h:NtI n)(he:(delayN n a b k).2=0):NtI (delayN n a b k).1:=by
 unfold delayN at he ⊢;split at he
 ·cases he
 ·rename_i h1
  rw[qe h1];split at he
  ·cases he
  ·rename_i h2
   rw[qe h2];split at he
   ·cases he
   ·rename_i h3
    rw[qe h3];exact⟨h.hl,h.hs,h.parts,by show ((padD n.dls).set (a * 10+b).toNat k).length<=1000;rw[List.length_set,joM];omega⟩
structure WI(w:Wld):Prop where
 time:0<=w.time/\w.time<=200
 len:w.nodes.length<=10
 nd:∀(i:Nat) p,w.nodes[i]?=some p->p.node=(i:Int)/\PI p
 net:NtI w.net
 ill:0<=w.ill/\w.ill<1024
 trl:w.trs.length<=100
 trs:∀l∈w.trs,l.length<=100/\∀t∈l,sizeT t<=100000
theorem jdL{w:Wld}{p q:Ptc}(h:WI w)(hp:w.nodes[i]?=some p)(hq:PI q)(hn:q.node=p.node):WI (withW w q):=by
 have hi:=(h.nd i p hp).1;have e:q.node.toNat=i:=by omega
 refine⟨h.time,by show (w.nodes.set _ q).length<=10;rw[List.length_set];exact h.len,λj x hx=>?_,h.net,h.ill,h.trl,h.trs⟩;have hx':(w.nodes.set q.node.toNat q)[j]?=some x:=hx;rw[e,List.getElem?_set] at hx';split at hx'
 ·rename_i hj
  split at hx'
  ·cases hx';exact⟨by omega,hq⟩
  ·cases hx'
 ·exact h.nd j x hx'
theorem jrw{w:Wld}{p:Pcl}(h:WI w)(hl:LB p.l):WI (inW now w p):=by
 unfold inW;split
 ·exact h
 ·cases hx:w.nodes[p.dst.toNat]? with
  | none=>exact h
  | some x =>
   simp only;split
   ·rename_i he
    have:=jeG (h.nd _ x hx).2 hl he;exact jdL h hx this.1 this.2
   ·exact h
theorem jkf{w:Wld}{p:Pcl}:(inW now w p).nodes.length=w.nodes.length/\(inW now w p).time=w.time/\(inW now w p).net=w.net/\(inW now w p).ill=w.ill/\(inW now w p).trs=w.trs:=by
 unfold inW;split
 ·exact⟨rfl,rfl,rfl,rfl,rfl⟩
 ·split
  ·split
   ·exact⟨by simp[withW],rfl,rfl,rfl,rfl⟩
   ·exact⟨rfl,rfl,rfl,rfl,rfl⟩
  ·exact⟨rfl,rfl,rfl,rfl,rfl⟩
theorem jqF{w:Wld}(h:WI w):WI (tkW now w i):=by
 unfold tkW;split
 ·exact h
 ·cases hx:w.nodes[i]? with
  | none=>exact h
  | some x =>
   simp only;split
   ·rename_i he
    have:=jev (h.nd _ x hx).2 he;exact jdL h hx this.1 this.2
   ·exact h
theorem jj8{w:Wld}:(tkW now w i).nodes.length=w.nodes.length/\(tkW now w i).time=w.time/\(tkW now w i).net=w.net/\(tkW now w i).ill=w.ill/\(tkW now w i).trs=w.trs:=by
 unfold tkW;split
 ·exact⟨rfl,rfl,rfl,rfl,rfl⟩
 ·split
  ·split
   ·exact⟨by simp[withW],rfl,rfl,rfl,rfl⟩
   ·exact⟨rfl,rfl,rfl,rfl,rfl⟩
  ·exact⟨rfl,rfl,rfl,rfl,rfl⟩
theorem jjJ{α:Type}{f:Wld->α->Wld}{P:α->Prop}(hf:∀w x,WI w->P x->WI (f w x)):∀(l:List α)(w:Wld),(∀x∈l,P x)->WI w->WI (l.foldl f w)
 | [],w,_,h=>h
 | x::r,w,hl,h=>jjJ hf r (f w x) (λy hy=>hl y (qj _ hy)) (hf w x h (hl x (za)))
theorem jxF{l:Ltr}{n:Ntw}(h:NtI n)(hl:LB l):NtI (sndN now i l n k):=by
 unfold sndN;split
 ·exact h
 ·split
  ·rename_i he;exact jgo h hl he
  ·exact h
theorem jge{α:Type}{f:Ntw->α->Ntw}{P:α->Prop}(hf:∀w x,NtI w->P x->NtI (f w x)):∀(l:List α)(w:Ntw),(∀x∈l,P x)->NtI w->NtI (l.foldl f w)
 | [],w,_,h=>h
 | x::r,w,hl,h=>jge hf r (f w x) (λy hy=>hl y (qj _ hy)) (hf w x h (hl x (za)))
theorem jyc{m:Nat}{n:Ntw}{l:Ltr}(h:NtI n)(hl:LB l):NtI (outL now m i n l):=jge (P:=λ_=>True) (λw x hw _=>jxF hw hl) _ _ (λ_ _=>trivial) h
theorem jxs{w:Wld}{n:Ntw}(hw:WI w)(h:NtI n):NtI (outN now w n i):=by
 unfold outN;split
 ·exact h
 ·cases hx:w.nodes[i]? with
  | none=>exact h
  | some x=>exact jge (P:=LB) (λw x hw hl=>jyc hw hl) _ _ (jgs (hw.nd i x hx).2) h
theorem jgj{w:Wld}(h:WI w)(ht:w.time<200):WI (tickA w):=⟨by have:=h.time;show 0<=w.time+1/\w.time+1<=200;omega,h.len,h.nd,(jg3 h.net).1,h.ill,h.trl,h.trs⟩
theorem jjj{w:Wld}(h:WI w)(ht:w.time<200):WI (tickB w):=jjJ (P:=λp:Pcl=>LB p.l) (λw x hw hl=>jrw hw hl) _ _ (jg3 h.net).2 (jgj h ht)
theorem jj2{w:Wld}(h:WI w)(ht:w.time<200):WI (tickC w):=jjJ (P:=λ_=>True) (λw x hw _=>jqF hw) _ _ (λ_ _=>trivial) (jjj h ht)
theorem jiz{w:Wld}(h:WI w){n:Ntw}(hn:NtI n):WI { w with net:=n }:=⟨h.time,h.len,h.nd,hn,h.ill,h.trl,h.trs⟩
theorem jow{w:Wld}(h:WI w)(ht:w.time<200):WI (tickD w) :=
 jiz (jj2 h ht) (jge (P:=λ_=>True) (λn x hn _=>jxs (jj2 h ht) hn) _ _ (λ_ _=>trivial) (jj2 h ht).net)
theorem jnn{w:Wld}(h:WI w)(he:(tickW w).2=0):WI (tickW w).1:=by
 unfold tickW at he ⊢;split at he
 ·cases he
 ·rename_i h1
  rw[qe h1];exact jow h zo
theorem jk1:∀(k:Nat){w:Wld},WI w->(ticksW k w).2=0->WI (ticksW k w).1
 | 0,w,h,_=>h
 | k+1,w,h,he=>by
  unfold ticksW at he ⊢;split at he
  ·rename_i h3;exact qp he h3
  ·rename_i h3
   rw[qe h3];exact jk1 k (jnn h (by simpa using h3)) he
structure SB(s:Sp):Prop where
 l:LB s.l
theorem juv{w:Wld}{s:Sp}(h:WI w)(hs:SB s)(he:(showW w s).2=0):WI (showW w s).1:=by
 unfold showW at he ⊢;split at he
 ·cases he
 ·rename_i h1
  rw[qe h1];split at he
  ·cases he
  ·rename_i h2
   rw[qe h2];split at he
   ·cases he
   ·rename_i h3
    rw[qe h3];split at he
    ·rename_i h4;exact qp he h4
    ·rename_i h4
     rw[qe h4];exact jiz h (jgo h.net hs.l (by simpa using h4))
theorem jjn{w:Wld}{s:Sp}{f:Ptc->Ptc × Int}(h:WI w)(hf:∀p,PI p->(f p).2=0->PI (f p).1/\(f p).1.node=p.node)(hz:(w.nodes[s.node.toNat]?).isSome=true)(he:(nodeW w s f).2=0):WI (nodeW w s f).1:=by
 unfold nodeW at he ⊢;split at he
 ·cases he
 ·rename_i h1
  rw[qe h1];cases hx:w.nodes[s.node.toNat]? with
  | none=>rw[hx] at hz;cases hz
  | some p =>
   rw[hx] at he;simp only at he ⊢;split at he
   ·rename_i h2;exact qp he h2
   ·rename_i h2
    rw[qe h2];have:=hf p (h.nd _ p hx).2 (by simpa using h2);exact jdL h hx this.1 this.2
theorem jo4{w:Wld}{k:Int}(h:thereW w k=true):(w.nodes[k.toNat]?).isSome=true:=by
 simp only[thereW,qh,qo] at h;have:k.toNat<w.nodes.length:=by omega
 rw[ze this];rfl
theorem jwf{w:Wld}{s:Sp}(h:WI w)(hs:SB s)(he:(doW w s).2=0):WI (doW w s).1:=by
 unfold doW at he ⊢;split at he
 ·cases he
 ·rename_i h1
  rw[qe h1];split at he
  ·cases he
  ·rename_i h2
   rw[qe h2];split at he
   ·cases he
   ·rename_i h3
    rw[qe h3];split at he
    ·rename_i h4
     rw[qf h4];split at he
     ·cases he
     ·rename_i h5
      rw[qe h5];exact jk1 _ h he
    ·rename_i h4
     rw[qe h4];split at he
     ·rename_i h5
      rw[qf h5];split at he
      ·rename_i h6;exact qp he h6
      ·rename_i h6
       rw[qe h6];exact jiz h (jnM h.net (by simpa using h6))
     ·rename_i h5
      rw[qe h5]
      have hz:=jo4 (show thereW w s.node=true by
       cases hh:thereW w s.node with
       | true=>rfl
       | false=>exact qp ⟨⟨h4,h5⟩,hh⟩ h3)
      split at he
      ·rename_i h6
       rw[qf h6];split at he
       ·rename_i h7;exact qp he h7
       ·rename_i h7
        rw[qe h7];exact jiz h (jsB h.net (by simpa using h7))
      ·rename_i h6
       rw[qe h6];split at he
       ·rename_i h7
        rw[qf h7];exact juv h hs he
       ·rename_i h7
        rw[qe h7];split at he
        ·rename_i h8
         rw[qf h8];exact jjn h (λp hp e=>jeV hp e) hz he
        ·rename_i h8
         rw[qe h8];split at he
         ·rename_i h9
          rw[qf h9];exact jjn h (λp hp e=>jeu hp e) hz he
         ·rename_i h9
          rw[qe h9];exact jjn h (λp hp e=>jgc hp) hz he
def startW(c:List Mem)(ill:Int):Wld:=⟨0,newPtcs c 0,ill,zNtw,c.map (λm=>[m.t])⟩
theorem jdY:∀(l:List Mem)(i j:Nat)(p:Ptc),(newPtcs l i)[j]?=some p->∃m,l[j]?=some m/\p=⟨((i+j:Nat):Int),false,m.t,[]⟩
 | [],i,j,p,h=>by simp[newPtcs] at h
 | m::r,i,0,p,h=>by
  simp only[newPtcs,List.getElem?_cons_zero,qs] at h;exact⟨m,rfl,h.symm⟩
 | m::r,i,j+1,p,h=>by
  simp only[newPtcs,List.getElem?_cons_succ] at h;obtain⟨x,h1,h2⟩:=jdY r (i+1) j p h;refine⟨x,by simpa using h1,?_⟩;rw[h2,show i+1+j=i+(j+1) by omega]
theorem jcA:∀(l:List Mem)(i:Nat),(newPtcs l i).length=l.length
 | [],i=>rfl
 | x::r,i=>by rw[newPtcs,qi,jcA r,qi]
theorem jg5{c:List Mem}(hlen:c.length<=10)(hs:∀m∈c,sizeT m.t<=100000)(hi:0<=ill/\ill<(2^c.length:Nat)):WI (startW c ill):=by
 have hp:2^c.length<=2^10:=Nat.pow_le_pow_right zo hlen;refine⟨by show (0:Int)<=0/\(0:Int)<=200;omega,by show (newPtcs c 0).length<=10;rw[jcA];exact hlen,λi p h=>?_,⟨by show (0:Nat)<=5000;omega,λp hp=>qp hp qv,by show (0:Nat)<=100;omega,by show (0:Nat)<=1000;omega⟩,by show 0<=ill/\ill<1024;omega,by show (c.map (λm=>[m.t])).length<=100;rw[qw];omega,λl hl=>?_⟩
 ·obtain⟨m,h1,rfl⟩:=jdY c 0 i p h
  exact⟨by rw[Nat.zero_add],hs m (qk h1),by show (0:Nat)<=20;omega,λs hs=>qp hs qv⟩
 ·obtain⟨m,hm,rfl⟩:=List.mem_map.1 hl
  refine⟨by simp,λt ht=>?_⟩;rw[zl ht];exact hs m hm
def runV(w:Wld)(l:List Sp):Wld × Nat × Int:=if l.length>300 then (w,0,3) else runGo w l 0
theorem jnV:∀(l:List Sp)(w:Wld)(i:Nat),WI w->(∀s∈l,SB s)->WI (runGo w l i).1
 | [],w,i,h,_=>h
 | s::r,w,i,h,hs=>by
  unfold runGo;split
  ·exact h
  ·rename_i h2
   exact jnV r _ _ (jwf h (hs s (za)) (by simpa using h2)) (λx hx=>hs x (qj _ hx))
theorem jwP{l:List Sp}{w:Wld}(h:WI w)(hs:∀s∈l,SB s):WI (runV w l).1:=by
 unfold runV;split
 ·exact h
 ·exact jnV l w 0 h hs
theorem jhZ(w:Wld):∀(l:List Ptc)(i:Nat),∀o∈otcGo w l i,(i:Int)<=o.node/\o.node<((i+l.length:Nat):Int)
 | [],i,o,ho=>qp ho qv
 | p::r,i,o,ho=>by
  rw[otcGo] at ho;rw[qi];rcases zk ho with ho | ho
  ·obtain⟨s,hs,ho⟩:=List.mem_flatMap.1 ho
   unfold otcS at ho;split at ho
   ·rw[zl ho]
    show (i:Int)<=(i:Int)/\(i:Int)<_;omega
   ·cases ho
  ·have:=jhZ w r (i+1) o ho
   omega
theorem ji4{w:Wld}(h:WI w):∀o∈outcomes w,0<=o.node/\o.node<=9:=by
 intro o ho;unfold outcomes at ho;have hl:=h.len;split at ho
 ·cases ho
 ·have:=jhZ w w.nodes 0 o ho
  omega
section
variable{κ:Type}
variable{NP:κ->Nat->Ptc->Prop}{LP:κ->Int->Int->Ltr->Prop}{R:Nat->κ->κ->Prop}{AP:Int->Int->Prop}
theorem jbW{w:Wld}{q:Ptc}{j:Nat}(hn:q.node=(i:Int))(hi:i<w.nodes.length):(withW w q).nodes[j]?=if i=j then some q else w.nodes[j]?:=by
 unfold withW;rw[show q.node.toNat=i by omega];show (w.nodes.set i q)[j]?=_;rw[List.getElem?_set];simp[hi]
theorem jmV{n m:Ntw}(h:n.parts=m.parts)(a b:Int):apartV n a b=apartV m a b:=by
 unfold apartV partV;rw[h]
end
def VOK(P:Nat->Trust->Prop)(V:List Mem):Prop:=∀(k:Nat) m,V[k]?=some m->m.decl=true->P k m.t
theorem VOK.set{V:List Mem}(h:VOK P V){t:Trust}(ht:P k t):VOK P (V.set k ⟨true,t⟩):=by
 intro j m hj hd;rw[List.getElem?_set] at hj;split at hj
 ·rename_i e
  split at hj
  ·cases hj;subst e;exact ht
  ·cases hj
 ·exact h j m hj hd
theorem jik(P:Nat->Trust->Prop):VOK P nobody:=by
 intro j m hj hd;unfold nobody at hj;rw[List.getElem?_replicate] at hj;split at hj
 ·cases hj;cases hd
 ·cases hj
theorem jtO{V:List Mem}{e:Evp}(h:VOK P V)(he:vE e=true->P e.node.toNat e.t):VOK P (putE V e):=by
 unfold putE;split
 ·rename_i hv
  cases hx:V[e.node.toNat]? with
  | none=>exact h
  | some m =>
   simp only;split
   ·exact h
   ·exact h.set (he hv)
 ·exact h
theorem jlE{P:Nat->Trust->Prop}:∀(l:List Evp){V:List Mem},VOK P V->(∀e∈l,vE e=true->P e.node.toNat e.t)->VOK P (putsE l V)
 | [],V,h,_=>h
 | e::r,V,h,he=>by
  rw[putsE];exact jlE r (jtO h (he e (za))) (λx hx=>he x (qj _ hx))
theorem jno{node:Int}{t:Trust}{l:List Evp}(ht:P node.toNat t)(he:∀e∈l,vE e=true->P e.node.toNat e.t):VOK P (viewE node t l):=by
 unfold viewE;split
 ·exact jik P
 ·exact jlE l ((jik P).set ht) he
theorem jut(V:List Mem)(e:Evp):(putE V e).length=V.length:=by
 unfold putE;split
 ·cases hx:V[e.node.toNat]? with
  | none=>rfl
  | some m=>simp only;split<;>simp
 ·rfl
theorem js4{V:List Mem}{e:Evp}{m:Mem}(h:V[k]?=some m)(hd:m.decl=true):(putE V e)[k]?=some m:=by
 unfold putE;split
 ·cases hx:V[e.node.toNat]? with
  | none=>exact h
  | some x =>
   simp only;split
   ·exact h
   ·rename_i hxd
    rw[List.getElem?_set];split
    ·rename_i e'
     rw[e',h] at hx;cases hx;exact qp hd hxd
    ·exact h
 ·exact h
theorem jfq:∀(l:List Evp){V:List Mem}{k:Nat}{m:Mem},V[k]?=some m->m.decl=true->(putsE l V)[k]?=some m
 | [],V,k,m,h,_=>h
 | e::r,V,k,m,h,hd=>by rw[putsE];exact jfq r (js4 h hd) hd
theorem jxX{node:Int}{t:Trust}{l:List Evp}(hn:0<=node/\node<10):(viewE node t l)[node.toNat]?=some ⟨true,t⟩:=by
 unfold viewE;rw[qe zo];refine jfq l ?_ rfl;rw[List.getElem?_set];simp[nobody];omega
theorem ju4{V:List Mem}{e:Evp}(hv:vE e=true)(hl:V.length=10):∃m,(putE V e)[e.node.toNat]?=some m/\m.decl=true:=by
 have hn:=jcx hv;obtain⟨m,hm⟩:∃m,V[e.node.toNat]?=some m:=⟨_,ze zo⟩
 unfold putE;rw[qf hv,hm];simp only;split
 ·rename_i hd;exact⟨m,hm,hd⟩
 ·refine⟨⟨true,e.t⟩,?_,rfl⟩
  rw[List.getElem?_set];simp;omega
theorem jkp:∀(l:List Evp){V:List Mem}{e:Evp},e∈l->vE e=true->V.length=10->∃m,(putsE l V)[e.node.toNat]?=some m/\m.decl=true
 | [],V,e,h,_,_=>qp h qv
 | x::r,V,e,h,hv,hl=>by
  rw[putsE];rcases zf h with rfl | h
  ·obtain⟨m,h1,h2⟩:=ju4 hv hl
   exact⟨m,jfq r h1 h2,h2⟩
  ·exact jkp r h hv (by rw[jut];exact hl)
theorem jvA{node:Int}{t:Trust}{l:List Evp}(hn:0<=node/\node<10){e:Evp}(he:e∈l)(hv:vE e=true):∃m,(viewE node t l)[e.node.toNat]?=some m/\m.decl=true:=by
 unfold viewE;rw[qe zo];exact jkp l he hv (by rw[List.length_set];rfl)
theorem jmC(v:Nat)(hv:v<10):others 0 v=1023:=by
 apply Nat.eq_of_testBit_eq;intro i;have e:(1023:Nat).testBit i=decide (i<10):=Nat.testBit_two_pow_sub_one 10 i;rw[jdD zo,Nat.zero_testBit,e]
 by_cases hi:i<10
 ·simp[hi]
 ·have:¬v=i:=by omega
  simp[hi,this]
theorem jl8{V:List Mem}{v:Int}(h:∀m,V[v.toNat]?=some m->m.decl=true->validT m.t=0):blocksC V v 0=false:=by
 unfold blocksC;cases hh:has (declC V) v with
 | false=>rw[qy,qB]
 | true =>
  have h1:=(jaX (ja0 V)).1 hh;obtain⟨m,h10,hm,hd⟩:=jc0.1 h1.2.2
  have e:tOf V v=m.t:=by
   have:=jbp hm;have e2:((v.toNat:Nat):Int)=v:=by omega
   rw[e2] at this;exact this
  have h2:others (0:Int).toNat v.toNat=1023:=jmC v.toNat h10;have h3:sat ((1023:Nat):Int) m.t=true:=js0 m.t (jbA (h m hm hd));rw[h2,e,h3,Bool.not_true,qB,qB]
theorem jgv(p:Evp->Bool):∀(l:List Evp)(s k:Nat),(whoGo p l s).testBit k=true↔s.testBit k=true\/∃e∈l,p e=true/\e.node.toNat=k
 | [],s,k=>by simp[whoGo]
 | e::r,s,k=>by
  rw[whoGo,jgv p r]
  by_cases hp:p e=true
  ·rw[qf hp,Nat.testBit_or,Nat.one_mul,Nat.testBit_two_pow]
   simp only[Bool.or_eq_true,qo,List.mem_cons,exists_eq_or_imp];constructor
   ·rintro((h | h) | h)
    ·exact .inl h
    ·exact .inr (.inl ⟨hp,h⟩)
    ·exact .inr (.inr h)
   ·rintro(h | ⟨_,h⟩ | h)
    ·exact .inl (.inl h)
    ·exact .inl (.inr h)
    ·exact .inr h
  ·rw[qe hp]
   simp only[List.mem_cons,exists_eq_or_imp,hp,false_and,false_or];constructor
   ·rintro(h | h)
    ·exact .inl h
    ·exact .inr (by simpa using h)
   ·rintro(h | h)
    ·exact .inl h
    ·exact .inr (by simpa using h)
theorem jbL{p:Evp->Bool}{l:List Evp}:(setP p l).testBit k=true↔∃e∈l,(p e=true/\0<=e.node/\e.node<=9)/\e.node.toNat=k:=by
 unfold setP;rw[jgv];simp only[Nat.zero_testBit,Bool.false_eq_true,false_or,qh,qo]
theorem jbh(p:Evp->Bool)(l:List Evp):setP p l<1024:=by
 have:=jdG (s:=setP p l) (n:=10) (λi hi=>by
  obtain⟨e,_,⟨_,h1,h2⟩,h3⟩:=jbL.1 hi
  omega)
 exact this
theorem jkA{p:Evp->Bool}{l:List Evp}(h:∀e∈l,p e=false):setP p l=0:=by
 apply Nat.eq_of_testBit_eq;intro k;rw[Nat.zero_testBit];cases e:(setP p l).testBit k with
 | false=>rfl
 | true =>
  obtain⟨x,hx,⟨h1,_⟩,_⟩:=jbL.1 e;rw[h x hx] at h1;cases h1
section
variable{v:Str}
def OneV(v:Str)(l:List Str):Prop:=l=[]\/l=[v]
theorem OneV.mem{l:List Str}(h:OneV v l){x:Str}(hx:x∈l):x=v:=by
 rcases h with rfl | rfl
 ·cases hx
 ·exact zl hx
theorem jx2(x:Str):cN x x=0:=qf rfl
theorem jke{l:List Str}(h:OneV v l):putN l v=[v]:=by
 rcases h with rfl | rfl
 ·rfl
 ·unfold putN
  rw[qf (by simp[hasN])]
theorem je6{l:List Str}(h:OneV v l):OneV v (putN l v):=.inr (jke h)
theorem jdc{a b:List Str}(ha:OneV v a)(hb:OneV v b):OneV v (unionN a b):=by
 rcases ha with rfl | rfl<;>rcases hb with rfl | rfl
 ·exact .inl rfl
 ·exact .inr rfl
 ·exact .inr rfl
 ·refine .inr ?_
  unfold unionN;simp[unionGo,jx2]
theorem jnP{f:List Str->Str->List Str}(hf:∀q,OneV v q->OneV v (f q v)):∀(l:List Str)(q:List Str),(∀x∈l,x=v)->OneV v q->OneV v (l.foldl f q)
 | [],q,_,h=>h
 | x::r,q,hl,h=>by
  show OneV v (r.foldl f (f q x));rw[hl x (za)];exact jnP hf r _ (λy hy=>hl y (qj _ hy)) (hf q h)
theorem jdw{α:Type}{f:List Str->α->List Str}{P:α->Prop}(hf:∀q x,P x->OneV v q->OneV v (f q x)):∀(l:List α)(q:List Str),(∀x∈l,P x)->OneV v q->OneV v (l.foldl f q)
 | [],q,_,h=>h
 | x::r,q,hl,h=>jdw hf r _ (λy hy=>hl y (qj _ hy)) (hf q x (hl x (za)) h)
structure OneM(v:Str)(m:Nmn):Prop where
 votes:OneV v m.votes
 accs:OneV v m.accs
structure OneN(v:Str)(n:Nmr):Prop where
 own:n.own=v
 votes:OneV v n.votes
 accs:OneV v n.accs
 confs:OneV v n.confs
 ca:n.confs=[]\/n.accs=[v]
 heard:∀m∈n.heard,OneM v m
theorem jqh{n:Nmr}(h:OneN v n):OneN v (followN n):=by
 refine⟨h.own,?_,h.accs,h.confs,h.ca,h.heard⟩;refine jdw (P:=λ_=>True) (λq k _ hq=>?_) _ _ (λ_ _=>trivial) h.votes;unfold fol1;split
 ·split
  ·exact hq
  ·rw[h.own];exact je6 hq
 ·refine jdw (P:=OneM v) (λq m hm hq=>?_) _ _ h.heard hq
  unfold fol2;split
  ·exact jnP (λq hq=>je6 hq) _ _ (λx hx=>(jdc hm.votes hm.accs).mem hx) hq
  ·exact hq
theorem jlL{n:Nmr}(h:OneN v n):OneV v (knownN n) :=
 jdw (P:=OneM v) (λq m hm hq=>jdc hq (jdc hm.votes hm.accs)) _ _ h.heard (jdc h.votes h.accs)
theorem jlV{n:Nmr}(h:OneN v n):OneN v (firstN n):=by
 unfold firstN;split
 ·exact jqh h
 ·exact h
theorem jlW:∀(k:Nat){n:Nmr},OneN v n->OneN v (againN k n)
 | 0,n,h=>h
 | k+1,n,h=>by
  unfold againN;split
  ·exact h
  ·rename_i x hx
   have hxv:=(jlL h).mem (List.mem_of_find?_eq_some hx);rw[hxv];exact jlW k (n:=accN n v) ⟨h.own,h.votes,je6 h.accs,h.confs,.inr (jke h.accs),h.heard⟩
theorem jo7{n:Nmr}(h:OneN v n):OneN v (chosenN n):=by
 refine⟨h.own,h.votes,h.accs,?_,?_,h.heard⟩
 ·refine jdw (P:=λx=>x=v) (λq x hx hq=>?_) _ _ (λx hx=>h.accs.mem hx) h.confs
  subst hx;unfold cnd1;split
  ·exact je6 hq
  ·exact hq
 ·rcases h.accs with ha | ha
  ·rcases h.ca with hc | hc
   ·left
    show n.accs.foldl (cnd1 n) n.confs=[];rw[ha,hc];rfl
   ·exact .inr hc
  ·exact .inr ha
theorem jov{n:Nmr}(h:OneN v n):OneN v (bodyN n):=jo7 (jlW _ (jlV h))
theorem jip{b n:Nmr}(h:OneN v n):OneN v (settleN b n):=by
 have h1:=jov h;unfold settleN;split
 ·exact⟨h1.own,h1.votes,h1.accs,h1.confs,h1.ca,h1.heard⟩
 ·exact h1
theorem jkl{node:Int}{t:Trust}(he:(startN node slot t v).2=0):OneN v (startN node slot t v).1:=by
 unfold startN at he ⊢;split at he
 ·cases he
 ·rename_i h1
  rw[qe h1];split at he
  ·cases he
  ·rename_i h2
   rw[qe h2];split at he
   ·rename_i h3;exact qp he h3
   ·rename_i h3
    rw[qe h3];split at he
    ·cases he
    ·rename_i h4
     rw[qe h4];have h:=jip (b:=newN node slot t v) (n:=newN node slot t v) (v:=v) ⟨rfl,.inl rfl,.inl rfl,.inl rfl,.inl rfl,λm hm=>qp hm qv⟩;exact⟨h.own,h.votes,h.accs,h.confs,h.ca,h.heard⟩
theorem jlf{p:Nmn->Prop}{m:Nmn}(hm:p m){l:List Nmn}{d:Bool}{q h:List Nmn}(hl:∀x∈l,p x)(hq:∀x∈q,p x)(e:insGo m l d q=some h):∀x∈h,p x:=(jf0 hm l d q h hl hq e).2
theorem jnD{l:List Str}(h:OneV v l)(hc:(compN l).2=true):(compN l).1=v:=by
 rcases h with rfl | rfl
 ·cases hc
 ·unfold compN compGo compGo at hc ⊢
  split at hc
  ·rename_i hv;rw[qf hv]
  ·cases hc
theorem jyx{n:Nmr}(h:OneN v n):OneM v (sayN n):=⟨h.votes,h.accs⟩
theorem ju8{s:Slt}(h:OneN v s.nom)(hp:s.mach.prop=v):setM s=s.mach:=by
 unfold setM;refine qe (λhc=>?_);have h1:=hc.1;simp only[wantS,qh,Bool.not_eq_true',decide_eq_false_iff_not] at h1;exact h1.2 ((jnD h.confs h1.1.1.1).trans hp.symm)
end
theorem jjg{e x:Evp}:∀{l:List Evp},x∈insE e l↔x=e\/x∈l
 | []=>by simp[insE]
 | y::r=>by
  simp only[insE];split
  ·simp
  ·rw[List.mem_cons,jjg,List.mem_cons]
   constructor
   ·rintro(h | h | h)
    ·exact .inr (.inl h)
    ·exact .inl h
    ·exact .inr (.inr h)
   ·rintro(h | h | h)
    ·exact .inr (.inl h)
    ·exact .inl h
    ·exact .inr (.inr h)
theorem jz8{v:Str}(h:1<=v.size):¬v=noS:=by rintro rfl;revert h;decide
section
variable{c:List Mem}{S:Nat}{v:Str}
theorem jaR:zB Bal.none=true:=by decide
theorem jya(b:Bal):prB Bal.none Bal.none b=false:=by
 unfold prB covB;rw[jaR];rfl
end
def zLtr:Ltr:=⟨0,0,zNmn,zEvp⟩
def prefSp(v:Str)(k:Int):Sp:=⟨8,k,0,1,0,v,Trust.none,zLtr,[]⟩
def tickSp:Sp:=⟨2,0,0,0,12,noS,Trust.none,zLtr,[]⟩
theorem je4:∀(l1 l2:List Sp)(w w1:Wld)(i:Nat),runGo w l1 i=(w1,i+l1.length,0)->runGo w (l1++l2) i=runGo w1 l2 (i+l1.length)
 | [],l2,w,w1,i,h=>by
  simp only[runGo,Prod.mk.injEq] at h;rw[h.1];rfl
 | s::r,l2,w,w1,i,h=>by
  have e1:runGo w (s::r) i=if ¬(doW w s).2=0 then (w,i,(doW w s).2) else runGo (doW w s).1 r (i+1):=rfl
  have e2:runGo w ((s::r)++l2) i=if ¬(doW w s).2=0 then (w,i,(doW w s).2) else runGo (doW w s).1 (r++l2) (i+1):=rfl
  rw[e1] at h;rw[e2];split at h
  ·rename_i h1
   simp only[Prod.mk.injEq] at h;exact qp h.2.2 h1
  ·rename_i h1
   rw[qe h1];have:=je4 r l2 (doW w s).1 w1 (i+1) (by rw[h,qi,show i+1+r.length=i+(r.length+1) by omega]);rw[this,qi,show i+1+r.length=i+(r.length+1) by omega]
theorem jfy(t:Trust):same t t=true:=jc8 t
structure FN(c:List Mem)(GS:Nat->Slt->Prop)(i:Nat)(p:Ptc):Prop where
 node:p.node=(i:Int)
 t:p.t=tOf c i
 slots:p.slots=[]\/(p.stopped=false/\∃s,p.slots=[s]/\GS i s)
structure GSok(c:List Mem)(GS:Nat->Slt->Prop):Prop where
 chk:∀i s,GS i s->checkS s=true
 node:∀i s,GS i s->s.mach.node=(i:Int)
 t:∀i s,GS i s->s.mach.t=tOf c i
structure FW(c:List Mem)(ill:Int)(GS:Nat->Slt->Prop)(w:Wld):Prop where
 wi:WI w
 time:w.time=0
 net:checkNt w.net=true
 ill:w.ill=ill
 trs:w.trs=c.map (λm=>[m.t])
 len:w.nodes.length=c.length
 nd:∀(i:Nat) p,w.nodes[i]?=some p->FN c GS i p
structure CfgOk(c:List Mem):Prop where
 len:1<=c.length/\c.length<=10
 ok:∀(k:Nat) m,c[k]?=some m->m.decl=true/\validT m.t=0
 sz:∀m∈c,sizeT m.t<=100000
theorem FN.check{c:List Mem}{GS:Nat->Slt->Prop}(hc:CfgOk c)(hg:GSok c GS){p:Ptc}(h:FN c GS i p)(hi:i<c.length):checkP p=true:=by
 have hv:validT p.t=0:=by rw[h.t,jbp (ze hi)];exact(hc.ok i _ (ze hi)).2
 have hl:=hc.len.2;unfold checkP;rw[h.node,qg (p:=(i:Int)>=0) zo,qg (p:=(i:Int)<=9) zo,qg hv];rcases h.slots with hs | ⟨_,s,hs,hgs⟩
 ·rw[hs];rfl
 ·rw[hs]
  have h1:=hg.node i s hgs;have h2:=hg.t i s hgs;simp only[psGo,hg.chk i s hgs,h1,h2,h.node,h.t,jfy,decide_true,Bool.and_true,qx,qi,qu];rfl
theorem jtg{c:List Mem}{GS:Nat->Slt->Prop}(hc:CfgOk c)(hg:GSok c GS):∀(l:List Ptc)(m:List Mem)(i:Nat),(∀(j:Nat) p,l[j]?=some p->FN c GS (i+j) p)->(∀(j:Nat),m[j]?=c[i+j]?)->l.length=m.length->wnGo l (m.map (λx=>[x.t])) i=true
 | [],m,i,_,_,_=>by simp[wnGo]
 | p::r,[],i,_,_,hl=>by simp at hl
 | p::r,x::m,i,hf,hm,hl=>by
  have h0:=hf 0 p rfl;have hx:c[i]?=some x:=by have:=hm 0;simpa using this.symm
  have hi:=(List.getElem?_eq_some_iff.1 hx).1;have ht:x.t=p.t:=by rw[h0.t,Nat.add_zero,jbp hx]
  have hv:validT x.t=0:=(hc.ok i x hx).2;have ih:=jtg hc hg r m (i+1) (λj q hq=>by rw[show i+1+j=i+(j+1) by omega];exact hf (j+1) q (by simpa using hq)) (λj=>by have:=hm (j+1);simp only[List.getElem?_cons_succ] at this;rw[this,show i+(j+1)=i+1+j by omega]) (by simpa using hl);rw[List.map_cons,wnGo,ih,h0.check hc hg zo,Bool.and_true];have hn:decide (p.node=(i:Int))=true:=qg (by have:=h0.node;omega);rw[hn];simp only[hasTr,List.any_cons,List.any_nil,Bool.or_false,ht,jfy,trsGo,qi,qu,Bool.and_true,qx,Bool.not_false];rw[<-ht,qg hv];decide
theorem FW.check{c:List Mem}{GS:Nat->Slt->Prop}(hc:CfgOk c)(hg:GSok c GS)(hill:0<=ill/\ill<(2^c.length:Nat)){w:Wld}(h:FW c ill GS w):checkW w=true:=by
 have h1:=jtg hc hg w.nodes c 0 (λj p hp=>by rw[Nat.zero_add];exact h.nd j p hp) (λj=>by rw[Nat.zero_add]) h.len;have h2:=hc.len
 have h3:headW w=true:=by
  unfold headW;rw[h.net,h.time,h.len,h.trs,h.ill,qw];rw[qg (p:=ill<_) hill.2,qg (p:=ill>=0) hill.1,qg (p:=1<=c.length) h2.1,qg (p:=c.length<=10) h2.2,qg (p:=c.length=c.length) rfl];rfl
 unfold checkW;rw[h3,h.trs,h1];rfl
theorem jlT{w:Wld}(h:i<w.nodes.length):thereW w (i:Int)=true:=by
 unfold thereW;rw[qg (p:=(i:Int)>=0) zo,qg (p:=(i:Int)<w.nodes.length) zo];rfl
theorem FW.node{c:List Mem}{GS:Nat->Slt->Prop}{w:Wld}(h:FW c ill GS w){p q:Ptc}(hp:w.nodes[i]?=some p)(hq:PI q)(hf:FN c GS i q):FW c ill GS (withW w q):=by
 have h1:=h.nd i p hp;have hlt:=(List.getElem?_eq_some_iff.1 hp).1;refine⟨jdL h.wi hp hq (hf.node.trans h1.node.symm),h.time,h.net,h.ill,h.trs,by rw[<-h.len];simp[withW],λj x hx=>?_⟩;rw[jbW hf.node hlt] at hx;split at hx
 ·rename_i e;subst e;cases hx;exact hf
 ·exact h.nd j x hx
theorem jAf{w:Wld}{s:Sp}(h:checkW w=true)(hk:s.kind=8)(ht:thereW w s.node=true):doW w s=nodeW w s (λp=>prefP p s.slot s.val w.time):=by
 unfold doW;rw[qe (by rw[h];decide),qe zo,qe (λhh=>by rw[ht] at hh;cases hh.2),qe zo,qe zo,qe zo,qe zo,qe zo,qf hk]
theorem jAm{w:Wld}{s:Sp}(h:checkW w=true)(hk:s.kind=2)(hn:1<=s.count/\s.count<=200):doW w s=ticksW s.count.toNat w:=by
 unfold doW;rw[qe (by rw[h];decide),qe zo,qe (λhh=>hh.1.1 hk),qf hk,qe zo]
theorem jvc{w:Wld}{s:Sp}{f:Ptc->Ptc × Int}{p:Ptc}(hsk:sickV w s.node=false)(hp:w.nodes[s.node.toNat]?=some p):nodeW w s f=if ¬(f p).2=0 then (zWld,(f p).2) else (withW w (f p).1,0):=by
 unfold nodeW;rw[qe (by rw[hsk];decide),hp]
theorem juB{c:List Mem}{GS:Nat->Slt->Prop}(hc:CfgOk c)(hg:GSok c GS)(hill:0<=ill/\ill<(2^c.length:Nat)){w:Wld}(h:FW c ill GS w)(hi:i<c.length)(hsk:sickV w (i:Int)=false)(v:Str) :
 ∃p,w.nodes[i]?=some p/\doW w (prefSp v (i:Int))=(if ¬(prefP p 1 v 0).2=0 then (zWld,(prefP p 1 v 0).2) else (withW w (prefP p 1 v 0).1,0)):=by
 obtain⟨p,hp⟩:∃p,w.nodes[i]?=some p:=⟨_,ze (by rw[h.len];exact hi)⟩
 refine⟨p,hp,?_⟩;rw[jAf (h.check hc hg hill) rfl (jlT (by rw[h.len];exact hi)),jvc (p:=p) hsk hp,h.time];rfl
theorem juO{p:Ptc}{v:Str}(hck:checkP p=true)(hst:p.stopped=false)(hs:p.slots=[])(ht:sizeT p.t<=100000)(hn:(newS p.node 1 p.t v 0).2=0)(hp:(prefS' (newS p.node 1 p.t v 0).1 v).2=0) :
 prefP p 1 v 0=({ p with slots:=[(prefS' (newS p.node 1 p.t v 0).1 v).1] },0):=by
 have h1:thereP p 1=false:=by unfold thereP;rw[hs];rfl
 have h2:atP p 1=0:=by unfold atP;rw[hs];rfl
 have hb:beginG p 1 v 0=({ p with slots:=[(newS p.node 1 p.t v 0).1] },0):=by
  unfold beginG;rw[qe (by rw[h1];decide),qe (by rw[hs];decide),qe (λh=>h hn),h2,hs];rfl
 have hr:readyP p 1 v 0=({ p with slots:=[(newS p.node 1 p.t v 0).1] },0):=by unfold readyP;rw[qe (by rw[h1];decide),hb]
 have hsl:=(jkN ht hn).1
 have ha:atP { p with slots:=[(newS p.node 1 p.t v 0).1] } 1=0:=by
  show posG (ltSl 1) [(newS p.node 1 p.t v 0).1]=0;unfold posG ltSl;rw[hsl];rfl
 unfold prefP;rw[qe (by rw[hck];decide),qe (by rw[hst];decide),hr,qe (by simp)];unfold onP;simp only[ha];show withP _ 0 (prefS' (newS p.node 1 p.t v 0).1 v)=_;unfold withP;rw[qe (λh=>h hp)];rfl
section
variable{v:Str}
theorem jyX(h:1<=v.size/\v.size<=200):valN v=true:=by
 unfold valN;rw[qg zo,qg zo];rfl
theorem jg6(hv:1<=v.size/\v.size<=200){l:List Str}(h:OneV v l):plainN l=true:=by
 rcases h with rfl | rfl
 ·rfl
 ·unfold plainN plnGo plnGo
  rw[jyX hv];rfl
theorem jub(x:Str):hasN [x] x=true:=by simp[hasN]
theorem jrU(hv:1<=v.size/\v.size<=200){n:Nmr}(h:OneN v n)(hr:rngN n=true)(ht:validT n.t=0)(hh:nhGo n none n.heard=true):validNr n=true:=by
 unfold validNr lstN;rw[hr,hh,jg6 hv h.votes,jg6 hv h.accs,jg6 hv h.confs,qg ht,h.own,qg (p:=(v.size:Int)<=200) zo]
 have:n.confs.all (hasN n.accs)=true:=by
  rcases h.ca with hc | hc
  ·rw[hc];rfl
  ·rw[hc]
   exact List.all_eq_true.2 λx hx=>by rw[h.confs.mem hx];exact jub v
 rw[this];rfl
theorem jok{t:Trust}(hk:k<10)(ht:validT t=0)(hv:v.size<=200):(startN k 1 t v).2=0:=by
 unfold startN;rw[qe zo,qe zo,qe (λh=>h ht),qe zo]
theorem ju5{t:Trust}(hk:k<10)(ht:validT t=0)(hv:v.size<=200):(startN k 1 t v).1={ settleN (newN k 1 t v) (newN k 1 t v) with seq:=1 }:=by
 unfold startN;rw[qe zo,qe zo,qe (λh=>h ht),qe zo]
theorem jmt{t:Trust}(hk:k<10)(ht:validT t=0):newV k 1 t=(⟨k,1,0,t,1,Bal.none,Bal.none,Bal.none,Bal.none,0,0,noS,[]⟩,0):=by
 unfold newV;rw[qe zo,qe zo,qe (λh=>h ht)]
def m0(k:Nat)(t:Trust):Mach:=⟨k,1,0,t,1,Bal.none,Bal.none,Bal.none,Bal.none,0,0,noS,[]⟩
theorem jn6{t:Trust}(hk:k<10)(ht:validT t=0):checkM (m0 k t)=true:=by
 unfold checkM headM heardM m0 heardGo;simp only[ht];rw[qg (p:=(0:Int)<=(k:Int)) zo,qg (p:=(k:Int)<10) zo,qf jaR];have h9:noS.size<=200:=by decide
 simp[freshM,jaR,h9]
theorem jeg{t:Trust}(hv:1<=v.size):propM (m0 k t) v={ m0 k t with prop:=v,bal:=⟨1,v⟩,seq:=1 }:=by
 unfold propM;rw[qf (show zB (m0 k t).bal=true from jaR)]
 have:valM { m0 k t with prop:=v }=v:=by
  unfold valM;rw[qe (by show ¬(!zB Bal.none)=true;rw[jaR];decide),qe (by show ¬(!decide ((1:Int)=1))=true;decide),qf (by show (!decide (v=noS))=true;rw[qz (jz8 hv)];rfl)]
 rw[this]
theorem joa{m:Mach}(hc:checkM m=true)(hv:1<=v.size/\v.size<=200):propV m v=(numM m (propM m v),0):=by
 unfold propV;rw[qe (by rw[hc];decide),qe zo]
theorem jpS{t:Trust}(hk:k<10)(ht:validT t=0)(hv:1<=v.size/\v.size<=200)(hc1:checkM (numM (m0 k t) (propM (m0 k t) v))=true)(hp1:(numM (m0 k t) (propM (m0 k t) v)).prop=v) :
 ∃m d x,newS k 1 t v 0=(⟨(startN k 1 t v).1,m,⟨0,-1⟩,1,2,d,x⟩,0)/\(m=m0 k t\/m=numM (m0 k t) (propM (m0 k t) v))/\d=(dcdV m).2/\x=(dcdV m).1:=by
 have hso:=jok (v:=v) hk ht hv.2
 have hn:newS k 1 t v 0=(setS ⟨(startN k 1 t v).1,m0 k t,⟨0,-1⟩,1,2,false,noS⟩,0):=by
  unfold newS;rw[qe zo,jmt hk ht,qe (by simp),qe (λh=>h hso)];rfl
 refine⟨setM ⟨(startN k 1 t v).1,m0 k t,⟨0,-1⟩,1,2,false,noS⟩,_,_,hn,?_,rfl,rfl⟩;have ho:=jkl (node:=(k:Int)) (slot:=1) hso;unfold setM;split
 ·rename_i hc
  have h1:=hc.1;simp only[wantS,qh] at h1;have h2:=jnD ho.confs h1.1.1.1
  right
  show (propV (m0 k t) (compN (startN k 1 t v).1.confs).1).1=_;rw[h2,joa (jn6 hk ht) hv]
 ·exact .inl rfl
theorem jkX{s:Slt}(hm:checkM s.mach=true)(hn:validNr s.nom=true)(h1:s.nom.node=s.mach.node)(h2:s.nom.slot=s.mach.slot)(h3:s.nom.t=s.mach.t)(h4:vTm s.tm=true)(h5:1<=s.round/\s.round<=1000)(h6:0<=s.next/\s.next<=212)(h7:s.done=(dcdV s.mach).2)(h8:s.value=(dcdV s.mach).1):checkS s=true:=by
 unfold checkS chk1S chk2S;rw[hm,hn,qg h1,qg h2,h3,jfy,h4,qg (p:=s.round>=1) h5.1,qg h5.2,qg (p:=s.next>=0) h6.1,qg h6.2,qg h7,qg h8];rfl
end
section
variable{c:List Mem}{S:Nat}{v:Str}
end
section
variable{c:List Mem}{S:Nat}{v:Str}
theorem js8{p:Ptc}{s:Slt}(hs:p.slots=[s])(h1:s.mach.slot=1):atP p 1=0:=by
 unfold atP;rw[hs];unfold posG ltSl;rw[h1];rfl
theorem jrs{p:Ptc}{s:Slt}(hs:p.slots=[s])(h1:s.mach.slot=1):thereP p 1=true:=by
 unfold thereP;rw[js8 hs h1,hs];exact qg h1
theorem jfY{p:Ptc}(hs:p.slots=[]):lettersP p=[]:=by
 unfold lettersP;split
 ·rfl
 ·rw[hs];rfl
theorem jux{p:Ptc}{k:Int}(h:∀s∈p.slots,s.done=false):(decidedP p k).2=false:=by
 unfold decidedP;split
 ·rfl
 ·cases hx:p.slots[atP p k]? with
  | none=>rfl
  | some s =>
   simp only;rw[h s (qk hx),qB,qe zd]
end
end Go.Tq
