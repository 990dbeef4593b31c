/- What the functions of the thresholds compute, in plain Lean, and the laws of that. No condition beyond what each theorem says. -/
import Derived.Test.YtgmpjpaekpefdaaGreatTqS
namespace Go.Tq
open Go Go.Av
set_option linter.unusedVariables false
set_option linter.unusedSimpArgs false
variable{m d:Mach}{e:Evp}{now n:Int}{t q k A L:Nat}{v:Str}{p p':Ptc}{V:List Mem}{s':Slt}{x:Pcl}{P:Nat->Mach->Prop}{X:Int->Prop}
theorem jeq{e x:Evp}:∀{l:List Evp},x∈insE e l->x=e\/x∈l
 | [],h=>.inl (by simpa[insE] using h)
 | y::r,h=>by
  unfold insE at h;split at h
  ·rcases zf h with h | h
   ·exact .inl h
   ·exact .inr h
  ·rcases zf h with h | h
   ·exact .inr (by rw[h];exact za)
   ·rcases jeq h with h | h
    ·exact .inl h
    ·exact .inr (qj _ h)
theorem jb0{x:Evp}(h:x∈allM m):x=sayR m\/x∈m.heard:=by
 unfold allM at h;split at h
 ·exact .inr h
 ·exact jeq h
section
variable{c:List Mem}{ill i:Nat}{F G:Nat->Int->Str->Prop}
end
theorem jbH{b:Bal}(h:1<=b.n):zB b=false:=by
 unfold zB;rw[qz (p:=b.n=0) zo];rfl
section
variable{c:List Mem}{ill i:Nat}{F:Nat->Int->Str->Prop}
end
section
variable{c:List Mem}{ill i:Nat}{F:Nat->Int->Str->Prop}
end
section
variable{c:List Mem}{ill i:Nat}{F:Nat->Int->Str->Prop}
end
section
variable{c:List Mem}{ill i:Nat}{F:Nat->Int->Str->Prop}
end
section
variable{c:List Mem}{ill:Nat}
end
theorem jlh{w:Wld}:∀(l:List Ptc)(i:Nat)(o:Otc),o∈otcGo w l i->∃(j:Nat) (p:Ptc),l[j]?=some p/\o.node=((i+j:Nat):Int)/\sickV w ((i+j:Nat):Int)=false/\(decidedP p o.slot).2=true/\o.val=(decidedP p o.slot).1
 | [],i,o,h=>qp h qv
 | p::r,i,o,h=>by
  unfold otcGo at h;rcases zk h with h | h
  ·obtain⟨s,hs,h1⟩:=List.mem_flatMap.1 h
   unfold otcS at h1;split at h1
   ·rename_i h2
    rw[qh,Bool.not_eq_true'] at h2;obtain rfl:=zl h1;exact⟨0,p,rfl,rfl,h2.2,h2.1,rfl⟩
   ·cases h1
  ·obtain⟨j,q,h1,h2⟩:=jlh r (i+1) o h
   rw[show i+1+j=i+(j+1) by omega] at h2;exact⟨j+1,q,h1,h2⟩
theorem jkV{set:Int}{a:Otc}:∀(l:List Otc),(∀b∈l,divB set a b=false)->divIn set a l []=[]
 | [],_=>rfl
 | b::r,h=>by
  unfold divIn;rw[qe (λh'=>by rw[h b (za)] at h';exact qp h'.1 zd)];exact jkV r λx hx=>h x (qj _ hx)
theorem jlX{set:Int}:∀(l:List Otc),(∀a∈l,∀b∈l,divB set a b=false)->divGo set l []=[]
 | [],_=>rfl
 | a::r,h=>by
  unfold divGo;rw[jkV r λb hb=>h a (za) b (qj _ hb)];exact jlX r λx hx y hy=>h x (qj _ hx) y (qj _ hy)
theorem jn5{α:Type}{lt eq:α->Bool}{x:α}:insG lt eq x []=[x]:=rfl
theorem jll{α:Type}{lt eq:α->Bool}{x y:α}{r:List α}:insG lt eq x (y::r)=if lt y=true then y::insG lt eq x r else if eq y=true then y::r else x::y::r:=by
 unfold insG
 by_cases h:lt y=true
 ·rw[qf h]
  have e:posG lt (y::r)=posG lt r+1:=by rw[posG,qf h]
  rw[e,List.getElem?_cons_succ];simp only[List.take_succ_cons,List.drop_succ_cons];cases hx:r[posG lt r]? with
  | none=>simp
  | some z=>by_cases hz:eq z=true<;>simp[hz]
 ·rw[qe h]
  have e:posG lt (y::r)=0:=by rw[posG,qe h]
  rw[e];simp
theorem jf9{α:Type}{lt eq:α->Bool}{x:α}(he:∀y,eq y=true->y=x){y:α}:∀{l:List α},y∈insG lt eq x l↔y=x\/y∈l
 | []=>by rw[jn5];simp
 | z::r=>by
  rw[jll];split
  ·rw[List.mem_cons,jf9 he,List.mem_cons]
   constructor
   ·rintro(h | h | h)
    ·exact .inr (.inl h)
    ·exact .inl h
    ·exact .inr (.inr h)
   ·rintro(h | h | h)
    ·exact .inr (.inl h)
    ·exact .inl h
    ·exact .inr (.inr h)
  ·split
   ·rename_i h
    have:=he z h;subst this;rw[List.mem_cons];constructor
    ·rintro(h | h)
     ·exact .inl h
     ·exact .inr (.inr h)
    ·rintro(h | h | h)
     ·exact .inl h
     ·exact .inl h
     ·exact .inr h
   ·rw[List.mem_cons]
theorem jhs{q:List Int}{x:Int}:x∈intoI q n↔x=n\/x∈q:=jf9 (λy h=>qc h)
theorem jrE{q:List Str}{n x:Str}:x∈intoS q n↔x=n\/x∈q:=jf9 (λy h=>qc h)
theorem jka{a b:Bal}(h:beqB a b=true):a=b:=by
 simp only[beqB,qh,qo] at h;exact jfF h.1 h.2
theorem jsZ{q:List Bal}{b x:Bal}:x∈intoV q b↔(x=b/\zB b=false)\/x∈q:=by
 unfold intoV;split
 ·rename_i h;simp[h]
 ·rename_i h
  rw[jf9 (λy h=>jka h)];simp[h]
theorem jlG{x:Bal}:∀(ys:List Bal)(q:List Bal),x∈ys.foldl intoV q↔(x∈ys/\zB x=false)\/x∈q
 | [],q=>by simp
 | y::r,q=>by
  rw[List.foldl_cons,jlG r,jsZ,List.mem_cons];constructor
  ·rintro(⟨h,h2⟩ | ⟨h,h2⟩ | h)
   ·exact .inl ⟨.inr h,h2⟩
   ·exact .inl ⟨.inl h,by rw[h];exact h2⟩
   ·exact .inr h
  ·rintro(⟨h | h,h2⟩ | h)
   ·exact .inr (.inl ⟨h,by rw[<-h];exact h2⟩)
   ·exact .inl ⟨h,h2⟩
   ·exact .inr (.inr h)
theorem jen{x:Bal}:∀(l:List Evp)(q:List Bal),x∈ballotsGo l q↔(∃e∈l,vE e=true/\x∈ownB e/\zB x=false)\/x∈q
 | [],q=>by simp[ballotsGo]
 | e::r,q=>by
  rw[ballotsGo,jen r];simp only[List.mem_cons,exists_eq_or_imp];split
  ·rename_i hv
   rw[jlG];constructor
   ·rintro(h | h | h)
    ·exact .inl (.inr h)
    ·exact .inl (.inl ⟨hv,h⟩)
    ·exact .inr h
   ·rintro((h | h) | h)
    ·exact .inr (.inl h.2)
    ·exact .inl h
    ·exact .inr (.inr h)
  ·rename_i hv
   simp[hv]
theorem jc1{x:Bal}{l:List Evp}:x∈ballotsV l↔∃e∈l,vE e=true/\x∈ownB e/\zB x=false:=by
 unfold ballotsV;rw[jen];simp
theorem jfO{v:Str}{x:Int}:∀(l:List Evp)(q:List Int),x∈boundsGo v l q↔(∃e∈l,vE e=true/\e.bal.v=v/\¬e.low=0/\(x=e.low\/x=e.high))\/x∈q
 | [],q=>by simp[boundsGo]
 | e::r,q=>by
  rw[boundsGo,jfO r];simp only[List.mem_cons,exists_eq_or_imp];split
  ·rename_i hv
   simp only[qh,qo,Bool.not_eq_true',decide_eq_false_iff_not] at hv;rw[jhs,jhs];constructor
   ·rintro(h | h | h | h)
    ·exact .inl (.inr h)
    ·exact .inl (.inl ⟨hv.1,hv.2.1,hv.2.2,.inr h⟩)
    ·exact .inl (.inl ⟨hv.1,hv.2.1,hv.2.2,.inl h⟩)
    ·exact .inr h
   ·rintro((⟨_,_,_,h | h⟩ | h) | h)
    ·exact .inr (.inr (.inl h))
    ·exact .inr (.inl h)
    ·exact .inl h
    ·exact .inr (.inr (.inr h))
  ·rename_i hv
   simp only[qh,qo,Bool.not_eq_true',decide_eq_false_iff_not,not_and] at hv;constructor
   ·rintro(h | h)
    ·exact .inl (.inr h)
    ·exact .inr h
   ·rintro((⟨h1,h2,h3,_⟩ | h) | h)
    ·exact qp h3 (hv h1 h2)
    ·exact .inl h
    ·exact .inr h
theorem jbI{x:Int}{l:List Evp}:x∈boundsV l v↔∃e∈l,vE e=true/\e.bal.v=v/\¬e.low=0/\(x=e.low\/x=e.high):=by
 unfold boundsV;rw[jfO];simp
theorem jfM{x:Str}:∀(l:List Evp)(q:List Str),x∈valuesGo l q↔(∃e∈l,vE e=true/\x=e.bal.v)\/x∈q
 | [],q=>by simp[valuesGo]
 | e::r,q=>by
  rw[valuesGo,jfM r];simp only[List.mem_cons,exists_eq_or_imp];split
  ·rename_i hv
   rw[jrE];constructor
   ·rintro(h | h | h)
    ·exact .inl (.inr h)
    ·exact .inl (.inl ⟨hv,h⟩)
    ·exact .inr h
   ·rintro((h | h) | h)
    ·exact .inr (.inl h.2)
    ·exact .inl h
    ·exact .inr (.inr h)
  ·rename_i hv
   simp[hv]
theorem jdJ{x:Str}{l:List Evp}:x∈valuesV l↔∃e∈l,vE e=true/\x=e.bal.v:=by
 unfold valuesV;rw[jfM];simp
theorem jcn{n:Int}:∀{q:List Int},q.Pairwise (·<·)->(intoI q n).Pairwise (·<·)
 | [],_=>by unfold intoI;rw[jn5];simp
 | x::r,h=>by
  unfold intoI;rw[jll];rw[List.pairwise_cons] at h;split
  ·rename_i h1
   have h1:=qc h1;rw[List.pairwise_cons];refine⟨λy hy=>?_,jcn h.2⟩;rcases jhs.1 hy with rfl | hy
   ·exact h1
   ·exact h.1 y hy
  ·rename_i h1
   have h1:¬x<n:=λh'=>h1 (qg h');split
   ·exact List.pairwise_cons.2 h
   ·rename_i h2
    have h2:¬x=n:=λh'=>h2 (qg h');refine List.pairwise_cons.2 ⟨λy hy=>?_,List.pairwise_cons.2 h⟩;rcases zf hy with rfl | hy
    ·omega
    ·have:=h.1 y hy;omega
theorem jdr{v:Str}:∀(l:List Evp)(q:List Int),q.Pairwise (·<·)->(boundsGo v l q).Pairwise (·<·)
 | [],q,h=>h
 | e::r,q,h=>by
  rw[boundsGo];apply jdr r;split
  ·exact jcn (jcn h)
  ·exact h
theorem jeO(l:List Evp)(v:Str):(boundsV l v).reverse.Pairwise (λa b=>b<a):=List.pairwise_reverse.2 (jdr l [] List.Pairwise.nil)
theorem jkL{node:Int}{t:Trust}{l:List Evp}{v:Str}{hi:Int}:∀(ns:List Int)(f:Int),(∀x∈ns,x<=hi)->f<=hi->finLow node t l v hi ns f<=hi
 | [],f,_,hf=>hf
 | n::r,f,h,hf=>by
  rw[finLow];split
  ·exact jkL r n (λx hx=>h x (qj _ hx)) (h n (za))
  ·exact hf
theorem jtN{node:Int}{t:Trust}{l:List Evp}(ns:List Int):ns.Pairwise (λa b=>b<a)->(finGo node t l v ns).2.2=true->(finGo node t l v ns).1<=(finGo node t l v ns).2.1:=by
 induction ns with
 | nil=>intro _ h;cases h
 | cons n r ih =>
  intro hs h;have hs:=List.pairwise_cons.1 hs;cases hc:cnf26 node t l v n n with
  | true =>
   rw[jjU hc];exact jkL r n (λx hx=>Int.le_of_lt (hs.1 x hx)) (Int.le_refl _)
  | false =>
   rw[jjD hc] at h ⊢;exact ih hs.2 h
theorem jom{node:Int}{t:Trust}{l:List Evp}(h:(finalB node t l v).2.2=true):(finalB node t l v).1<=(finalB node t l v).2.1:=jtN _ (jeO l v) h
theorem jnW{node:Int}{t:Trust}{l:List Evp}{v:Str}:∀(ns:List Int)(lh:Int × Int),lh.1<=lh.2->(extGo node t l v ns lh).1<=(extGo node t l v ns lh).2/\lh.2<=(extGo node t l v ns lh).2
 | [],lh,h=>⟨h,Int.le_refl _⟩
 | n::r,lh,h=>by
  have hd:=jdN node t l v n n;rw[extGo];split
  ·split
   ·simp only
    split<;>omega
   ·exact jnW r lh h
  ·exact⟨h,Int.le_refl _⟩
theorem jkr{node:Int}{t:Trust}{l:List Evp}{v:Str}:∀(ns:List Int)(lh:Int × Int),(∀x∈ns,1<=x/\x<=1000)->1<=lh.1->1<=(extGo node t l v ns lh).1
 | [],lh,_,h=>h
 | n::r,lh,h,hl=>by
  have hn:=h n (za);have hd:=jdN node t l v n n;rw[extGo];split
  ·split
   ·simp only
    split<;>omega
   ·exact jkr r lh (λx hx=>h x (qj _ hx)) hl
  ·exact hl
theorem jwu:∀l:List UInt8,Op.bytesLess l l=false
 | []=>rfl
 | a::r=>by
  show (decide (a<a)||(a == a&&Op.bytesLess r r))=false;rw[jwu r];simp
theorem jw5(v:Str):cV v v=0:=by
 unfold cV s3 sLt;rw[jwu,jxk rfl];simp[or3]
theorem jt0{a b:Bal}(h:a.v=b.v):lB a b=decide (a.n<b.n):=by
 rw[jk5,h,jw5];split
 ·rename_i e;rw[e];simp
 ·rfl
def OptV(v:Str)(b:Bal):Prop:=b=Bal.none\/(b.v=v/\1<=b.n)
section
variable{v:Str}
theorem OptV.pos{b:Bal}(h:OptV v b)(h1:1<=b.n):b.v=v:=by
 rcases h with rfl | h
 ·exact qp h1 zd
 ·exact h.1
theorem OptV.n0{b:Bal}(h:OptV v b):0<=b.n:=by
 rcases h with rfl | h
 ·decide
 ·omega
theorem OptV.zero{b:Bal}(h:OptV v b)(h1:b.n=0):b=Bal.none:=by
 rcases h with rfl | h
 ·rfl
 ·omega
theorem jrt{p b:Bal}(hp:OptV v p)(hb:b.v=v):abB p b=false:=by
 unfold abB;rcases hp with rfl | h
 ·rfl
 ·rw[show cB p b=true from qg (h.1.trans hb.symm)];simp
theorem jfW{p b:Bal}(hp:OptV v p)(hb:b.v=v)(h1:1<=b.n):covB p b=decide (b.n<=p.n):=by
 unfold covB;rcases hp with rfl | h
 ·rw[qz (by show ¬b.n<=0;omega)];rfl
 ·rw[jbH h.2,show cB p b=true from qg (h.1.trans hb.symm)];simp
theorem jhJ{p b:Bal}(hp:OptV v p)(hb:b.v=v)(h1:1<=b.n):prB p Bal.none b=decide (b.n<=p.n):=by
 unfold prB;rw[jfW hp hb h1];unfold covB;rw[show zB Bal.none=true from rfl];simp
theorem jwI{b:Bal}(hv:1<=v.size)(hb:b.v=v):cB Bal.none b=false:=qz (λe=>jz8 hv (hb.symm.trans e.symm))
theorem jwC{p b:Bal}(hv:1<=v.size)(hp:OptV v p)(hb:OptV v b):joinV p Bal.none b=(if p.n<b.n then b else p,Bal.none):=by
 unfold joinV;rcases hb with rfl | hb
 ·rw[qf jaR,qe (by have:=hp.n0;show ¬p.n<0;omega)]
 ·rw[qe (by rw[jbH hb.2];decide)]
  rcases hp with rfl | hp
  ·rw[qf jaR,qf (by show (0:Int)<b.n;omega)]
  ·rw[qe (by rw[jbH hp.2];decide),jt0 (hp.1.trans hb.1.symm),show cB p b=true from qg (hp.1.trans hb.1.symm),jwI hv hb.1,show cB b p=true from qg (hb.1.trans hp.1.symm)]
   by_cases h:p.n<b.n
   ·rw[qg h,qf rfl,qe zd,qe zd,qf h]
   ·rw[qz h,qe zd,qe (by simp),qe h]
theorem jru{x:Bal}(hx:OptV v x):low1 v n x=n:=by
 unfold low1;rw[jrt hx rfl,qB,qe zd]
theorem jlM{p:Bal}(hp:OptV v p):lowestV v n p Bal.none=max n 1:=by
 unfold lowestV;rw[jru hp,jru (.inl rfl)]
theorem jmy{p:Bal}(hp:OptV v p):freeV p Bal.none n v=true:=by
 unfold freeV;rw[jrt hp rfl,jrt (v:=v) (.inl rfl) rfl];rfl
theorem jii{b:Bal}(hb:OptV v b):OptV v (finB1 b)/\(finB1 b).n<=1000/\(finB1 b).n=min b.n 1000:=by
 unfold finB1;split
 ·rename_i h
  exact⟨.inr ⟨hb.pos zo,by show (1:Int)<=1000;omega⟩,by show (1000:Int)<=1000;omega,by show (1000:Int)=_;omega⟩
 ·exact⟨hb,by omega,by omega⟩
end
section
variable{v:Str}{T:Nat->Trust->Prop}
structure UE(T:Nat->Trust->Prop)(v:Str)(e:Evp):Prop where
 ok:vE e=true
 t:T e.node.toNat e.t
 slot:e.slot=1
 bal:e.bal.v=v
 prep:OptV v e.prep
 prime:e.prime=Bal.none
theorem jzw{b:Bal}(h:vB b=true):1<=b.n:=by
 simp only[vB,qh,Bool.or_eq_true,qo] at h;omega
theorem jnz(h:vE e=true):1<=e.bal.n/\(e.kind=1\/e.kind=2\/e.kind=3):=by
 unfold vE at h;rw[qh] at h;have h2:=h.2;unfold kindE at h2;split at h2
 ·rename_i hk
  unfold prepE finB at h2;simp only[qh] at h2;exact⟨jzw h2.1.1.1,.inl hk⟩
 ·split at h2
  ·rename_i hk
   unfold finB at h2;simp only[qh] at h2;exact⟨jzw h2.1.1,.inr (.inl hk)⟩
  ·split at h2
   ·rename_i hk
    simp only[qh] at h2;exact⟨jzw h2.1,.inr (.inr hk)⟩
   ·cases h2
theorem UE.balb(h:UE T v e):OptV v e.bal:=.inr ⟨h.bal,(jnz h.ok).1⟩
theorem jbu{l:List Evp}(hl:∀e∈l,UE T v e):∀b∈ballotsV l,b.v=v/\1<=b.n:=by
 intro b hb;obtain⟨e,he,h1,h2,h3⟩:=jc1.1 hb;have hu:=hl e he
 have:OptV v b:=by
  unfold ownB at h2;split at h2
  ·simp only[List.mem_cons,qv,or_false] at h2
   rcases h2 with rfl | rfl | rfl
   ·exact hu.balb
   ·exact hu.prep
   ·rw[hu.prime];exact .inl rfl
  ·simp only[List.mem_cons,qv,or_false] at h2
   rcases h2 with rfl | rfl
   ·exact hu.prep
   ·exact .inr ⟨hu.bal,by show (1:Int)<=1000000;omega⟩
 rcases this with rfl | h
 ·rw[jaR] at h3;cases h3
 ·exact h
theorem jlA{l:List Evp}(hl:∀e∈l,UE T v e):∀w∈valuesV l,w=v:=by
 intro w hw;obtain⟨e,he,_,rfl⟩:=jdJ.1 hw;exact(hl e he).bal
structure UM(T:Nat->Trust->Prop)(v:Str)(i:Nat)(m:Mach):Prop where
 inv:InvS m
 i10:i<10
 vsz:1<=v.size/\v.size<=200
 node:m.node=(i:Int)
 t:T i m.t
 vt:validT m.t=0
 slot:m.slot=1
 prop:m.prop=v
 seq:1<=m.seq
 balv:m.bal.v=v
 baln:1<=m.bal.n
 prime:m.prime=Bal.none
 p1:m.phase=1->m.high=0/\(OptV v m.prep/\m.prep.n<=1000)/\((m.conf=Bal.none/\m.low=0)\/((m.conf.v=v/\1<=m.conf.n)/\m.conf.n<=m.prep.n/\m.conf.n<=m.bal.n/\0<=m.low/\m.low<=m.conf.n))
 p2:m.phase=2->(m.prep.v=v/\1<=m.prep.n/\m.prep.n<=1000)/\(m.conf.v=v/\1<=m.conf.n)/\1<=m.low/\m.low<=m.high/\m.high<=m.prep.n
 p3:m.phase=3->m.prep=Bal.none/\m.conf=Bal.none/\1<=m.low/\m.low<=m.high
 hd:∀e∈m.heard,UE T v e
 hh:heardM m=true
theorem UM.zb{i:Nat}(h:UM T v i m):zB m.bal=false:=jbH h.baln
theorem UM.ph{i:Nat}(h:UM T v i m):m.phase=1\/m.phase=2\/m.phase=3:=h.inv.inv.ph
theorem UM.prepo{i:Nat}(h:UM T v i m):OptV v m.prep:=by
 rcases h.ph with hp | hp | hp
 ·exact(h.p1 hp).2.1.1
 ·exact .inr ⟨(h.p2 hp).1.1,(h.p2 hp).1.2.1⟩
 ·rw[(h.p3 hp).1];exact .inl rfl
theorem UM.confo{i:Nat}(h:UM T v i m):OptV v m.conf:=by
 rcases h.ph with hp | hp | hp
 ·rcases(h.p1 hp).2.2 with hc | hc
  ·rw[hc.1];exact .inl rfl
  ·exact .inr hc.1
 ·exact .inr (h.p2 hp).2.1
 ·rw[(h.p3 hp).2.1];exact .inl rfl
theorem vB_v(hv:1<=v.size/\v.size<=200)(h:1<=n/\n<=1000):vB ⟨n,v⟩=true:=by
 unfold vB;rw[qg (p:=1<=n) h.1,qg (p:=n<=1000) h.2,qg hv.1,qg hv.2];rfl
theorem jz4{b:Bal}(hv:1<=v.size/\v.size<=200)(hb:b.v=v)(h:1<=b.n/\b.n<=1000):vB b=true:=by
 cases b;simp only at hb h;subst hb;exact vB_v hv h
theorem jpC{a b:Bal}(ha:a.v=v)(hb:b.v=v):cB a b=true:=qg (ha.trans hb.symm)
theorem UM.msg_ok{i:Nat}(h:UM T v i m)(k:Int)(hk:1<=k/\k<=1000000):vE { envR m with seq:=k }=true:=by
 have hb:vB m.bal=true:=jz4 h.vsz h.balv ⟨h.baln,h.inv.inv.baln⟩;have h10:=h.i10
 have hhd:headE { envR m with seq:=k }=true:=by
  unfold headE;show (decide (0<=m.node)&&(decide (m.node<10)&&(decide (1<=m.slot)&&(decide (m.slot<=1000000)&&(decide (1<=k)&&(decide (k<=1000000)&&decide (validT m.t=0)))))))=true;rw[h.node,h.slot,qg h.vt,qg hk.1,qg hk.2,qg (p:=(0:Int)<=(i:Int)) zo,qg (p:=(i:Int)<10) zo]
  decide
 unfold vE;rw[hhd,qx];unfold kindE;rcases h.ph with hp | hp | hp
 ·rw[qf (show (envR m).kind=1 from hp)]
  have h1:=h.p1 hp;have e1:(envR m).prep=m.prep:=by show (if m.phase=1\/m.phase=2 then m.prep else Bal.none)=_;rw[qf (.inl hp)]
  have e2:(envR m).prime=Bal.none:=by show (if m.phase=1 then m.prime else Bal.none)=_;rw[h.prime];split<;>rfl
  have e3:(envR m).high=m.conf.n/\0<=m.low/\m.low<=m.conf.n/\m.conf.n<=m.bal.n/\m.conf.n<=m.prep.n:=by
   have hx:(envR m).high=if m.phase=1 then (if (!zB m.conf&&cB m.conf m.bal)=true then m.conf.n else 0) else m.high:=rfl
   rw[hx,qf hp];have hb1:=h.baln;have hp0:=h1.2.1.1.n0;rcases h1.2.2 with⟨hc,hl⟩ | ⟨hc,hr⟩
   ·rw[hc,qe (by rw[jaR];simp)]
    exact⟨rfl,by omega,by show m.low<=0;omega,by show (0:Int)<=_;omega,hp0⟩
   ·rw[jbH hc.2,jpC hc.1 h.balv,qf (show (!false&&true)=true from rfl)]
    exact⟨rfl,hr.2.2.1,hr.2.2.2,hr.2.1,hr.1⟩
  have hpo:optB m.prep=true:=by
   unfold optB;rcases h1.2.1.1 with hz | hz
   ·rw[hz];rfl
   ·rw[jz4 h.vsz hz.1 ⟨hz.2,h1.2.1.2⟩,Bool.or_true]
  unfold prepE finB
  show ((vB m.bal&&decide (m.bal.n<=1000))&&(optB (envR m).prep&&(optB (envR m).prime&&((zB (envR m).prime||_)&&(decide (0<=m.low)&&(decide (m.low<=(envR m).high)&&decide ((envR m).high<=m.bal.n))))))
   && ((decide ((envR m).high=0)||prB (envR m).prep (envR m).prime ⟨(envR m).high,m.bal.v⟩)&&(decide (m.low=0)||(!abB (envR m).prep ⟨m.low,m.bal.v⟩&&!abB (envR m).prime ⟨m.low,m.bal.v⟩))))=true
  rw[e1,e2,e3.1,hb,hpo,qg h.inv.inv.baln,qg e3.2.1,qg e3.2.2.1,qg e3.2.2.2.1,jrt h1.2.1.1 (by show m.bal.v=v;exact h.balv),jrt (v:=v) (.inl rfl) (by show m.bal.v=v;exact h.balv)]
  have:(decide (m.conf.n=0)||prB m.prep Bal.none ⟨m.conf.n,m.bal.v⟩)=true:=by
   by_cases hz:m.conf.n=0
   ·rw[qg hz];rfl
   ·rw[jhJ (b:=⟨m.conf.n,m.bal.v⟩) h1.2.1.1 h.balv (by have:=e3.2.1;have:=e3.2.2.1;show 1<=m.conf.n;omega),qg (p:=(⟨m.conf.n,m.bal.v⟩:Bal).n<=m.prep.n) e3.2.2.2.2,Bool.or_true]
  rw[this];simp[optB,jaR]
 ·rw[qe (show ¬(envR m).kind=1 by show ¬m.phase=1;omega),qf (show (envR m).kind=2 from hp)]
  have h2:=h.p2 hp;have e1:(envR m).prep=m.prep:=by show (if m.phase=1\/m.phase=2 then m.prep else Bal.none)=_;rw[qf (.inr hp)]
  have e2:(envR m).prime=Bal.none:=by show (if m.phase=1 then m.prime else Bal.none)=_;rw[h.prime];split<;>rfl
  have e3:(envR m).high=m.high:=by show (if m.phase=1 then _ else m.high)=_;rw[qe zo]
  unfold finB rngE;show ((vB m.bal&&decide (m.bal.n<=1000))&&(vB (envR m).prep&&(cB (envR m).prep m.bal&&(zB (envR m).prime&&((decide (1<=m.low)&&(decide (m.low<=(envR m).high)&&decide ((envR m).high<=1000)))&&decide ((envR m).high<=(envR m).prep.n))))))=true;rw[e1,e2,e3,hb,qg h.inv.inv.baln,jz4 h.vsz h2.1.1 h2.1.2,jpC h2.1.1 h.balv,jaR,qg h2.2.2.1,qg h2.2.2.2.1,qg h2.2.2.2.2,qg h.inv.inv.high.2];rfl
 ·rw[qe (show ¬(envR m).kind=1 by show ¬m.phase=1;omega),qe (show ¬(envR m).kind=2 by show ¬m.phase=2;omega),qf (show (envR m).kind=3 from hp)]
  have h3:=h.p3 hp;have e1:(envR m).prep=Bal.none:=by show (if m.phase=1\/m.phase=2 then m.prep else Bal.none)=_;rw[qe zo]
  have e2:(envR m).prime=Bal.none:=by show (if m.phase=1 then m.prime else Bal.none)=_;rw[h.prime];split<;>rfl
  have e3:(envR m).high=m.high:=by show (if m.phase=1 then _ else m.high)=_;rw[qe zo]
  unfold rngE;show (vB m.bal&&(zB (envR m).prep&&(zB (envR m).prime&&(decide (1<=m.low)&&(decide (m.low<=(envR m).high)&&decide ((envR m).high<=1000))))))=true;rw[e1,e2,e3,hb,jaR,qg h3.2.2.1,qg h3.2.2.2,qg h.inv.inv.high.2];rfl
theorem UM.msg_env{i:Nat}(h:UM T v i m):msgM m=envR m:=by
 unfold msgM envR;rcases h.ph with hp | hp | hp
 ·rw[qf (show m.phase=1\/m.phase=2 from .inl hp),qf hp,qf hp]
 ·rw[qf (show m.phase=1\/m.phase=2 from .inr hp),qe (show ¬m.phase=1 by omega),qe (show ¬m.phase=1 by omega),h.prime]
 ·rw[qe (show ¬(m.phase=1\/m.phase=2) by omega),qe (show ¬m.phase=1 by omega),qe (show ¬m.phase=1 by omega),h.prime,(h.p3 hp).1]
theorem UM.say_env{i:Nat}(h:UM T v i m):sayR m=envR m:=by
 unfold sayR;rw[show max m.seq 1=m.seq by have:=h.seq;omega];rfl
theorem UM.env_ue{i:Nat}(h:UM T v i m):UE T v (envR m):=by
 have hn:(envR m).node.toNat=i:=by show m.node.toNat=i;rw[h.node];rfl
 refine⟨h.msg_ok m.seq ⟨h.seq,h.inv.seq.2⟩,by rw[hn];exact h.t,h.slot,h.balv,?_,?_⟩
 ·show OptV v (if m.phase=1\/m.phase=2 then m.prep else Bal.none)
  split
  ·exact h.prepo
  ·exact .inl rfl
 ·show (if m.phase=1 then m.prime else Bal.none)=_
  rw[h.prime];split<;>rfl
theorem UM.all{i:Nat}(h:UM T v i m):∀e∈allM m,UE T v e:=by
 intro e he;rcases jb0 he with rfl | he
 ·rw[h.say_env];exact h.env_ue
 ·exact h.hd e he
theorem UM.check{i:Nat}(h:UM T v i m):checkM m=true:=by
 have h10:=h.i10;have hq:=h.inv.seq
 have hhead:headM m=true:=by
  unfold headM;rw[h.node,h.slot,h.hh,qg h.vt,h.prop,qg (p:=v.size<=200) h.vsz.2,qg (p:=(0:Int)<=(i:Int)) zo,qg (p:=(i:Int)<10) zo,qg (p:=0<=m.seq) zo,qg (p:=m.seq<=1000000) zo]
  decide
 have hE:vE (msgM m)=true:=by rw[h.msg_env];exact h.env_ue.ok
 have hC:confM m=true:=by
  unfold confM;rcases h.confo with hc | hc
  ·rw[hc,qf jaR]
  ·rw[qe (by rw[jbH hc.2];decide),qe (by rw[jz4 h.vsz hc.1 ⟨hc.2,h.inv.inv.confn⟩,qz (by have:=h.inv.inv.confn;omega)];decide)]
   rcases h.ph with hp | hp | hp
   ·rcases(h.p1 hp).2.2 with⟨h0,_⟩ | ⟨h1,h2,_⟩
    ·rw[h0] at hc;exact qp hc.2 zd
    ·rw[h.prime,jhJ h.prepo h1.1 h1.2,qg h2];rfl
   ·rw[jpC hc.1 h.balv,qz (p:=m.phase=1) zo];simp
   ·rw[jpC hc.1 h.balv,qz (p:=m.phase=1) zo];simp
 unfold checkM;rw[hhead,qe (by rw[h.zb];decide),hE,hC,h.prime,jaR];rcases h.ph with hp | hp | hp
 ·rw[(h.p1 hp).1,hp];rfl
 ·rw[hp];rfl
 ·rw[(h.p3 hp).1,hp];rfl
end
theorem jfG{m d:Mach}(h1:d.slot=m.slot)(h2:d.node=m.node):∀(l:List Evp)(p:Option Int),heardGo d p l=heardGo m p l
 | [],p=>rfl
 | e::r,p=>by
  cases p<;>simp only[heardGo,h1,h2,jfG h1 h2 r]
theorem jg9(h1:d.slot=m.slot)(h2:d.node=m.node)(h3:d.heard=m.heard):heardM d=heardM m:=by
 unfold heardM;rw[h3,jfG h1 h2]
theorem jhu{m:Mach}:∀{l:List Evp}{p:Option Int},heardGo m p l=true->∀e∈l,vE e=true/\e.slot=m.slot/\¬e.node=m.node
 | [],_,_,e,he=>qp he qv
 | x::r,p,h,e,he=>by
  have h':(vE x=true/\x.slot=m.slot/\¬x.node=m.node)/\heardGo m (some x.node) r=true:=by
   cases p<;>simp only[heardGo,qh,qo,Bool.not_eq_true',decide_eq_false_iff_not] at h<;>exact⟨⟨h.1.1,h.1.2.1,h.1.2.2.1⟩,h.2⟩
  rcases zf he with rfl | he
  ·exact h'.1
  ·exact jhu h'.2 e he
section
variable{v:Str}{T:Nat->Trust->Prop}{i:Nat}
theorem UM.own(h:UM T v i m)(he:e∈allM m)(hn:e.node.toNat=i):e=envR m:=by
 rcases jb0 he with rfl | he
 ·exact h.say_env
 ·have h1:=jhu (show heardGo m none m.heard=true from h.hh) e he
  have h2:=(jcx h1.1).1;have h3:=h.node;exact qp (show e.node=m.node by omega) h1.2.2
theorem UM.own_in(h:UM T v i m){p:Evp->Bool}(hs:(setP p (allM m)).testBit i=true):p (envR m)=true:=by
 obtain⟨e,he,⟨h1,_⟩,h2⟩:=jbL.1 hs;rw[h.own he h2] at h1;exact h1
theorem UM.has_own(h:UM T v i m){p:Evp->Bool}(hs:has (great V (setP p (allM m):Nat):Nat) m.node=true):p (envR m)=true:=by
 have hl:=jbh p (allM m);have h1:=((jaX (jcS V _)).1 hs).2.2;have h2:=(jbw V hl).within _ h1;have h3:=h.node;rw[show m.node.toNat=i by omega] at h2;exact h.own_in h2
theorem UM.cnf25(h:UM T v i m){b:Bal}(hc:Tq.cnf25 m.node m.t (allM m) b=true):apR (envR m) b=true:=by
 unfold Tq.cnf25 confirmsC at hc;exact h.has_own (p:=λe=>apR e b) hc
theorem UM.of(h:UM T v i m)(hi:InvM d)(hs:SameF m d)(h1:d.bal.v=v)(h2:1<=d.bal.n)(h3:d.prime=Bal.none)
 (p1:d.phase=1->d.high=0/\(OptV v d.prep/\d.prep.n<=1000)/\((d.conf=Bal.none/\d.low=0)\/((d.conf.v=v/\1<=d.conf.n)/\d.conf.n<=d.prep.n/\d.conf.n<=d.bal.n/\0<=d.low/\d.low<=d.conf.n)))
 (p2:d.phase=2->(d.prep.v=v/\1<=d.prep.n/\d.prep.n<=1000)/\(d.conf.v=v/\1<=d.conf.n)/\1<=d.low/\d.low<=d.high/\d.high<=d.prep.n)
 (p3:d.phase=3->d.prep=Bal.none/\d.conf=Bal.none/\1<=d.low/\d.low<=d.high):UM T v i d :=
 ⟨⟨hi,by rw[hs.seq];exact h.inv.seq⟩,h.i10,h.vsz,hs.node.trans h.node,by rw[hs.t];exact h.t,by rw[hs.t];exact h.vt,hs.slot.trans h.slot,hs.prop.trans h.prop,by rw[hs.seq];exact h.seq,h1,h2,h3,p1,p2,p3,
  by rw[hs.heard];exact h.hd,by rw[jg9 hs.slot hs.node hs.heard];exact h.hh⟩
theorem UM.nxt(h:UM T v i m):OptV v (prepB m)/\(prepB m).n<=1000:=by
 have:OptV v (nextV m.node m.t (allM m) m.prep m.prime (if m.phase=2 then m.bal.v else noS)):=by
  rcases jbV m.node m.t (allM m) m.prep m.prime (if m.phase=2 then m.bal.v else noS) (ballotsV (allM m)) with h1 | ⟨h1,_⟩
  ·exact .inl h1
  ·exact .inr (jbu h.all _ h1)
 have:=jii this;exact⟨this.1,this.2.1⟩
def prepN(m:Mach):Bal:=if m.prep.n<(prepB m).n then prepB m else m.prep
theorem UM.prepN(h:UM T v i m)(h1:m.prep.n<=1000):OptV v (prepN m)/\m.prep.n<=(Tq.prepN m).n/\(Tq.prepN m).n<=1000:=by
 have hn:=h.nxt;unfold Tq.prepN;split
 ·exact⟨hn.1,by omega,hn.2⟩
 ·exact⟨h.prepo,by omega,h1⟩
theorem UM.prep_le(h:UM T v i m):m.prep.n<=1000:=by
 rcases h.ph with hp | hp | hp
 ·exact(h.p1 hp).2.1.2
 ·exact(h.p2 hp).1.2.2
 ·rw[(h.p3 hp).1];decide
theorem UM.prep1(h:UM T v i m):Tq.prep1 m={ m with prep:=Tq.prepN m }:=by
 unfold Tq.prep1;rw[h.prime,jwC h.vsz.1 h.prepo h.nxt.1];rfl
theorem UM.prep_eq(h:UM T v i m)(hp:¬m.phase=3):prepM m={ m with prep:=Tq.prepN m }:=by
 have hpn:=h.prepN h.prep_le;unfold prepM;rw[qe (by rw[h.zb];simp[hp])]
 by_cases h1:m.phase=1/\¬m.low=0
 ·rw[qf h1]
  have hL:prepL m=max m.low 1:=by
   unfold prepL;rw[h.prep1,h.balv];show lowestV v m.low (Tq.prepN m) m.prime=_;rw[h.prime,jlM hpn.1]
  have hq:=(h.p1 h1.1).2.2;have hlo:1<=m.low:=by have:=h.inv.inv.low;omega
  have hE:(envR (Tq.prep1 m)).high=m.conf.n:=by
   rw[h.prep1];show (if m.phase=1 then (if (!zB m.conf&&cB m.conf m.bal)=true then m.conf.n else 0) else m.high)=_;rw[qf h1.1];rcases hq with hq | hq
   ·exact qp hq.2 h1.2
   ·rw[jbH hq.1.2,jpC hq.1.1 h.balv,qf (show (!false&&true)=true from rfl)]
  have hle:m.low<=m.conf.n:=by
   rcases hq with hq | hq
   ·exact qp hq.2 h1.2
   ·exact hq.2.2.2.2
  rw[hL,hE,qe zo,h.prep1];rw[show max m.low 1=m.low by omega]
 ·rw[qe h1];exact h.prep1
theorem UM.prepM(h:UM T v i m):UM T v i (prepM m):=by
 by_cases hp:m.phase=3
 ·have:Tq.prepM m=m:=by unfold Tq.prepM;rw[qf (.inl hp)]
  rw[this];exact h
 ·have hs:=jek h.inv.inv
  have hpn:=h.prepN h.prep_le;refine h.of hs.2.1 hs.1 ?_ ?_ ?_ ?_ ?_ ?_
  all_goals rw[h.prep_eq hp]
  ·exact h.balv
  ·exact h.baln
  ·exact h.prime
  ·intro h1
   have:=h.p1 h1;refine⟨this.1,⟨hpn.1,hpn.2.2⟩,?_⟩;rcases this.2.2 with h2 | h2
   ·exact .inl h2
   ·exact .inr ⟨h2.1,by show m.conf.n<=(Tq.prepN m).n;have:=h2.2.1;omega,h2.2.2⟩
  ·intro h1
   have:=h.p2 h1;have h3:=hpn.2.1;exact⟨⟨hpn.1.pos (by have:=this.1.2.1;omega),by show 1<=(Tq.prepN m).n;have:=this.1.2.1;omega,hpn.2.2⟩,this.2.1,this.2.2.1,this.2.2.2.1,by show m.high<=(Tq.prepN m).n;have:=this.2.2.2.2;omega⟩
  ·intro h1;exact qp h1 hp
theorem UM.confB(h:UM T v i m)(hz:zB (confB m)=false):((confB m).v=v/\1<=(Tq.confB m).n)/\(Tq.confB m).n<=1000/\m.conf.n<(Tq.confB m).n/\((m.phase=1\/m.phase=2)->(Tq.confB m).n<=m.prep.n):=by
 have hx:=jeH m.node m.t (allM m) m.conf (ballotsV (allM m));rw[show highGo m.node m.t (allM m) m.conf (ballotsV (allM m))=Tq.confB m from rfl] at hx;rcases hx with h1 | ⟨h1,h2,h3,h4⟩
 ·rw[h1,jaR] at hz;cases hz
 ·have hb:=jbu h.all _ h1
  refine⟨hb,h2,?_,λhp=>?_⟩
  ·rcases h.confo with hc | hc
   ·rw[hc];show (0:Int)<_;have:=hb.2;omega
   ·rw[jt0 (hc.1.trans hb.1.symm)] at h3
    exact qc h3
  ·have h5:=h.cnf25 h4
   unfold apR at h5;simp only[qh] at h5;have h6:=h5.2;have hk:¬(envR m).kind=3:=by show ¬m.phase=3;omega
   rw[qe hk] at h6;have e1:(envR m).prep=m.prep:=by show (if m.phase=1\/m.phase=2 then m.prep else Bal.none)=_;rw[qf hp]
   rw[e1,h.env_ue.prime,jhJ h.prepo hb.1 hb.2] at h6;exact qc h6
theorem UM.conf_eq(h:UM T v i m)(hp:m.phase=1)(hz:zB (Tq.confB m)=false) :
 confS m={ m with conf:=Tq.confB m,bal:=(if m.bal.n<(Tq.confB m).n then Tq.confB m else m.bal),low:=(if m.low=0/\m.bal.n<=(Tq.confB m).n then (Tq.confB m).n else m.low) }:=by
 obtain⟨hb,hb2,hb3,hb4⟩:=h.confB hz;unfold confS;rw[qe (by rw[h.zb];simp[hp]),qe (by rw[hz];decide)]
 have e1:conf1 m={ m with conf:=Tq.confB m,bal:=(if m.bal.n<(Tq.confB m).n then Tq.confB m else m.bal) }:=by
  unfold conf1;rw[jt0 (h.balv.trans hb.1.symm)]
  by_cases hl:m.bal.n<(Tq.confB m).n
  ·rw[qg hl,qf rfl,qf hl,jpC h.balv hb.1,qf rfl]
  ·rw[qz hl,qe zd,qe hl]
 rw[e1];unfold conf2;simp only
 have e2:cB (if m.bal.n<(Tq.confB m).n then Tq.confB m else m.bal) (Tq.confB m)=true:=by
  split
  ·exact jpC hb.1 hb.1
  ·exact jpC h.balv hb.1
 have e3:lowestV (Tq.confB m).v (if m.bal.n<(Tq.confB m).n then Tq.confB m else m.bal).n m.prep m.prime=max m.bal.n (Tq.confB m).n:=by
  rw[h.prime,hb.1,jlM h.prepo];split<;>omega
 rw[e2,e3]
 by_cases hl:m.low=0/\m.bal.n<=(Tq.confB m).n
 ·rw[qf ⟨⟨hl.1,rfl⟩,by omega⟩,qf hl,show max m.bal.n (Tq.confB m).n=(Tq.confB m).n by omega]
 ·rw[qe (λhh=>hl ⟨hh.1.1,by omega⟩),qe hl]
theorem UM.confS(h:UM T v i m):UM T v i (confS m):=by
 by_cases hp:m.phase=1
 ·cases hz:zB (Tq.confB m) with
  | true =>
   have:Tq.confS m=m:=by unfold Tq.confS;rw[qe (by rw[h.zb];simp[hp]),qf hz]
   rw[this];exact h
  | false =>
   obtain⟨hb,hb2,hb3,hb4⟩:=h.confB hz;have hs:=jey h.inv.inv;refine h.of hs.2.1 hs.1 ?_ ?_ ?_ ?_ ?_ ?_
   all_goals rw[h.conf_eq hp hz]
   ·show (if m.bal.n<(Tq.confB m).n then Tq.confB m else m.bal).v=v
    split
    ·exact hb.1
    ·exact h.balv
   ·show 1<=(if m.bal.n<(Tq.confB m).n then Tq.confB m else m.bal).n
    split
    ·exact hb.2
    ·exact h.baln
   ·exact h.prime
   ·intro _
    have h1:=h.p1 hp;refine⟨h1.1,h1.2.1,.inr ⟨hb,hb4 (.inl hp),?_,?_⟩⟩
    ·show (Tq.confB m).n<=(if m.bal.n<(Tq.confB m).n then Tq.confB m else m.bal).n
     split<;>omega
    ·show 0<=(if m.low=0/\m.bal.n<=(Tq.confB m).n then (Tq.confB m).n else m.low)/\(if m.low=0/\m.bal.n<=(Tq.confB m).n then (Tq.confB m).n else m.low)<=(Tq.confB m).n
     split
     ·omega
     ·rcases h1.2.2 with h2 | h2
      ·rw[h2.1] at hb3
       have hb3:(0:Int)<_:=hb3;omega
      ·have:=h2.2.2.2;omega
   ·intro h1;exact qp (show m.phase=2 from h1) zo
   ·intro h1;exact qp (show m.phase=3 from h1) zo
 ·have:Tq.confS m=m:=by unfold Tq.confS;rw[qf (.inl hp)]
  rw[this];exact h
end
section
variable{v:Str}{T:Nat->Trust->Prop}{i:Nat}
theorem UM.comF(h:UM T v i m)(hf:(comF m).2.2.2=true):(Tq.comF m).1=v/\1<=(Tq.comF m).2.1/\(Tq.comF m).2.1<=(Tq.comF m).2.2.1/\(Tq.comF m).2.2.1<=1000:=by
 have h1:=jos hf
 have h2:(Tq.comF m).1=v/\(Tq.comF m).2.1<=(Tq.comF m).2.2.1:=by
  unfold Tq.comF firstV at hf ⊢;split at hf
  ·cases hf
  ·rename_i hz
   rw[qe hz];rcases jmF m.node m.t (allM m) m.prep m.prime with e | ⟨a1,_⟩
   ·rw[e] at hz;exact qp jaR hz
   ·exact⟨jlA h.all _ a1,(jeo _ _ (λx hx=>jaW (allM m) _ x (List.mem_reverse.1 hx))).1⟩
 exact⟨h2.1,h1.2.1.1,h2.2,h1.2.2.1.2⟩
theorem UM.comM(h:UM T v i m):UM T v i (comM m):=by
 have hs:=jf3 h.inv.inv
 by_cases hp:m.phase=1
 ·by_cases hf:(Tq.comF m).2.2.2=true
  ·have hc:=h.comF hf
   have e:Tq.comM m={ m with bal:=(if (!cB m.bal (comB m)||lB m.bal (comB m))=true then ⟨max m.bal.n (comB m).n,(comB m).v⟩ else m.bal),prep:=(if covB m.prep (comB m)=true then m.prep else comB m),phase:=2,low:=(Tq.comF m).2.1,high:=(comB m).n,conf:=comB m,prime:=Bal.none }:=by
    unfold Tq.comM;rw[qf hp,qf hf]
   have hbv:(comB m).v=v:=hc.1;have hbn:(comB m).n=(Tq.comF m).2.2.1:=rfl;have hb1:1<=(comB m).n:=by omega
   refine h.of hs.2.1 hs.1 ?_ ?_ ?_ ?_ ?_ ?_
   all_goals rw[e]
   ·show (if (!cB m.bal (comB m)||lB m.bal (comB m))=true then (⟨max m.bal.n (comB m).n,(comB m).v⟩:Bal) else m.bal).v=v
    split
    ·exact hbv
    ·exact h.balv
   ·show 1<=(if (!cB m.bal (comB m)||lB m.bal (comB m))=true then (⟨max m.bal.n (comB m).n,(comB m).v⟩:Bal) else m.bal).n
    have:=h.baln;split
    ·show 1<=max m.bal.n (comB m).n;omega
    ·exact this
   ·intro h1;exact qp (show (2:Int)=1 from h1) zo
   ·intro _
    refine⟨?_,⟨hbv,hb1⟩,hc.2.1,by show (Tq.comF m).2.1<=(comB m).n;omega,?_⟩
    ·show (if covB m.prep (comB m)=true then m.prep else comB m).v=v/\1<=(if covB m.prep (comB m)=true then m.prep else comB m).n/\(if covB m.prep (comB m)=true then m.prep else comB m).n<=1000
     have hle:=h.prep_le;split
     ·rename_i hcv
      rw[jfW h.prepo hbv hb1] at hcv;have:=qc hcv;exact⟨h.prepo.pos zo,by omega,hle⟩
     ·exact⟨hbv,hb1,by omega⟩
    ·show (comB m).n<=(if covB m.prep (comB m)=true then m.prep else comB m).n
     split
     ·rename_i hcv
      rw[jfW h.prepo hbv hb1] at hcv;exact qc hcv
     ·exact Int.le_refl _
   ·intro h1;exact qp (show (2:Int)=3 from h1) zo
  ·have:Tq.comM m=m:=by unfold Tq.comM;rw[qf hp,qe hf]
   rw[this];exact h
 ·by_cases hp2:m.phase=2
  ·have h2:=h.p2 hp2
   obtain⟨a1,a2,a3⟩:=jkE (node:=m.node) (t:=m.t) (l:=allM m) (v:=m.bal.v) h.inv.inv.low h.inv.inv.high
   have hex:(comX m).1<=(comX m).2/\m.high<=(comX m).2/\1<=(comX m).1:=by
    have h3:=jnW (node:=m.node) (t:=m.t) (l:=allM m) (v:=m.bal.v) (boundsV (allM m) m.bal.v).reverse (m.low,m.high) h2.2.2.2.1;have h4:=jdN m.node m.t (allM m) m.bal.v (extGo m.node m.t (allM m) m.bal.v (boundsV (allM m) m.bal.v).reverse (m.low,m.high)).1 (extGo m.node m.t (allM m) m.bal.v (boundsV (allM m) m.bal.v).reverse (m.low,m.high)).2;have h5:=jjz (node:=m.node) (t:=m.t) (l:=allM m) (v:=m.bal.v) (boundsV (allM m) m.bal.v).reverse (m.low,m.high) (λx hx=>jaW (allM m) _ x (List.mem_reverse.1 hx))
    have h6:1<=(extGo m.node m.t (allM m) m.bal.v (boundsV (allM m) m.bal.v).reverse (m.low,m.high)).1:=by
     have:=jkr (node:=m.node) (t:=m.t) (l:=allM m) (v:=m.bal.v) (boundsV (allM m) m.bal.v).reverse (m.low,m.high) (λx hx=>jaW (allM m) _ x (List.mem_reverse.1 hx)) h2.2.2.1;exact this
    unfold Tq.comX extendV
    revert h3 h4 h6
    generalize extGo m.node m.t (allM m) m.bal.v (boundsV (allM m) m.bal.v).reverse (m.low,m.high)=x
    obtain⟨a,b⟩:=x;simp only
    generalize downV m.node m.t (allM m) m.bal.v a b=d
    intro h3 h4 h6;omega
   have e:Tq.comM m={ m with low:=(comX m).1,high:=(comX m).2,bal:=⟨max m.bal.n (comX m).2,m.bal.v⟩,conf:=⟨max m.conf.n (comX m).2,m.bal.v⟩,prep:=⟨max m.prep.n (comX m).2,m.prep.v⟩ }:=by
    unfold Tq.comM;rw[qe hp,qf hp2]
   have a2:(comX m).2<=1000:=a2.2;have hb1:=h.baln;refine h.of hs.2.1 hs.1 ?_ ?_ ?_ ?_ ?_ ?_
   all_goals rw[e]
   ·exact h.balv
   ·show 1<=max m.bal.n (comX m).2;omega
   ·exact h.prime
   ·intro h1;exact qp h1 hp
   ·intro _
    refine⟨⟨h2.1.1,?_,?_⟩,⟨h.balv,?_⟩,hex.2.2,hex.1,?_⟩
    ·show 1<=max m.prep.n (comX m).2;omega
    ·show max m.prep.n (comX m).2<=1000;omega
    ·show 1<=max m.conf.n (comX m).2;omega
    ·show (comX m).2<=max m.prep.n (comX m).2;omega
   ·intro h1;exact qp (show m.phase=3 from h1) zo
  ·have:Tq.comM m=m:=by unfold Tq.comM;rw[qe hp,qe hp2]
   rw[this];exact h
theorem UM.finM(h:UM T v i m):UM T v i (finM m):=by
 have hs:=jgm h.inv.inv
 by_cases hp:m.phase=2
 ·by_cases hf:(finF m).2.2=true
  ·have hb:=jgf hf
   have hl:=jom hf
   have e:Tq.finM m={ m with phase:=3,low:=(finF m).1,high:=(finF m).2.1,bal:=⟨(finF m).2.1,m.bal.v⟩,prep:=Bal.none,prime:=Bal.none,conf:=Bal.none }:=by
    unfold Tq.finM;rw[qe (λh'=>h' hp),qf hf]
   refine h.of hs.2.1 hs.1 ?_ ?_ ?_ ?_ ?_ ?_
   all_goals rw[e]
   ·exact h.balv
   ·exact hb.2.1.1
   ·intro h1;exact qp (show (3:Int)=1 from h1) zo
   ·intro h1;exact qp (show (3:Int)=2 from h1) zo
   ·intro _;exact⟨rfl,rfl,hb.1.1,hl⟩
  ·have:Tq.finM m=m:=by unfold Tq.finM;rw[qe (λh'=>h' hp),qe hf]
   rw[this];exact h
 ·have:Tq.finM m=m:=by unfold Tq.finM;rw[qf hp]
  rw[this];exact h
theorem UM.val(h:UM T v i m):valM m=v:=by
 unfold valM;rcases h.confo with hc | hc
 ·rw[hc,qe (by rw[jaR];decide)]
  by_cases hp:m.phase=1
  ·rw[qe (by rw[hp];decide),h.prop,qf (by rw[qz (jz8 h.vsz.1)];rfl)]
  ·rw[qf (by rw[qz hp];rfl)];exact h.balv
 ·rw[qf (by rw[jbH hc.2];rfl)];exact hc.1
theorem UM.cauv(h:UM T v i m):cauV m=m.bal.v:=by
 unfold cauV;split
 ·rw[h.val,h.balv]
 ·rfl
theorem UM.cau_eq(h:UM T v i m)(hc:¬(m.phase=3\/aheadV m m.bal.n=false)):cauM m={ m with bal:=⟨max m.bal.n (min (bestGo m m.heard 1000000) 1000),m.bal.v⟩ }:=by
 unfold cauM;rw[qe hc,h.cauv,qf rfl]
theorem UM.cauM(h:UM T v i m):UM T v i (cauM m):=by
 have hs:=jj3 h.inv.inv
 by_cases hc:m.phase=3\/aheadV m m.bal.n=false
 ·have:Tq.cauM m=m:=by unfold Tq.cauM;rw[qf hc]
  rw[this];exact h
 ·have hb:=h.baln
  refine h.of hs.2.1 hs.1 ?_ ?_ ?_ ?_ ?_ ?_
  all_goals rw[h.cau_eq hc]
  ·exact h.balv
  ·show 1<=max m.bal.n _;omega
  ·exact h.prime
  ·intro hp
   have h1:=h.p1 hp;refine⟨h1.1,h1.2.1,?_⟩;rcases h1.2.2 with h2 | h2
   ·exact .inl h2
   ·exact .inr ⟨h2.1,h2.2.1,by show m.conf.n<=max m.bal.n _;have:=h2.2.2.1;omega,h2.2.2.2⟩
  ·exact λhp=>h.p2 hp
  ·exact λhp=>h.p3 hp
theorem UM.stepG(h:UM T v i m):UM T v i (stepG m):=by
 unfold Tq.stepG;split
 ·exact h.prepM
 split
 ·exact h.confS
 split
 ·exact h.comM
 split
 ·exact h.finM
 ·exact h.cauM
theorem UM.seqS(h:UM T v i m){k:Int}(hk:1<=k/\k<=1000000):UM T v i { m with seq:=k } :=
 ⟨⟨jjR h.inv.inv k,by show 0<=k/\k<=1000000;omega⟩,h.i10,h.vsz,h.node,h.t,h.vt,h.slot,h.prop,hk.1,h.balv,h.baln,h.prime,h.p1,h.p2,h.p3,h.hd,by rw[<-h.hh];exact jg9 (d:={ m with seq:=k }) (m:=m) rfl rfl rfl⟩
theorem UM.rest(h:UM T v i m):UM T v i (restM m):=jcu (P:=λc=>UM T v i c) (λc _ hc=>hc.stepG) h.inv.inv h
theorem UM.adv_eq(h:UM T v i m):advM m=restM m:=by
 have hr:=h.rest;unfold advM;rw[qf h.check,qe (by rw[hr.zb];decide),show max (restM m).seq 1=(restM m).seq by have:=hr.seq;omega]
end
def ByN(l:List Evp):Prop:=l.Pairwise (λa b=>a.node<b.node)
theorem jhz{m:Mach}:∀(l:List Evp)(p:Option Int),heardGo m p l=true↔(∀e∈l,vE e=true/\e.slot=m.slot/\¬e.node=m.node)/\ByN l/\(∀q,p=some q->∀e∈l,q<e.node)
 | [],p=>by simp[heardGo,ByN]
 | x::r,p=>by
  have ih:=jhz (m:=m) r (some x.node)
  have e1:heardGo m p (x::r)=true↔(vE x=true/\x.slot=m.slot/\¬x.node=m.node)/\(∀q,p=some q->q<x.node)/\heardGo m (some x.node) r=true:=by
   cases p with
   | none=>simp[heardGo,and_assoc]
   | some q=>simp[heardGo,and_assoc]
  rw[e1,ih];unfold ByN;rw[List.pairwise_cons];constructor
  ·rintro⟨h1,h2,h3,h4,h5⟩
   refine⟨λe he=>?_,⟨λe he=>h5 _ rfl e he,h4⟩,λq hq e he=>?_⟩
   ·rcases zf he with rfl | he
    ·exact h1
    ·exact h3 e he
   ·rcases zf he with rfl | he
    ·exact h2 q hq
    ·have a:=h2 q hq
     have b:=h5 _ rfl e he;omega
  ·rintro⟨h1,⟨h2,h3⟩,h4⟩
   exact⟨h1 x (za),λq hq=>h4 q hq x (za),λe he=>h1 e (qj _ he),h3,λq hq e he=>by cases hq;exact h2 e he⟩
theorem jdz:heardM m=true↔(∀e∈m.heard,vE e=true/\e.slot=m.slot/\¬e.node=m.node)/\ByN m.heard:=by
 unfold heardM;rw[jhz];constructor
 ·exact λh=>⟨h.1,h.2.1⟩
 ·exact λh=>⟨h.1,h.2,λq hq=>by cases hq⟩
theorem jjI{l:List Evp}:ByN l↔(l.map Evp.node).Pairwise (·<·):=by
 unfold ByN;rw[List.pairwise_map]
theorem jnX{e:Evp}:∀(l:List Evp),posG (ltE e) l=posG (λx=>decide (x<e.node)) (l.map Evp.node)
 | []=>rfl
 | x::r=>by
  rw[List.map_cons,posG,posG,jnX r];rfl
theorem jy3{l:List Evp}(h:∀x∈l,¬x.node=e.node):(l.take (posG (ltE e) l)++[e]++l.drop (posG (ltE e) l)).map Evp.node=intoI (l.map Evp.node) e.node:=by
 unfold intoI
 have hf:=jnq (lt:=λx=>decide (x<e.node)) (eq:=λx=>decide (x=e.node)) (x:=e.node) (l:=l.map Evp.node) (k:=posG (ltE e) l) (jnX l).symm (λy hy=>by
  obtain⟨x,hx,rfl⟩:=List.mem_map.1 (qk hy)
  exact qz (h x hx))
 rw[hf];simp
structure PutOk(l q:List Evp)(e:Evp):Prop where
 by_:ByN q
 mem:∀y,y∈q↔y=e\/(y∈l/\¬y.node=e.node)
 old:∀x∈l,x.node=e.node->x.seq<e.seq
theorem jh5{l:List Evp}{e:Evp}(hs:ByN l):∀(r:List Evp)(i:Nat),l.drop i=r->(∀x∈l.take i,¬x.node=e.node) ->
 ((putGo l e r i).2=true/\PutOk l (putGo l e r i).1 e)\/((putGo l e r i).2=false/\∃x∈l,x.node=e.node/\e.seq<=x.seq)
 | [],i,hd,ht=>by
  left
  have hl:l.take i=l:=by
   have:=List.take_append_drop i l
   rwa [hd,List.append_nil] at this
  rw[hl] at ht;refine⟨rfl,?_,λy=>?_,λx hx he=>qp he (ht x hx)⟩
  ·show ByN (l.take (posG (ltE e) l)++[e]++l.drop (posG (ltE e) l))
   rw[jjI,jy3 ht];exact jcn (jjI.1 hs)
  ·show y∈l.take (posG (ltE e) l)++[e]++l.drop (posG (ltE e) l)↔_
   have e2:y∈l↔y∈l.take (posG (ltE e) l)\/y∈l.drop (posG (ltE e) l):=by
    rw[<-List.mem_append,List.take_append_drop]
   rw[List.mem_append,List.mem_append,List.mem_singleton];constructor
   ·rintro((h | h) | h)
    ·exact .inr ⟨e2.2 (.inl h),ht y (e2.2 (.inl h))⟩
    ·exact .inl h
    ·exact .inr ⟨e2.2 (.inr h),ht y (e2.2 (.inr h))⟩
   ·rintro(h | ⟨h,_⟩)
    ·exact .inl (.inr h)
    ·rcases e2.1 h with h | h
     ·exact .inl (.inl h)
     ·exact .inr h
 | x::r,i,hd,ht=>by
  have hx:l[i]?=some x:=by
   have:(l.drop i)[0]?=some x:=by rw[hd];rfl
   rwa [List.getElem?_drop,Nat.add_zero] at this
  have hi:=(List.getElem?_eq_some_iff.1 hx).1
  have hd1:l.drop (i+1)=r:=by
   have h1:=jje hx;rw[hd] at h1;exact(List.cons.inj h1).2.symm
  have hxl:x∈l:=qk hx;have hl:l=l.take i++x::l.drop (i+1):=by rw[<-jje hx,List.take_append_drop]
  have hord:=hs;unfold ByN at hord;rw[hl,List.pairwise_append,List.pairwise_cons] at hord;unfold putGo
  by_cases hn:x.node=e.node
  ·rw[qf hn]
   by_cases hq:x.seq>=e.seq
   ·rw[qf hq];exact .inr ⟨rfl,x,hxl,hn,hq⟩
   ·rw[qe hq]
    left
    have hoth:∀y∈l,y.node=e.node->y=x:=λy hy hye=>by
     rw[hl] at hy;rcases zk hy with hy | hy
     ·have:=hord.2.2 y hy x (za);omega
     ·rcases zf hy with hy | hy
      ·exact hy
      ·have:=hord.2.1.1 y hy;omega
    refine⟨rfl,?_,λy=>?_,λy hy hye=>by rw[hoth y hy hye];omega⟩
    ·show ByN (l.take i++[e]++l.drop (i+1))
     rw[jjI]
     have:(l.take i++[e]++l.drop (i+1)).map Evp.node=l.map Evp.node:=by
      conv=>rhs;rw[hl]
      simp[hn]
     rw[this];exact jjI.1 hs
    ·show y∈l.take i++[e]++l.drop (i+1)↔_
     rw[List.mem_append,List.mem_append,List.mem_singleton];constructor
     ·rintro((h | h) | h)
      ·exact .inr ⟨List.mem_of_mem_take h,by have:=hord.2.2 y h x (za);omega⟩
      ·exact .inl h
      ·exact .inr ⟨List.mem_of_mem_drop h,by have:=hord.2.1.1 y h;omega⟩
     ·rintro(h | ⟨h,h2⟩)
      ·exact .inl (.inr h)
      ·rw[hl] at h
       rcases zk h with h | h
       ·exact .inl (.inl h)
       ·rcases zf h with h | h
        ·rw[h] at h2;exact qp hn h2
        ·exact .inr h
  ·rw[qe hn]
   refine jh5 hs r (i+1) hd1 (λy hy=>?_);rw[List.take_add_one,hx] at hy;rcases zk hy with hy | hy
   ·exact ht y hy
   ·have:y=x:=by simpa using hy
    rw[this];exact hn
theorem jky{l:List Evp}(hs:ByN l)(hv:vE e=true):((putV l e).2=true/\PutOk l (putV l e).1 e)\/((putV l e).2=false/\∃x∈l,x.node=e.node/\e.seq<=x.seq):=by
 rw[joP hv];exact jh5 hs l 0 rfl (λx hx=>qp hx (by simp))
def Fresh(x e:Evp):Prop:=x=e\/x.seq<e.seq
theorem Fresh.trans{a b c:Evp}(h:Fresh a b)(k:Fresh b c):Fresh a c:=by
 rcases h with rfl | h
 ·exact k
 ·rcases k with rfl | k
  ·exact .inr h
  ·exact .inr zo
section
variable{v:Str}{T:Nat->Trust->Prop}{i:Nat}
theorem jul(hn:d.node=m.node)(hs:d.slot=m.slot)(ht:d.t=m.t)(hq:d.seq=m.seq)(h:sameE { envR m with seq:=0 } { envR d with seq:=0 }=true):envR m=envR d:=by
 simp only[sameE,qh,qo] at h;obtain⟨h1,h2,_,h3,h4,h5,h6,h7,h8,h9⟩:=h;have e1:=jka h5;have e2:=jka h6;have e3:=jka h7;have k1:(envR m).node=(envR d).node:=h1;have k2:(envR m).slot=(envR d).slot:=h2;have k3:(envR m).seq=(envR d).seq:=hq.symm;have k4:(envR m).t=(envR d).t:=ht.symm
 generalize envR m=a at *
 generalize envR d=b at *
 cases a;cases b;simp only at *
 subst_vars;rfl
theorem UM.num{b:Mach}(hb:UM T v i b)(h:UM T v i m)(hq:m.seq=b.seq)(ht:m.t=b.t)(hlt:m.seq<1000000) :
 UM T v i (numM b m)/\Fresh (envR b) (envR (numM b m))/\(numM b m).seq<=m.seq+1/\∃k,numM b m={ restM m with seq:=k }:=by
 have hr:=h.rest;have hs:=(jbj h.inv.inv).2;unfold numM;rw[h.adv_eq,qe (by rw[hr.zb];decide)];have hseq:=hs.seq;split
 ·refine⟨hr.seqS (by have:=h.seq;omega),.inr ?_,?_,_,rfl⟩
  ·show b.seq<min ((restM m).seq+1) 1000000;omega
  ·show min ((restM m).seq+1) 1000000<=m.seq+1;omega
 ·rename_i hc
  rw[hb.zb] at hc;have hc:sameE { envR b with seq:=0 } { envR (restM m) with seq:=0 }=true:=by simpa using hc
  refine⟨hr,.inl (jul ?_ ?_ ?_ ?_ hc),by omega,(restM m).seq,rfl⟩
  ·exact hr.node.trans hb.node.symm
  ·exact hr.slot.trans hb.slot.symm
  ·exact hs.t.trans ht
  ·omega
theorem UM.put(h:UM T v i m)(he:UE T v e)(hn:¬e.node=m.node)(hz:sizeT e.t<=100000)(h1:(putV m.heard e).2=true):UM T v i { m with heard:=(putV m.heard e).1 }/\PutOk m.heard (putV m.heard e).1 e:=by
 have hh:=jdz.1 h.hh;rcases jky hh.2 he.ok with⟨_,hp⟩ | ⟨h2,_⟩
 ·refine⟨⟨jga h.inv h.check hz,h.i10,h.vsz,h.node,h.t,h.vt,h.slot,h.prop,h.seq,h.balv,h.baln,h.prime,h.p1,h.p2,h.p3,λx hx=>?_,?_⟩,hp⟩
  ·rcases(hp.mem x).1 hx with rfl | hx
   ·exact he
   ·exact h.hd x hx.1
  ·refine jdz.2 ⟨λx hx=>?_,hp.by_⟩
   rcases(hp.mem x).1 hx with rfl | hx
   ·exact⟨he.ok,he.slot.trans h.slot.symm,hn⟩
   ·exact hh.1 x hx.1
 ·rw[h2] at h1;cases h1
theorem UM.recv(h:UM T v i m)(he:UE T v e)(hn:¬e.node=m.node)(hz:sizeT e.t<=100000)(hlt:m.seq<1000000) :
 ((recV m e).2=0/\(∃q k,PutOk m.heard q e/\UM T v i { m with heard:=q }/\(recV m e).1={ restM { m with heard:=q } with seq:=k })/\UM T v i (recV m e).1/\Fresh (envR m) (envR (recV m e).1)/\(recV m e).1.seq<=m.seq+1)
 \/ (¬(recV m e).2=0/\∃x∈m.heard,x.node=e.node/\e.seq<=x.seq):=by
 have hh:=jdz.1 h.hh;unfold recV;rw[qe (by rw[h.check];decide),qe (by rw[he.ok,he.slot,h.slot];simp[hn])];rcases jky hh.2 he.ok with⟨h1,hp⟩ | ⟨h1,hx⟩
 ·rw[qe (by rw[h1];decide)]
  have h2:=(h.put he hn hz h1).1;obtain⟨a1,a2,a3,k,a4⟩:=h.num (m:={ m with heard:=(putV m.heard e).1 }) h2 rfl rfl hlt;exact .inl ⟨rfl,⟨_,k,hp,h2,a4⟩,a1,a2,a3⟩
 ·rw[qf h1];exact .inr ⟨by decide,hx⟩
theorem UM.tmo(h:UM T v i m)(hlt:m.seq<1000000) :
 ((tmoV m).2=0/\(∃k,(m.phase=1\/m.phase=2)/\UM T v i { m with bal:=⟨m.bal.n+1,v⟩ }/\(tmoV m).1={ restM { m with bal:=⟨m.bal.n+1,v⟩ } with seq:=k })/\UM T v i (tmoV m).1/\Fresh (envR m) (envR (tmoV m).1)/\(tmoV m).1.seq<=m.seq+1)
 \/ ¬(tmoV m).2=0:=by
 unfold tmoV;rw[qe (by rw[h.check];decide),h.val]
 by_cases hp:m.phase=3\/v=noS
 ·rw[qf hp];exact .inr zd
 ·rw[qe hp]
  by_cases h1:m.bal.n>=1000
  ·rw[qf h1];exact .inr zd
  ·rw[qe h1]
   have e:tmoM m={ m with bal:=⟨m.bal.n+1,v⟩ }:=by
    unfold tmoM;rw[h.val,qf h.balv.symm,show max m.seq 1=m.seq by have:=h.seq;omega]
   have hi:=jf4 h.inv zo;rw[e] at hi;have hb:=h.baln
   have h2:UM T v i { m with bal:=⟨m.bal.n+1,v⟩ }:=by
    refine h.of hi.inv ⟨rfl,rfl,rfl,rfl,rfl,rfl⟩ rfl (by show 1<=m.bal.n+1;omega) h.prime (λhp1=>?_) (λhp2=>h.p2 hp2) (λhp3=>h.p3 hp3);have h3:=h.p1 hp1;refine⟨h3.1,h3.2.1,?_⟩;rcases h3.2.2 with h4 | h4
    ·exact .inl h4
    ·exact .inr ⟨h4.1,h4.2.1,by show m.conf.n<=m.bal.n+1;have:=h4.2.2.1;omega,h4.2.2.2⟩
   obtain⟨a1,a2,a3,k,a4⟩:=h.num (m:={ m with bal:=⟨m.bal.n+1,v⟩ }) h2 rfl rfl hlt;rw[e];exact .inl ⟨rfl,⟨k,by have:=h.ph;omega,h2,a4⟩,a1,a2,a3⟩
end
def ByM(l:List Nmn):Prop:=l.Pairwise (λa b=>a.node<b.node)
theorem jnk{n:Nmr}:∀(l:List Nmn)(p:Option Int),nhGo n p l=true↔(∀m∈l,plainNm m=true/\¬m.node=n.node)/\ByM l/\(∀q,p=some q->∀m∈l,q<m.node)
 | [],p=>by simp[nhGo,ByM]
 | x::r,p=>by
  have ih:=jnk (n:=n) r (some x.node)
  have e1:nhGo n p (x::r)=true↔(plainNm x=true/\¬x.node=n.node)/\(∀q,p=some q->q<x.node)/\nhGo n (some x.node) r=true:=by
   cases p with
   | none=>simp[nhGo,and_assoc]
   | some q=>simp[nhGo,and_assoc]
  rw[e1,ih];unfold ByM;rw[List.pairwise_cons];constructor
  ·rintro⟨h1,h2,h3,h4,h5⟩
   refine⟨λe he=>?_,⟨λe he=>h5 _ rfl e he,h4⟩,λq hq e he=>?_⟩
   ·rcases zf he with rfl | he
    ·exact h1
    ·exact h3 e he
   ·rcases zf he with rfl | he
    ·exact h2 q hq
    ·have a:=h2 q hq
     have b:=h5 _ rfl e he;omega
  ·rintro⟨h1,⟨h2,h3⟩,h4⟩
   exact⟨h1 x (za),λq hq=>h4 q hq x (za),λe he=>h1 e (qj _ he),h3,λq hq e he=>by cases hq;exact h2 e he⟩
theorem jiq{m:Nmn}:∀(l:List Nmn)(q:List Nmn),(∀x∈l,¬x.node=m.node)->insGo m l true q=some (q++l)
 | [],q,_=>by simp[insGo]
 | x::r,q,h=>by
  rw[insGo,qe (h x (za)),qe (by simp),jiq r _ (λy hy=>h y (qj _ hy))];simp
theorem jj4{m:Nmn}:∀(l:List Nmn)(q h:List Nmn),ByM (q++l)->(∀x∈q,x.node<m.node)->insGo m l false q=some h->ByM h
 | [],q,h,hs,hq,e=>by
  simp only[insGo,Bool.false_eq_true,if_false,qs] at e;subst e;rw[List.append_nil] at hs;unfold ByM at hs ⊢;rw[List.pairwise_append];exact⟨hs,by simp,λa ha b hb=>by rw[zl hb];exact hq a ha⟩
 | x::r,q,h,hs,hq,e=>by
  have hs':ByM (q++x::r):=hs;unfold ByM at hs';rw[List.pairwise_append,List.pairwise_cons] at hs';rw[insGo] at e;split at e
  ·rename_i hx
   split at e
   ·cases e
   ·refine jj4 r q h ?_ hq e
    unfold ByM;rw[List.pairwise_append];exact⟨hs'.1,hs'.2.1.2,λa ha b hb=>hs'.2.2 a ha b (qj _ hb)⟩
  ·rename_i hx
   split at e
   ·rename_i hg
    simp only[qh,qo] at hg;rw[jiq r _ (λy hy=>by have:=hs'.2.1.1 y hy;omega),qs] at e;subst e;unfold ByM;rw[List.append_assoc,List.append_assoc,List.pairwise_append];refine⟨hs'.1,?_,λa ha b hb=>?_⟩
    ·show (m::(x::r)).Pairwise _
     rw[List.pairwise_cons,List.pairwise_cons];refine⟨λy hy=>?_,hs'.2.1⟩;rcases zf hy with rfl | hy
     ·omega
     ·have:=hs'.2.1.1 y hy;omega
    ·have h1:=hq a ha
     have hb:b∈m::x::r:=hb;rcases zf hb with rfl | hb
     ·exact h1
     ·exact hs'.2.2 a ha b hb
   ·rename_i hg
    have hlt:x.node<m.node:=by
     simp only[qh,qo,Bool.not_false,and_true] at hg;omega
    refine jj4 r (q++[x]) h (by rw[List.append_assoc];exact hs) (λy hy=>?_) e;rcases zk hy with hy | hy
    ·exact hq y hy
    ·rw[zl hy];exact hlt
theorem jwK{n:Nmr}{m:Nmn}{h:List Nmn}(hs:ByM n.heard)(e:insN n m=some h):ByM h:=jj4 n.heard [] h hs (λx hx=>qp hx qv) e
section
variable{v:Str}
theorem jgk{α β:Type}{P:β->Prop}{f:β->α->β}:∀(l:List α)(q:β),(∀q x,x∈l->P q->P (f q x))->P q->P (l.foldl f q)
 | [],q,_,h=>h
 | x::r,q,hf,h=>jgk r (f q x) (λq y hy hq=>hf q y (qj _ hy) hq) (hf q x (za) h)
theorem jwS{l:List Str}(h:l=[v]):putN l v=[v]:=jke (.inr h)
theorem juw{n:Nmr}(h:OneN v n)(hv:n.votes=[v]):(followN n).votes=[v]:=by
 refine jgk (P:=λq=>q=[v]) _ _ (λq k _ hq=>?_) hv;unfold fol1;split
 ·split
  ·exact hq
  ·rw[h.own];exact jwS hq
 ·refine jgk (P:=λq=>q=[v]) _ _ (λq m hm hq=>?_) hq
  unfold fol2;split
  ·refine jgk (P:=λq=>q=[v]) _ _ (λq x hx hq=>?_) hq
   rw[(jdc (h.heard m hm).votes (h.heard m hm).accs).mem hx];exact jwS hq
  ·exact hq
theorem jw6{n:Nmr}(h:OneN v n)(hv:n.votes=[v]):(firstN n).votes=[v]:=by
 unfold firstN;split
 ·exact juw h hv
 ·exact hv
theorem jtl:∀(k:Nat){n:Nmr},OneN v n->(againN k n).votes=n.votes/\(n.accs=[v]->(againN k n).accs=[v])
 | 0,n,h=>⟨rfl,λh=>h⟩
 | k+1,n,h=>by
  unfold againN;split
  ·exact⟨rfl,λh=>h⟩
  ·rename_i x hx
   have hxv:=(jlL h).mem (List.mem_of_find?_eq_some hx);rw[hxv];have ih:=jtl k (n:=accN n v) ⟨h.own,h.votes,je6 h.accs,h.confs,.inr (jke h.accs),h.heard⟩;exact⟨ih.1,λha=>ih.2 (jwS ha)⟩
theorem jy8{n:Nmr}(h:OneN v n):(n.votes=[v]->(bodyN n).votes=[v])/\(n.accs=[v]->(bodyN n).accs=[v]):=by
 have h1:=jlV h;have h2:=jtl 41 h1;have ha:(firstN n).accs=n.accs:=by unfold firstN followN;split<;>rfl
 refine⟨λhv=>?_,λhv=>?_⟩
 ·show (againN 41 (firstN n)).votes=[v]
  rw[h2.1];exact jw6 h hv
 ·show (againN 41 (firstN n)).accs=[v]
  exact h2.2 (ha.trans hv)
def wtN(n:Nmr):Nat:=n.votes.length+n.accs.length
theorem OneV.len{l:List Str}(h:OneV v l):l.length<=1:=by rcases h with rfl | rfl<;>simp
structure NV(v:Str)(i:Nat)(n:Nmr):Prop where
 vsz:1<=v.size/\v.size<=200
 i10:i<10
 one:OneN v n
 node:n.node=(i:Int)
 slot:n.slot=1
 vt:validT n.t=0
 round:1<=n.round/\n.round<=1000
 seq:1<=n.seq/\n.seq<=1+wtN n
 hd:∀m∈n.heard,plainNm m=true/\¬m.node=n.node
 by_:ByM n.heard
theorem NV.valid{i:Nat}{n:Nmr}(h:NV v i n):validNr n=true:=by
 have h1:=h.one.votes.len;have h2:=h.one.accs.len;have h3:=h.seq;have h4:=h.round;have h5:=h.i10;refine jrU h.vsz h.one ?_ h.vt ((jnk _ _).2 ⟨h.hd,h.by_,λq hq=>by cases hq⟩);unfold rngN wtN at *;rw[h.node,h.slot,qg (p:=(i:Int)>=0) zo,qg (p:=(i:Int)<10) zo,qg (p:=n.round>=1) zo,qg (p:=n.round<=1000) zo,qg (p:=n.seq>=1) zo,qg (p:=n.seq<=1000000) zo]
 decide
theorem NV.settle{i:Nat}{b n:Nmr}(hb:NV v i b)(hn:NV v i n)(hv:n.votes=b.votes)(ha:n.accs=b.accs)(hq:n.seq=b.seq)(ht:n.t=b.t):NV v i (settleN b n)/\(settleN b n).t=n.t:=by
 have hs:=jcR b n;have ho:=jip (b:=b) hn.one;have hbv:=jy8 hn.one;have hw:b.seq<=1+wtN b:=hb.seq.2;have hq1:=hb.seq.1;have hbo:=jov hn.one
 have mono:wtN b<=wtN (bodyN n):=by
  unfold wtN;rw[<-hv,<-ha]
  have k1:n.votes.length<=(bodyN n).votes.length:=by
   rcases hn.one.votes with h | h
   ·rw[h];simp
   ·rw[h,hbv.1 h];simp
  have k2:n.accs.length<=(bodyN n).accs.length:=by
   rcases hn.one.accs with h | h
   ·rw[h];simp
   ·rw[h,hbv.2 h];simp
  omega
 refine⟨⟨hn.vsz,hn.i10,ho,hs.node.trans hn.node,hs.slot.trans hn.slot,by rw[hs.t];exact hn.vt,by rw[hs.round];exact hn.round,?_,by rw[hs.heard,hs.node];exact hn.hd,by rw[hs.heard];exact hn.by_⟩,hs.t⟩;have hbs:(bodyN n).seq=n.seq:=jn9 n;unfold settleN;split
 ·rename_i htn
  refine⟨by show 1<=b.seq+1;omega,?_⟩;show b.seq+1<=1+(wtN (bodyN n):Int)
  have:wtN b<wtN (bodyN n):=by
   unfold turnN sameN at htn;rw[(jkY n).t,ht,jc8] at htn;simp only[Bool.not_true,Bool.or_false,Bool.or_eq_true,Bool.not_eq_true',decide_eq_false_iff_not] at htn;unfold wtN at mono ⊢;rw[<-hv,<-ha] at htn mono ⊢;rcases htn with h | h
   ·have k2:n.accs.length<=(bodyN n).accs.length:=by
     rcases hn.one.accs with h | h
     ·rw[h];simp
     ·rw[h,hbv.2 h];simp
    rcases hn.one.votes with h1 | h1
    ·rcases hbo.votes with h2 | h2
     ·exact qp (h1.trans h2.symm) h
     ·rw[h1,h2];simp;omega
    ·exact qp (h1.trans (hbv.1 h1).symm) h
   ·have k1:n.votes.length<=(bodyN n).votes.length:=by
     rcases hn.one.votes with h | h
     ·rw[h];simp
     ·rw[h,hbv.1 h];simp
    rcases hn.one.accs with h1 | h1
    ·rcases hbo.accs with h2 | h2
     ·exact qp (h1.trans h2.symm) h
     ·rw[h1,h2];simp;omega
    ·exact qp (h1.trans (hbv.2 h1).symm) h
  omega
 ·rw[hbs,hq];omega
theorem NV.hear{i:Nat}{n:Nmr}{m:Nmn}(h:NV v i n)(hm:OneM v m)(he:(hearN n m).2=0):NV v i (hearN n m).1/\(hearN n m).1.t=n.t:=by
 unfold hearN at he ⊢;split at he
 ·cases he
 ·rename_i hc
  rw[qe hc];simp only[not_or,Bool.not_eq_false] at hc;cases hi:insN n m with
  | none=>rw[hi] at he;cases he
  | some q =>
   have h1:NV v i { n with heard:=q }:=⟨h.vsz,h.i10,⟨h.one.own,h.one.votes,h.one.accs,h.one.confs,h.one.ca,jlf hm h.one.heard (λx hx=>qp hx qv) hi⟩,h.node,h.slot,h.vt,h.round,h.seq,
    jlf (p:=λx=>plainNm x=true/\¬x.node=n.node) ⟨hc.1.2,hc.2⟩ h.hd (λx hx=>qp hx qv) hi,jwK h.by_ hi⟩
   exact h.settle h1 rfl rfl rfl rfl
theorem NV.tick{i:Nat}{n:Nmr}(h:NV v i n)(he:(tickN n).2=0):NV v i (tickN n).1/\(tickN n).1.t=n.t:=by
 unfold tickN at he ⊢;split at he
 ·cases he
 ·rename_i hc
  rw[qe hc];split at he
  ·cases he
  ·rename_i hc2
   rw[qe hc2];have hr:=h.round;exact h.settle (n:={ n with round:=n.round+1 }) ⟨h.vsz,h.i10,⟨h.one.own,h.one.votes,h.one.accs,h.one.confs,h.one.ca,h.one.heard⟩,h.node,h.slot,h.vt,by show 1<=n.round+1/\n.round+1<=1000;omega,h.seq,h.hd,h.by_⟩ rfl rfl rfl rfl
theorem NV.start{i:Nat}{t:Trust}(hv:1<=v.size/\v.size<=200)(hi:i<10)(ht:validT t=0):NV v i (startN i 1 t v).1/\(startN i 1 t v).1.t=t:=by
 have hs:=jcR (newN i 1 t v) (newN i 1 t v);have h0:=ju5 (v:=v) hi ht hv.2;have ho:=jkl (node:=(i:Int)) (slot:=1) (jok (v:=v) hi ht hv.2);rw[h0] at ho ⊢;have hh:(settleN (newN i 1 t v) (newN i 1 t v)).heard=[]:=hs.heard
 exact⟨⟨hv,hi,ho,hs.node,hs.slot,by show validT (settleN _ _).t=0;rw[hs.t];exact ht,by show 1<=(settleN _ _).round/\(settleN _ _).round<=1000;rw[hs.round];show (1:Int)<=1/\(1:Int)<=1000;omega,by show (1:Int)<=1/\(1:Int)<=_;omega,
  λm hm=>(by have hm:m∈(settleN (newN i 1 t v) (newN i 1 t v)).heard:=hm;rw[hh] at hm;exact qp hm qv),by show ByM (settleN _ _).heard;rw[hh];exact List.Pairwise.nil⟩,hs.t⟩
end
section
variable{v:Str}{T:Nat->Trust->Prop}{i:Nat}
theorem UM.dcd(h:UM T v i m):dcdV m=if m.phase=3 then (v,true) else (noS,false):=by
 unfold dcdV
 by_cases hp:m.phase=3
 ·rw[qe (by rw[h.check];simp[hp]),qf hp,h.balv]
 ·rw[qf (.inr hp),qe hp]
structure US(T:Nat->Trust->Prop)(v:Str)(i:Nat)(s:Slt):Prop where
 nom:NV v i s.nom
 mach:UM T v i s.mach
 t:s.nom.t=s.mach.t
 tm:vTm s.tm=true
 round:1<=s.round/\s.round<=1000
 next:0<=s.next/\s.next<=212
 done:s.done=(dcdV s.mach).2
 value:s.value=(dcdV s.mach).1
theorem US.check{s:Slt}(h:US T v i s):checkS s=true :=
 jkX h.mach.check h.nom.valid (h.nom.node.trans h.mach.node.symm) (h.nom.slot.trans h.mach.slot.symm) h.t h.tm h.round h.next h.done h.value
theorem US.set{s:Slt}(hn:NV v i s.nom)(hm:UM T v i s.mach)(ht:s.nom.t=s.mach.t)(h1:vTm s.tm=true)(h2:1<=s.round/\s.round<=1000)(h3:0<=s.next/\s.next<=212):US T v i (setS s)/\(setS s).mach=s.mach/\(setS s).tm=s.tm:=by
 have hsm:=ju8 hn.one hm.prop;have e:(setS s).mach=s.mach:=hsm;refine⟨⟨hn,by rw[e];exact hm,by rw[e];exact ht,h1,h2,h3,?_,?_⟩,e,rfl⟩
 ·show (dcdV (setM s)).2=(dcdV (setS s).mach).2;rfl
 ·show (dcdV (setM s)).1=(dcdV (setS s).mach).1;rfl
theorem US.nomS{s:Slt}(h:US T v i s){m:Nmn}(hm:OneM v m)(h0:(nomS s m).2=0):US T v i (nomS s m).1/\(Tq.nomS s m).1.mach=s.mach/\(Tq.nomS s m).1.tm=s.tm:=by
 unfold Tq.nomS at h0 ⊢;rw[qe (by rw[h.check];decide)] at h0 ⊢;split at h0
 ·rename_i h2;exact qp h0 h2
 ·rename_i h2
  rw[qe h2];have hh:=h.nom.hear hm (by simpa using h2);exact US.set (s:={ s with nom:=(hearN s.nom m).1 }) hh.1 h.mach (hh.2.trans h.t) h.tm h.round h.next
theorem US.balS{s:Slt}(h:US T v i s)(he:UE T v e)(hn:¬e.node=s.mach.node)(hz:sizeT e.t<=100000)(hlt:s.mach.seq<1000000) :
 ((balS s e).2=0/\US T v i (Tq.balS s e).1/\(Tq.balS s e).1.mach=(recV s.mach e).1/\(recV s.mach e).2=0/\(Tq.balS s e).1.tm=s.tm)\/(¬(Tq.balS s e).2=0/\¬(recV s.mach e).2=0):=by
 unfold Tq.balS;rw[qe (by rw[h.check];decide)];rcases h.mach.recv he hn hz hlt with⟨h1,⟨q,k,_,hq,h5⟩,h2,_⟩ | ⟨h1,_⟩
 ·left
  rw[qe (λhh=>hh h1)]
  have ht:(recV s.mach e).1.t=s.mach.t:=by
   rw[h5];exact(jbj hq.inv.inv).2.t
  obtain⟨a1,a2,a3⟩:=US.set (s:={ s with mach:=(recV s.mach e).1 }) h.nom h2 (h.t.trans ht.symm) h.tm h.round h.next;exact⟨rfl,a1,a2,h1,a3⟩
 ·right
  rw[qf h1];exact⟨h1,h1⟩
theorem joo(k:Int):1<=waitV k/\waitV k<=12:=by unfold waitV;omega
theorem jwU{t:Tm}(ht:vTm t=true)(hm:0<=m.bal.n/\m.bal.n<=1000000)(hn:0<=now/\now<=200):vTm (stepV t m now).1=true:=by
 have hw:=joo m.bal.n
 have key:∀d:Int,-1<=d/\d<=212->vTm ⟨m.bal.n,d⟩=true:=λd hd=>by
  unfold vTm;rw[qg (p:=0<=m.bal.n) hm.1,qg (p:=m.bal.n<=1000000) hm.2,qg (p:=-1<=d) hd.1,qg (p:=d<=212) hd.2];rfl
 unfold stepV;split
 ·decide
 split
 ·exact key _ zo
 split
 ·exact key _ zo
 split
 ·exact key _ zo
 ·exact ht
theorem jzH{s:Slt}(h:NV v i s.nom):NV v i (tkN s)/\(tkN s).t=s.nom.t:=by
 unfold tkN;split
 ·rename_i hc;exact h.tick hc
 ·exact⟨h,rfl⟩
theorem US.tk1{s:Slt}(h:US T v i s)(hn:0<=now/\now<=200):US T v i (tk1 s now)/\(Tq.tk1 s now).mach=s.mach/\(Tq.tk1 s now).tm=s.tm:=by
 unfold Tq.tk1;split
 ·have hk:=jzH h.nom
  have hw:=joo (min (s.round+1) 1000);have hr:=h.round;exact US.set (s:={ s with nom:=tkN s,round:=min (s.round+1) 1000,next:=now+waitV (min (s.round+1) 1000) }) hk.1 h.mach (hk.2.trans h.t) h.tm (by show 1<=min (s.round+1) 1000/\min (s.round+1) 1000<=1000;omega) (by show 0<=now+waitV _/\now+waitV _<=212;omega)
 ·exact⟨h,rfl,rfl⟩
theorem US.tick{s:Slt}(h:US T v i s)(hn:0<=now/\now<=200)(hlt:s.mach.seq<1000000) :
 (tickSl s now).2=0/\US T v i (tickSl s now).1/\(tickSl s now).1.tm=(stepV s.tm s.mach now).1/\((tickSl s now).1.mach=s.mach\/((stepV s.tm s.mach now).2=true/\(tmoV s.mach).2=0/\(tickSl s now).1.mach=(tmoV s.mach).1)):=by
 have hb:=h.mach.baln;have hb2:=h.mach.inv.inv.baln;unfold tickSl;rw[qe (by rw[h.check];decide),qe zo];obtain⟨h1,h2,h3⟩:=h.tk1 hn;have ht:=jwU (m:=s.mach) h.tm zo hn;refine⟨rfl,?_⟩;show US T v i (tk2 (Tq.tk1 s now) now)/\(tk2 (Tq.tk1 s now) now).tm=_/\((tk2 (Tq.tk1 s now) now).mach=_\/_)
 revert h1 h2 h3
 generalize Tq.tk1 s now=x
 intro h1 h2 h3;unfold tk2;rw[h2,h3];split
 ·rename_i ho
  have hk:UM T v i (tkM s.mach)/\(tkM s.mach).t=s.mach.t/\(tkM s.mach=s.mach\/((tmoV s.mach).2=0/\tkM s.mach=(tmoV s.mach).1)):=by
   unfold tkM;rcases h.mach.tmo hlt with⟨a1,⟨k,_,a3,a4⟩,a2,_⟩ | a1
   ·rw[qf a1]
    refine⟨a2,?_,.inr ⟨a1,rfl⟩⟩;rw[a4];exact(jbj a3.inv.inv).2.t
   ·rw[qe a1];exact⟨h.mach,rfl,.inl rfl⟩
  obtain⟨b1,b2,b3⟩:=US.set (s:={ x with tm:=(stepV s.tm s.mach now).1,mach:=tkM s.mach }) h1.nom hk.1 (by show x.nom.t=_;rw[h1.t,h2];exact hk.2.1.symm) ht h1.round h1.next;refine⟨b1,b3,?_⟩;rw[b2];rcases hk.2.2 with h4 | h4
  ·exact .inl h4
  ·exact .inr ⟨ho,h4.1,h4.2⟩
 ·exact⟨⟨h1.nom,h.mach,by have:=h1.t;rw[h2] at this;exact this,ht,h1.round,h1.next,by have:=h1.done;rw[h2] at this;exact this,by have:=h1.value;rw[h2] at this;exact this⟩,rfl,.inl rfl⟩
theorem US.letters{s:Slt}(h:US T v i s):lettersS s=ltrN s++[⟨2,1,zNmn,envR s.mach⟩]:=by
 unfold lettersS;rw[qe (by rw[h.check];decide)];unfold ltrE;rw[h.mach.check,h.mach.zb,qf zd,h.mach.slot,h.mach.msg_env]
theorem joN{t:Trust}(hi:i<10)(hT:T i t)(ht:validT t=0)(hv:1<=v.size/\v.size<=200)(hz:sizeT t<=100000):UM T v i (propM (m0 i t) v):=by
 have hinv:InvS (m0 i t):=by
  have:=jgh (node:=(i:Int)) (slot:=1) (t:=t) hz (by rw[jmt hi ht])
  rwa [jmt hi ht] at this
 have h2:=jds hinv hv.2;have hp:=jeg (v:=v) (k:=i) (t:=t) hv.1;rw[hp] at h2 ⊢;exact⟨h2,hi,hv,rfl,hT,ht,rfl,rfl,by show (1:Int)<=1;omega,rfl,by show (1:Int)<=1;omega,rfl,λ_=>⟨rfl,⟨.inl rfl,by show (0:Int)<=1000;omega⟩,.inl ⟨rfl,rfl⟩⟩,λh=>qp (show (1:Int)=2 from h) zo,λh=>qp (show (1:Int)=3 from h) zo,λe he=>qp he qv,rfl⟩
theorem juZ{t:Trust}(hi:i<10)(hT:T i t)(ht:validT t=0)(hv:1<=v.size/\v.size<=200)(hz:sizeT t<=100000) :
 (newS i 1 t v 0).2=0/\(prefS' (newS i 1 t v 0).1 v).2=0/\∃s,(prefS' (newS i 1 t v 0).1 v).1=s/\US T v i s/\s.mach.t=t/\s.tm=⟨0,-1⟩/\s.mach.heard=[]/\s.mach.seq<=3/\stepG s.mach=s.mach/\s.mach=restM (propM (m0 i t) v):=by
 have q0:=joN (T:=T) hi hT ht hv hz;have hm0:m0 i t=m0 i t:=rfl;have hq0:(propM (m0 i t) v).seq=1:=by rw[jeg hv.1]
 have hh0:(propM (m0 i t) v).heard=[]:=by rw[jeg hv.1];rfl
 have ht0:(propM (m0 i t) v).t=t:=by rw[jeg hv.1];rfl
 have e1:numM (m0 i t) (propM (m0 i t) v)=restM (propM (m0 i t) v):=by
  unfold numM;rw[q0.adv_eq,qe (by rw[q0.rest.zb];decide),qe (by rw[show zB (m0 i t).bal=true from jaR];simp)]
 have q1:UM T v i (numM (m0 i t) (propM (m0 i t) v)):=by rw[e1];exact q0.rest
 have hsf:=(jbj q0.inv.inv).2;obtain⟨m,d,x,hn,hmm,hd,hx⟩:=jpS (k:=i) (t:=t) hi ht hv q1.check q1.prop;have hns:=NV.start (t:=t) hv hi ht
 have ck:checkM m=true:=by
  rcases hmm with rfl | rfl
  ·exact jn6 hi ht
  ·exact q1.check
 have hmn:m.node=(i:Int)/\m.slot=1/\m.t=t:=by
  rcases hmm with rfl | rfl
  ·exact⟨rfl,rfl,rfl⟩
  ·exact⟨q1.node,q1.slot,by rw[e1,hsf.t];exact ht0⟩
 have cs:checkS ⟨(startN i 1 t v).1,m,⟨0,-1⟩,1,2,d,x⟩=true :=
  jkX ck hns.1.valid (hns.1.node.trans hmn.1.symm) (hns.1.slot.trans hmn.2.1.symm) (hns.2.trans hmn.2.2.symm) (show vTm ⟨0,-1⟩=true by decide) (by show (1:Int)<=1/\(1:Int)<=1000;omega) (by show (0:Int)<=2/\(2:Int)<=212;omega) hd hx
 rw[hn]
 -- the machine after the proposal
 have hfin:UM T v i (numM m (propM m v))/\(numM m (propM m v)).t=t/\(numM m (propM m v)).heard=[]/\(numM m (propM m v)).seq<=3/\stepG (numM m (propM m v))=numM m (propM m v)/\numM m (propM m v)=restM (propM (m0 i t) v):=by
  rcases hmm with rfl | rfl
  ·rw[e1]
   exact⟨q0.rest,by rw[hsf.t];exact ht0,by rw[hsf.heard];exact hh0,by rw[hsf.seq,hq0];decide,jju q0.inv.inv,rfl⟩
  ·have hpm:propM (numM (m0 i t) (propM (m0 i t) v)) v=numM (m0 i t) (propM (m0 i t) v):=by
    generalize numM (m0 i t) (propM (m0 i t) v)=y at q1
    unfold propM;rw[qe (by rw[q1.zb];decide)];have:=q1.prop;cases y;simp only at this;subst this;rfl
   rw[hpm,e1];have hq2:(restM (propM (m0 i t) v)).seq=1:=by rw[hsf.seq,hq0]
   have hfix:=jju q0.inv.inv;have hrr:restM (restM (propM (m0 i t) v))=restM (propM (m0 i t) v):=je0 hfix;have hsame:sameE { envR (restM (propM (m0 i t) v)) with seq:=0 } { envR (restM (propM (m0 i t) v)) with seq:=0 }=true:=by simp[sameE,jc8,beqB]
   have e2:numM (restM (propM (m0 i t) v)) (restM (propM (m0 i t) v))=restM (propM (m0 i t) v):=by
    unfold numM;rw[q0.rest.adv_eq,hrr,qe (by rw[q0.rest.zb];decide),hsame,qe (by simp)]
   rw[e2];exact⟨q0.rest,by rw[hsf.t];exact ht0,by rw[hsf.heard];exact hh0,by rw[hq2];decide,hfix,rfl⟩
 obtain⟨f1,f2,f3,f4,f5,f6⟩:=hfin;have hpv:=joa (v:=v) ck hv
 have hpr:prefS' ⟨(startN i 1 t v).1,m,⟨0,-1⟩,1,2,d,x⟩ v=(setS ⟨(startN i 1 t v).1,numM m (propM m v),⟨0,-1⟩,1,2,d,x⟩,0):=by
  unfold prefS';rw[qe (by rw[cs];decide)];simp only[hpv];rw[qe (by simp)]
 rw[hpr];obtain⟨g1,g2,g3⟩:=US.set (s:=⟨(startN i 1 t v).1,numM m (propM m v),⟨0,-1⟩,1,2,d,x⟩) hns.1 f1 (hns.2.trans f2.symm) (show vTm ⟨0,-1⟩=true by decide) (by show (1:Int)<=1/\(1:Int)<=1000;omega) (by show (0:Int)<=2/\(2:Int)<=212;omega);refine⟨rfl,rfl,_,rfl,g1,?_,g3,?_,?_,?_,?_⟩<;>rw[g2]
 ·exact f2
 ·exact f3
 ·exact f4
 ·exact f5
 ·exact f6
end
theorem jbc(hq:q<1024)(h:q.testBit k=true):k<10:=by
 refine zi λhn=>?_;have h1:q<2^k:=qA hq (Nat.pow_le_pow_right (by omega:0<2) (show 10<=k by omega));rw[Nat.testBit_lt_two_pow h1] at h;cases h
def TA(A:Nat)(τ:Nat->Trust)(j:Nat)(t:Trust):Prop:=A.testBit j=true/\t=τ j
def Qt(τ:Nat->Trust)(q:Nat):Prop:=∀k:Nat,q.testBit k=true->sat (q:Nat) (τ k)=true
section
variable{v:Str}{A:Nat}{τ:Nat->Trust}{i:Nat}{T:Nat->Trust->Prop}
theorem UM.view(h:UM (TA A τ) v i m):VOK (TA A τ) (viewE m.node m.t (allM m)) :=
 jno (by rw[h.node];exact h.t) (λe he _=>(h.all e he).t)
theorem UM.own_all(h:UM T v i m):envR m∈allM m:=by
 unfold allM;rw[qe (by rw[h.zb];decide),<-h.say_env];exact jjg.2 (.inl rfl)
theorem UM.heard_all(h:UM T v i m)(he:e∈m.heard):e∈allM m:=by
 unfold allM;rw[qe (by rw[h.zb];decide)];exact jjg.2 (.inr he)
theorem UM.n10(h:UM T v i m):0<=m.node/\m.node<10:=by have:=h.node;have:=h.i10;omega
theorem jf1(hV:VOK (TA A τ) V)(hd:(declC V).testBit k=true):tOf V k=τ k:=by
 obtain⟨m,_,hm,hd⟩:=jc0.1 hd;rw[jbp hm];exact(hV k m hm hd).2
theorem UM.great_in(h:UM (TA A τ) v i m){p:Evp->Bool}(hq:q<1024)(hQ:Qt τ q)(hi:q.testBit i=true)(hp:∀j,q.testBit j=true->∃e∈allM m,e.node.toNat=j/\p e=true) :
 has (great (viewE m.node m.t (allM m)) (setP p (allM m):Nat):Nat) m.node=true:=by
 have hs:=jbh p (allM m);have hV:=h.view
 have hd:Sub q (declC (viewE m.node m.t (allM m))):=λj hj=>by
  obtain⟨e,he,hj',_⟩:=hp j hj;obtain⟨x,hx,hxd⟩:=jvA (node:=m.node) (t:=m.t) h.n10 he (h.all e he).ok;rw[hj'] at hx;exact jc0.2 ⟨x,jbc hq hj,hx,hxd⟩
 have hsub:Sub q (setP p (allM m)):=λj hj=>by
  obtain⟨e,he,hj',hpe⟩:=hp j hj;have:=jcx (h.all e he).ok;exact jbL.2 ⟨e,he,⟨hpe,by omega,by omega⟩,hj'⟩
 have hIs:IsQ (viewE m.node m.t (allM m)) q:=λk hk=>by
  have h1:=(jaX hq).1 hk;have e:((k.toNat:Nat):Int)=k:=by omega
  have:=jf1 hV (hd _ h1.2.2);rw[e] at this;rw[this];exact hQ _ h1.2.2
 have hm:=(jbw (viewE m.node m.t (allM m)) hs).most q hq hsub hd hIs;refine(jaX (jcS _ _)).2 ⟨h.n10.1,h.n10.2,?_⟩;have:=h.node;rw[show m.node.toNat=i by omega];exact hm i hi
theorem jnx(hV:VOK (TA A τ) V){s:Nat}(hs:s<1024):Qt τ (great V s)/\Sub (great V s) s/\Sub (great V s) A:=by
 have g:=jbw V hs;refine⟨λk hk=>?_,g.within,λk hk=>?_⟩
 ·have h10:=jbc g.lt hk
  have h1:=g.quorum k ((jaX g.lt).2 ⟨by omega,by omega,by rw[qq];exact hk⟩)
  rwa [jf1 hV (g.decl k hk)] at h1
 ·obtain⟨m,_,hm,hd⟩:=jc0.1 (g.decl k hk)
  exact(hV k m hm hd).1
theorem UM.great_out(h:UM (TA A τ) v i m){s:Nat}(hs:s<1024)(hh:has (great (viewE m.node m.t (allM m)) (s:Nat):Nat) m.node=true):∃q,q<1024/\Qt τ q/\q.testBit i=true/\Sub q s/\Sub q A:=by
 have g:=jnx h.view hs;have h1:=((jaX (jcS _ _)).1 hh).2.2;have:=h.node;rw[show m.node.toNat=i by omega] at h1;exact⟨_,jcS _ _,g.1,h1,g.2.1,g.2.2⟩
theorem UM.noblock(h:UM (TA A τ) v i m)(hτ:∀j,A.testBit j=true->validT (τ j)=0):blocksC (viewE m.node m.t (allM m)) m.node ((0:Nat):Int)=false:=by
 refine jl8 (λx hx hd=>?_);have:=h.view _ x hx hd;rw[this.2];exact hτ _ this.1
theorem jeN{node:Int}{t:Trust}{l:List Evp}{p q:Bal}{w:Str}{b:Bal}:∀{bs:List Bal},b∈bs->((!decide (w=noS)&&!decide (b.v=w))||prB (raiseB p) (raiseB q) b)=false->acc25 node t l b=true->nextGo node t l p q w bs∈bs
 | x::r,hb,h1,h2=>by
  rw[nextGo];rcases zf hb with rfl | hb
  ·rw[qe (by rw[h1];decide),qf h2];exact za
  ·have ih:=jeN (p:=p) (q:=q) (w:=w) hb h1 h2
   split
   ·exact qj _ ih
   ·split
    ·exact za
    ·exact qj _ ih
theorem jgA{node:Int}{t:Trust}{l:List Evp}{a b:Bal}:∀{bs:List Bal},b∈bs->b.n<=1000->lB a b=true->Tq.cnf25 node t l b=true->highGo node t l a bs∈bs
 | x::r,hb,h1,h2,h3=>by
  rw[highGo];rcases zf hb with rfl | hb
  ·rw[qf (by rw[qg h1,h2,h3];rfl)];exact za
  ·have ih:=jgA hb h1 h2 h3
   split
   ·exact za
   ·exact qj _ ih
theorem jeS{node:Int}{t:Trust}{l:List Evp}{p q:Bal}{w:Str}:∀{ns:List Int}{b:Bal},(∀n∈ns,1<=n)->1<=b.n->1<=(bestN node t l p q w ns b).n
 | [],b,_,h=>h
 | n::r,b,hn,h=>by
  rw[bestN];apply jeS (λx hx=>hn x (qj _ hx));split
  ·exact hn n (za)
  ·exact h
theorem joJ{node:Int}{t:Trust}{l:List Evp}{p q:Bal}{w:Str}{k:Int}:∀{ns:List Int}{b:Bal},(∀n∈ns,1<=n)->(b=Bal.none\/1<=b.n)->k∈ns->freeV p q k w=true->acc26 node t l w k k=true->1<=(bestN node t l p q w ns b).n
 | n::r,b,hn,hb,hk,h1,h2=>by
  rw[bestN];have hn':∀x∈r,1<=x:=λx hx=>hn x (qj _ hx);have hn1:=hn n (za);rcases zf hk with rfl | hk
  ·rcases hb with rfl | hb
   ·rw[h1,h2,show lB Bal.none ⟨k,w⟩=true by rw[jk5,qe (by show ¬(0:Int)=k;omega)];exact qg (by show (0:Int)<k;omega),qf zd]
    exact jeS hn' hn1
   ·refine jeS hn' ?_
    split
    ·exact hn1
    ·exact hb
  ·refine joJ hn' ?_ hk h1 h2
   split
   ·exact .inr hn1
   ·exact hb
theorem jlD{node:Int}{t:Trust}{l:List Evp}{p q:Bal}:∀{vs:List Str}{b:Bal},1<=b.n->1<=(bestS node t l p q vs b).n
 | [],b,h=>h
 | w::r,b,h=>by
  rw[bestS];exact jlD (jeS (λn hn=>(jaW l w n hn).1) h)
theorem jnr{node:Int}{t:Trust}{l:List Evp}{p q:Bal}{w:Str}:∀{ns:List Int}{b:Bal},(∀n∈ns,1<=n)->(b=Bal.none\/1<=b.n)->bestN node t l p q w ns b=Bal.none\/1<=(bestN node t l p q w ns b).n
 | [],b,_,h=>h
 | n::r,b,hn,h=>by
  rw[bestN];apply jnr (λx hx=>hn x (qj _ hx));split
  ·exact .inr (hn n (za))
  ·exact h
theorem jol{node:Int}{t:Trust}{l:List Evp}{p q:Bal}{w:Str}{k:Int}:∀{vs:List Str}{b:Bal},(b=Bal.none\/1<=b.n)->w∈vs->k∈boundsV l w->freeV p q k w=true->acc26 node t l w k k=true->1<=(bestS node t l p q vs b).n
 | x::r,b,hb,hw,hk,h1,h2=>by
  rw[bestS];rcases zf hw with rfl | hw
  ·exact jlD (joJ (λn hn=>(jaW l _ n hn).1) hb hk h1 h2)
  ·exact jol (jnr (λn hn=>(jaW l _ n hn).1) hb) hw hk h1 h2
theorem jjh{node:Int}{t:Trust}{l:List Evp}{p q:Bal}{w:Str}{k:Int}(hw:w∈valuesV l)(hk:k∈boundsV l w)(h1:freeV p q k w=true)(h2:acc26 node t l w k k=true):(firstV node t l p q).2.2.2=true:=by
 have:=jol (node:=node) (t:=t) (l:=l) (p:=p) (q:=q) (b:=Bal.none) (.inl rfl) hw hk h1 h2;unfold firstV;rw[qe (by rw[show bestV node t l p q=bestS node t l p q (valuesV l) Bal.none from rfl,jbH this];decide)]
theorem jof{node:Int}{t:Trust}{l:List Evp}{w:Str}{k:Int}(ns:List Int):k∈ns->cnf26 node t l w k k=true->(finGo node t l w ns).2.2=true:=by
 induction ns with
 | nil=>intro h;cases h
 | cons n r ih =>
  intro hk h;cases hc:cnf26 node t l w n n with
  | true=>rw[jjU hc]
  | false =>
   rw[jjD hc];rcases zf hk with rfl | hk
   ·rw[h] at hc;cases hc
   ·exact ih hk h
theorem jsd{node:Int}{t:Trust}{l:List Evp}{w:Str}(ns:List Int):(finGo node t l w ns).2.2=true->(finGo node t l w ns).2.1∈ns:=by
 induction ns with
 | nil=>intro h;cases h
 | cons n r ih =>
  intro h;cases hc:cnf26 node t l w n n with
  | true=>rw[jjU hc];exact za
  | false =>
   rw[jjD hc] at h ⊢;exact qj _ (ih h)
end
structure NE(e:Evp):Prop where
 kind:¬e.kind=3
 bal:e.bal.n=1
 prep:e.prep.n<=1
 low:¬e.low=0->e.low=1/\e.high=1
def LE(e:Evp):Prop:=¬e.low=0->e.low=1/\e.high=1
def Q2(τ:Nat->Trust)(v:Str)(i:Nat)(l:List Evp):Prop:=∃q,q<1024/\Qt τ q/\q.testBit i=true/\∀j,¬j=i->q.testBit j=true->∃e∈l,e.node.toNat=j/\acR e v 1 1=true
structure W1(τ:Nat->Trust)(v:Str)(i:Nat)(m:Mach):Prop where
 p1:m.phase=1->m.bal.n=1/\m.prep.n<=1/\m.conf.n<=1/\m.low=m.conf.n
 p2:m.phase=2->(m.low=1/\m.high=1)/\((m.prep.n=1/\m.bal.n=1)\/Q2 τ v i m.heard)
 p3:m.phase=3->m.low=1/\m.high=1
theorem jrn(h:vE e=true)(hk:¬e.kind=1):1<=e.low/\e.low<=e.high:=by
 unfold vE at h;rw[qh] at h;have h2:=h.2;unfold kindE at h2;rw[qe hk] at h2;split at h2
 ·unfold rngE at h2
  simp only[qh,qo] at h2;exact⟨h2.2.2.2.2.1.1,h2.2.2.2.2.1.2.1⟩
 ·split at h2
  ·unfold rngE at h2
   simp only[qh,qo] at h2;exact⟨h2.2.2.2.1,h2.2.2.2.2.1⟩
  ·cases h2
section
variable{v:Str}{A:Nat}{τ:Nat->Trust}{i:Nat}{T:Nat->Trust->Prop}
theorem jd3(h:UE T v e)(hk:¬e.kind=1)(hl:e.low=1):acR e v 1 1=true:=by
 have h1:=jrn h.ok hk;unfold acR;rw[h.ok,qz hk,qg h.bal,qg (p:=e.low<=1) zo,qg (p:=(1:Int)<=e.high) zo];simp
theorem UM.high1(h:UM T v i m)(hp:m.phase=1):(envR m).high=m.conf.n:=by
 show (if m.phase=1 then (if (!zB m.conf&&cB m.conf m.bal)=true then m.conf.n else 0) else m.high)=_;rw[qf hp];rcases h.confo with hc | hc
 ·rw[hc,qe (by rw[jaR];simp)];rfl
 ·rw[jbH hc.2,jpC hc.1 h.balv,qf (show (!false&&true)=true from rfl)]
theorem UM.high2(hp:¬m.phase=1):(envR m).high=m.high:=by
 show (if m.phase=1 then _ else m.high)=_;rw[qe hp]
theorem UM.eprep(hp:¬m.phase=3)(h:m.phase=1\/m.phase=2\/m.phase=3):(envR m).prep=m.prep:=by
 show (if m.phase=1\/m.phase=2 then m.prep else Bal.none)=_;rw[qf zo]
theorem W1.own_le(h:UM T v i m)(w:W1 τ v i m):LE (envR m):=by
 intro h0;have h0:¬m.low=0:=h0;have e:(envR m).low=m.low:=rfl;rw[e];rcases h.ph with hp | hp | hp
 ·have h1:=w.p1 hp
  have hl:=h.inv.inv.low;rw[h.high1 hp];omega
 ·rw[UM.high2 zo];exact(w.p2 hp).1
 ·rw[UM.high2 zo];exact w.p3 hp
theorem UM.bounds1(h:UM T v i m)(ho:LE (envR m))(hl:∀e∈m.heard,LE e):∀n∈boundsV (allM m) v,n=1:=by
 intro n hn;obtain⟨e,he,_,_,h0,h1⟩:=jbI.1 hn
 have:LE e:=by
  rcases jb0 he with rfl | he
  ·rw[h.say_env];exact ho
  ·exact hl e he
 have h2:=this h0;omega
theorem jp1{node:Int}{a b:Nat}(hb:b=0)(hbl:blocksC V node ((0:Nat):Int)=false)(h:acceptsC V node (a:Int) (b:Int)=true):has (great V (a:Nat):Nat) node=true:=by
 subst hb;unfold acceptsC at h;rw[hbl,Bool.false_or] at h;simp only[qh] at h;have:=h.2.2;simpa using this
theorem UM.beyond(h:UM (TA A τ) v i m)(hτ:∀j,A.testBit j=true->validT (τ j)=0)(hN:∀e∈m.heard,NE e)(hp:¬m.phase=3)(h1:m.phase=1->m.bal.n=1)(h2:m.prep.n<=1){b:Bal}(hb:b.v=v)(hb1:1<b.n)
 (ha:acc25 m.node m.t (allM m) b=true):m.phase=2/\Q2 τ v i m.heard:=by
 have hap:∀e∈allM m,apR e b=false:=λe he=>by
  have hu:=h.all e he
  have hk:¬e.kind=3/\e.prep.n<=1:=by
   rcases jb0 he with rfl | he
   ·rw[h.say_env]
    exact⟨hp,by rw[UM.eprep hp h.ph];exact h2⟩
   ·exact⟨(hN e he).kind,(hN e he).prep⟩
  unfold apR;rw[qe hk.1,hu.prime,jhJ hu.prep hb zo,qz zo];simp
 unfold acc25 at ha;have hg:=jp1 (jkA hap) (h.noblock hτ) ha;obtain⟨q,hq,hQ,hi,hs,_⟩:=h.great_out (jbh _ _) hg
 have hv:∀j,q.testBit j=true->∃e∈allM m,e.node.toNat=j/\vpR e b=true:=λj hj=>by
  obtain⟨e,he,⟨h3,_⟩,h4⟩:=jbL.1 (hs j hj);rw[hap e he,Bool.false_or] at h3;exact⟨e,he,h4,h3⟩
 have hvk:∀e,UE (TA A τ) v e->vpR e b=true->e.kind=1->b.n<=e.bal.n:=λe hu h3 hk=>by
  unfold vpR at h3;rw[qf hk,jfW hu.balb hb zo] at h3;simp only[qh,qo] at h3;exact h3.2
 have hp2:m.phase=2:=by
  obtain⟨e,he,h3,h4⟩:=hv i hi;rw[h.own he h3] at h4;refine zi λhn=>?_;have h5:m.phase=1:=by have:=h.ph;omega
  have h6:b.n<=m.bal.n:=hvk _ h.env_ue h4 h5;have:=h1 h5;omega
 refine⟨hp2,q,hq,hQ,hi,λj hj hqj=>?_⟩;obtain⟨e,he,h3,h4⟩:=hv j hqj
 have heh:e∈m.heard:=by
  rcases jb0 he with rfl | he
  ·have:=h.node
   exact qp (show m.node.toNat=j from h3) zo
  ·exact he
 have hn:=hN e heh;have hu:=h.all e he
 have hk:¬e.kind=1:=λhk=>by
  have:=hvk e hu h4 hk;have:=hn.bal;omega
 have hl:=jrn hu.ok hk;exact⟨e,heh,h3,jd3 hu hk (hn.low zo).1⟩
theorem W1.prepM(h:UM (TA A τ) v i m)(hτ:∀j,A.testBit j=true->validT (τ j)=0)(hN:∀e∈m.heard,NE e)(w:W1 τ v i m):W1 τ v i (prepM m):=by
 by_cases hp:m.phase=3
 ·have:Tq.prepM m=m:=by unfold Tq.prepM;rw[qf (.inl hp)]
  rw[this];exact w
 ·rw[h.prep_eq hp]
  have key:m.prep.n<=1->(prepB m).n<=1\/(m.phase=2/\Q2 τ v i m.heard):=λh2=>by
   refine zi λhn=>?_;have hn1:¬(prepB m).n<=1:=λh'=>hn (.inl h');rcases jbV m.node m.t (allM m) m.prep m.prime (if m.phase=2 then m.bal.v else noS) (ballotsV (allM m)) with h3 | ⟨h3,_,h4⟩
   ·refine hn1 ?_
    show (finB1 (nextV m.node m.t (allM m) m.prep m.prime (if m.phase=2 then m.bal.v else noS))).n<=1;unfold nextV;rw[h3];decide
   ·have hb:=jbu h.all _ h3
    refine hn (.inr (h.beyond hτ hN hp (λh'=>(w.p1 h').1) h2 hb.1 ?_ h4));have hf:=(jii (v:=v) (.inr hb)).2.2;have e:(prepB m).n=min (nextGo m.node m.t (allM m) m.prep m.prime (if m.phase=2 then m.bal.v else noS) (ballotsV (allM m))).n 1000:=hf;omega
  refine⟨λh1=>?_,λh1=>?_,λh1=>qp h1 hp⟩
  ·have h1:m.phase=1:=h1
   have w1:=w.p1 h1;refine⟨w1.1,?_,w1.2.2⟩;show (prepN m).n<=1;unfold Tq.prepN;rcases key w1.2.1 with k | k
   ·split<;>omega
   ·omega
  ·have h1:m.phase=2:=h1
   have w2:=w.p2 h1;refine⟨w2.1,?_⟩;rcases w2.2 with h2 | h2
   ·rcases key zo with k | k
    ·left
     refine⟨?_,h2.2⟩;show (prepN m).n=1;unfold Tq.prepN;split<;>omega
    ·exact .inr k.2
   ·exact .inr h2
theorem W1.confS(h:UM (TA A τ) v i m)(w:W1 τ v i m):W1 τ v i (confS m):=by
 by_cases hp:m.phase=1
 ·cases hz:zB (confB m) with
  | true =>
   have:Tq.confS m=m:=by unfold Tq.confS;rw[qe (by rw[h.zb];simp[hp]),qf hz]
   rw[this];exact w
  | false =>
   obtain⟨hb,hb2,hb3,hb4⟩:=h.confB hz;have w1:=w.p1 hp;have hb5:=hb4 (.inl hp);rw[h.conf_eq hp hz];refine⟨λ_=>⟨?_,w1.2.1,?_,?_⟩,λh1=>qp (show m.phase=2 from h1) zo,λh1=>qp (show m.phase=3 from h1) zo⟩
   ·show (if m.bal.n<(Tq.confB m).n then Tq.confB m else m.bal).n=1
    split<;>omega
   ·show (Tq.confB m).n<=1;omega
   ·show (if m.low=0/\m.bal.n<=(Tq.confB m).n then (Tq.confB m).n else m.low)=(Tq.confB m).n
    have h0:=h.confo.n0;rw[qf zo]
 ·have:Tq.confS m=m:=by unfold Tq.confS;rw[qf (.inl hp)]
  rw[this];exact w
theorem UM.com1(h:UM T v i m)(ho:LE (envR m))(hl:∀e∈m.heard,LE e)(hf:(Tq.comF m).2.2.2=true):(Tq.comF m).2.1=1/\(Tq.comF m).2.2.1=1:=by
 have h1:=h.comF hf
 have h2:(Tq.comF m).2.2.1=1:=by
  unfold Tq.comF firstV at hf ⊢;split at hf
  ·cases hf
  ·rename_i hz
   rw[qe hz];rcases jmF m.node m.t (allM m) m.prep m.prime with e | ⟨a1,a2,_⟩
   ·rw[e] at hz;exact qp jaR hz
   ·rw[jlA h.all _ a1] at a2
    exact h.bounds1 ho hl _ a2
 omega
theorem jq3{ok:Int->Bool}{l:List Int}(h:∀x∈l,x=1):lowGo ok l 1=1:=by
 induction l with
 | nil=>rfl
 | cons x r ih =>
  rw[lowGo,qf (by rw[h x (za)];exact Int.le_refl _)];exact ih (λy hy=>h y (qj _ hy))
theorem UM.ext1(h:UM T v i m)(ho:LE (envR m))(hl:∀e∈m.heard,LE e)(h1:m.low=1/\m.high=1):comX m=(1,1):=by
 have hb:∀x∈(boundsV (allM m) m.bal.v).reverse,x=1:=λx hx=>by
  rw[h.balv] at hx;exact h.bounds1 ho hl x (List.mem_reverse.1 hx)
 have he:extGo m.node m.t (allM m) m.bal.v (boundsV (allM m) m.bal.v).reverse (m.low,m.high)=(1,1):=by
  rw[h1.1,h1.2];cases hr:(boundsV (allM m) m.bal.v).reverse with
  | nil=>rfl
  | cons x r =>
   rw[jiG];rw[hb x (by rw[hr];exact za)];decide
 unfold comX extendV;rw[he];show (downV m.node m.t (allM m) m.bal.v 1 1,(1:Int))=(1,1);unfold downV;rw[jq3 hb]
theorem W1.comM(h:UM (TA A τ) v i m)(hN:∀e∈m.heard,LE e)(w:W1 τ v i m):W1 τ v i (comM m):=by
 have ho:=w.own_le h
 by_cases hp:m.phase=1
 ·by_cases hf:(comF m).2.2.2=true
  ·have hc:=h.com1 ho hN hf
   have hv:=(h.comF hf).1;have w1:=w.p1 hp;have hbv:(comB m).v=v:=hv;have hbn:(comB m).n=1:=hc.2;unfold Tq.comM;rw[qf hp,qf hf];refine⟨λh1=>qp (show (2:Int)=1 from h1) zo,λ_=>⟨hc,.inl ⟨?_,?_⟩⟩,λh1=>qp (show (2:Int)=3 from h1) zo⟩
   ·show (if covB m.prep (comB m)=true then m.prep else comB m).n=1
    split
    ·rename_i hcv
     rw[jfW h.prepo hbv zo] at hcv;have:=qc hcv;omega
    ·exact hbn
   ·show (if (!cB m.bal (comB m)||lB m.bal (comB m))=true then (⟨max m.bal.n (comB m).n,(comB m).v⟩:Bal) else m.bal).n=1
    split
    ·show max m.bal.n (comB m).n=1;omega
    ·exact w1.1
  ·have:Tq.comM m=m:=by unfold Tq.comM;rw[qf hp,qe hf]
   rw[this];exact w
 ·by_cases hp2:m.phase=2
  ·have w2:=w.p2 hp2
   have hx:=h.ext1 ho hN w2.1;have hb:=h.baln;unfold Tq.comM;rw[qe hp,qf hp2,hx];refine⟨λh1=>qp h1 hp,λ_=>⟨⟨rfl,rfl⟩,?_⟩,λh1=>qp (show m.phase=3 from h1) zo⟩;rcases w2.2 with h2 | h2
   ·exact .inl ⟨by show max m.prep.n 1=1;omega,by show max m.bal.n 1=1;omega⟩
   ·exact .inr h2
  ·have:Tq.comM m=m:=by unfold Tq.comM;rw[qe hp,qe hp2]
   rw[this];exact w
theorem UM.fin1(h:UM T v i m)(ho:LE (envR m))(hl:∀e∈m.heard,LE e)(hf:(finF m).2.2=true):(finF m).1=1/\(finF m).2.1=1:=by
 have h1:=jgf hf;have h2:=jom hf
 have h3:(finF m).2.1=1:=by
  have:=jsd _ hf;rw[h.balv] at this;have h4:=h.bounds1 ho hl _ (List.mem_reverse.1 this);rw[<-h4];unfold finF finalB;rw[h.balv]
 refine⟨?_,h3⟩;have h4:1<=(finF m).1:=h1.1.1;have h5:(finF m).1<=(finF m).2.1:=h2;omega
theorem W1.finM(h:UM (TA A τ) v i m)(hN:∀e∈m.heard,LE e)(w:W1 τ v i m):W1 τ v i (finM m):=by
 by_cases hp:m.phase=2
 ·by_cases hf:(finF m).2.2=true
  ·have h1:=h.fin1 (w.own_le h) hN hf
   unfold Tq.finM;rw[qe (λh'=>h' hp),qf hf];exact⟨λh1=>qp (show (3:Int)=1 from h1) zo,λh1=>qp (show (3:Int)=2 from h1) zo,λ_=>h1⟩
  ·have:Tq.finM m=m:=by unfold Tq.finM;rw[qe (λh'=>h' hp),qe hf]
   rw[this];exact w
 ·have:Tq.finM m=m:=by unfold Tq.finM;rw[qf hp]
  rw[this];exact w
theorem UM.noahead(h:UM (TA A τ) v i m)(hτ:∀j,A.testBit j=true->validT (τ j)=0)(hN:∀e∈m.heard,cntR e<=n):aheadV m n=false:=by
 unfold aheadV;rw[jkA (λe he=>qz (by have:=hN e he;omega))];exact h.noblock hτ
theorem NE.cnt(h:NE e):cntR e<=1:=by
 unfold cntR cntE;rw[qe h.kind,h.bal];split<;>omega
theorem W1.cauM(h:UM (TA A τ) v i m)(hτ:∀j,A.testBit j=true->validT (τ j)=0)(hN:∀e∈m.heard,NE e)(w:W1 τ v i m):cauM m=m:=by
 unfold Tq.cauM;rw[qf (.inr (h.noahead hτ (λe he=>by have:=(hN e he).cnt;have:=h.baln;omega)))]
theorem W1.stepG(h:UM (TA A τ) v i m)(hτ:∀j,A.testBit j=true->validT (τ j)=0)(hN:∀e∈m.heard,NE e)(w:W1 τ v i m):W1 τ v i (stepG m):=by
 unfold Tq.stepG;split
 ·exact w.prepM h hτ hN
 split
 ·exact w.confS h
 split
 ·exact w.comM h (λe he=>(hN e he).low)
 split
 ·exact w.finM h (λe he=>(hN e he).low)
 ·rw[w.cauM h hτ hN];exact w
theorem W1.rest(h:UM (TA A τ) v i m)(hτ:∀j,A.testBit j=true->validT (τ j)=0)(hN:∀e∈m.heard,NE e)(w:W1 τ v i m):W1 τ v i (restM m):=by
 have:=jcu (P:=λc=>(UM (TA A τ) v i c/\c.heard=m.heard)/\W1 τ v i c) (λc hc ⟨⟨h1,h2⟩,h3⟩=>⟨⟨h1.stepG,((ja3 hc).1.heard).trans h2⟩,h3.stepG h1 hτ (by rw[h2];exact hN)⟩) h.inv.inv ⟨⟨h,rfl⟩,w⟩;exact this.2
end
def bal1(v:Str):Bal:=⟨1,v⟩
section
variable{v:Str}{A:Nat}{τ:Nat->Trust}{i:Nat}{T:Nat->Trust->Prop}
def Said(p:Evp->Bool)(q i:Nat)(l:List Evp):Prop:=∀j,¬j=i->q.testBit j=true->∃e∈l,e.node.toNat=j/\p e=true
theorem UM.said(h:UM T v i m){p:Evp->Bool}(hs:Said p q i m.heard)(ho:q.testBit i=true->p (envR m)=true):∀j,q.testBit j=true->∃e∈allM m,e.node.toNat=j/\p e=true:=by
 intro j hj
 by_cases e:j=i
 ·subst e
  exact⟨envR m,h.own_all,by have:=h.node;show m.node.toNat=j;omega,ho hj⟩
 ·obtain⟨x,hx,h1,h2⟩:=hs j e hj
  exact⟨x,h.heard_all hx,h1,h2⟩
theorem jkR{node:Int}{a b:Nat}(ha:a<1024)(hb:b<1024)(hs:∀k,b.testBit k=true->a.testBit k=true)(h:has (great V (a:Nat):Nat) node=true):acceptsC V node (a:Int) (b:Int)=true:=by
 unfold acceptsC
 have e:a|||b=a:=Nat.eq_of_testBit_eq λk=>by
  rw[Nat.testBit_or];cases hbk:b.testBit k with
  | false=>simp
  | true=>rw[hs k hbk];rfl
 rw[ja1.2 ⟨by omega,by omega⟩,ja1.2 ⟨by omega,by omega⟩,qq,qq,e,h];simp
theorem jcJ{p p':Evp->Bool}{l:List Evp}(h:∀e,p e=true->p' e=true):∀k,(setP p l).testBit k=true->(setP p' l).testBit k=true:=λk hk=>by
 obtain⟨e,he,⟨h1,h2⟩,h3⟩:=jbL.1 hk;exact jbL.2 ⟨e,he,⟨h e h1,h2⟩,h3⟩
def vote1(v:Str)(e:Evp):Bool:=apR e (bal1 v)||vpR e (bal1 v)
theorem UE.vote(h:UE T v e):vote1 v e=true:=by
 unfold vote1 vpR;have hb:=(jnz h.ok).1;rw[h.ok,show zB (bal1 v)=false from jbH (by show (1:Int)<=1;omega)]
 by_cases hk:e.kind=1
 ·rw[qf hk,jfW h.balb rfl (by show (1:Int)<=1;omega),qg (by show (1:Int)<=e.bal.n;omega)]
  simp
 ·rw[qe hk,show cB e.bal (bal1 v)=true from jpC h.bal rfl]
  simp
theorem UE.ap(h:UE T v e)(hk:¬e.kind=3):apR e (bal1 v)=decide (1<=e.prep.n):=by
 unfold apR;rw[h.ok,show zB (bal1 v)=false from jbH (by show (1:Int)<=1;omega),qe hk,h.prime,jhJ h.prep rfl (by show (1:Int)<=1;omega)];rfl
theorem UE.ap3(h:UE T v e)(hk:e.kind=3):apR e (bal1 v)=true:=by
 unfold apR;rw[h.ok,show zB (bal1 v)=false from jbH (by show (1:Int)<=1;omega),qf hk,show cB e.bal (bal1 v)=true from jpC h.bal rfl];rfl
theorem UM.bal_in(h:UM T v i m)(hp:m.phase=1)(hb:m.bal.n=1):bal1 v∈ballotsV (allM m):=by
 refine jc1.2 ⟨envR m,h.own_all,h.env_ue.ok,?_,jbH (by show (1:Int)<=1;omega)⟩;unfold ownB;rw[qf (show (envR m).kind=1 from hp)];have:(envR m).bal=bal1 v:=jfF hb h.balv;rw[this];exact za
theorem far2(h:UM (TA A τ) v i m)(hr:AtRest m)(hb:m.phase=1->m.bal.n=1)(hq:q<1024)(hQ:Qt τ q)(hi:q.testBit i=true)(hs:Said (vote1 v) q i m.heard):m.phase=3\/1<=m.prep.n:=by
 rcases h.ph with hp | hp | hp
 ·right
  refine zi λhn=>?_;have hp3:¬m.phase=3:=by omega
  have h0:m.prep=Bal.none:=h.prepo.zero (by have:=h.prepo.n0;omega);have hg:=h.great_in hq hQ hi (h.said hs (λ_=>h.env_ue.vote));have ha:acc25 m.node m.t (allM m) (bal1 v)=true:=jkR (jbh _ _) (jbh _ _) (jcJ (λe he=>by rw[he];rfl)) hg
  have hin:=jeN (node:=m.node) (t:=m.t) (l:=allM m) (p:=m.prep) (q:=m.prime) (w:=if m.phase=2 then m.bal.v else noS) (h.bal_in hp (hb hp)) (by
   rw[qe zo,h0,h.prime,qg (rfl:noS=noS)]
   rw[show raiseB Bal.none=Bal.none from rfl,jya];rfl) ha
  have hb2:=jbu h.all _ hin;have hf:=(jii (v:=v) (.inr hb2)).2.2;have e:(prepB m).n=min (nextGo m.node m.t (allM m) m.prep m.prime (if m.phase=2 then m.bal.v else noS) (ballotsV (allM m))).n 1000:=hf;have h1:=hr.prep;rw[h.prep_eq hp3] at h1
  have h2:(prepN m).n=m.prep.n:=by
   have:({ m with prep:=prepN m }:Mach).prep.n=m.prep.n:=by rw[h1]
   exact this
  unfold prepN at h2;split at h2<;>omega
 ·right;exact(h.p2 hp).1.2.1
 ·exact .inl hp
theorem far3(h:UM (TA A τ) v i m)(hr:AtRest m)(hp:m.phase=1)(hb:m.bal.n=1)(hpr:1<=m.prep.n)(hq:q<1024)(hQ:Qt τ q)(hi:q.testBit i=true)(hs:Said (λe=>apR e (bal1 v)) q i m.heard):1<=m.conf.n:=by
 refine zi λhn=>?_;have h0:m.conf=Bal.none:=h.confo.zero (by have:=h.confo.n0;omega)
 have hg:=h.great_in hq hQ hi (h.said hs (λ_=>by
  show apR (envR m) (bal1 v)=true;rw[h.env_ue.ap (by show ¬m.phase=3;omega),UM.eprep zo h.ph]
  exact qg hpr))
 have hin:=jgA (node:=m.node) (t:=m.t) (l:=allM m) (a:=m.conf) (h.bal_in hp hb) (by show (1:Int)<=1000;omega) (by rw[h0,jk5,qe (by show ¬(0:Int)=1;omega)];rfl) hg;have hb2:=jbu h.all _ hin;have hz:zB (confB m)=false:=jbH hb2.2;have h1:=hr.conf;rw[h.conf_eq hp hz] at h1
 have h2:(confB m).n=m.conf.n:=by
  have:({ m with conf:=confB m,bal:=(if m.bal.n<(confB m).n then confB m else m.bal),low:=(if m.low=0/\m.bal.n<=(confB m).n then (confB m).n else m.low) }:Mach).conf.n=m.conf.n:=by rw[h1]
  exact this
 have h3:1<=(confB m).n:=hb2.2;omega
def com1(v:Str)(e:Evp):Bool:=acR e v 1 1||vcR e v 1 1
theorem far4(h:UM (TA A τ) v i m)(hr:AtRest m)(hp:m.phase=1)(hq:q<1024)(hQ:Qt τ q)(hi:q.testBit i=true)(hs:Said (com1 v) q i m.heard)(hl:m.low=1)(hc:1<=m.conf.n):False:=by
 have hhi:(envR m).high=m.conf.n:=h.high1 hp
 have hown:com1 v (envR m)=true:=by
  unfold com1 vcR;rw[h.env_ue.ok,qg h.env_ue.bal,hhi];show (acR (envR m) v 1 1||((true&&(decide ((1:Int)<=1)&&(decide ((1:Int)<=1)&&(true&&(!decide (m.low=0)&&decide (m.low<=1))))))&&(!decide ((envR m).kind=1)||decide (1<=m.conf.n))))=true;rw[hl,qg hc];simp
 have hg:=h.great_in hq hQ hi (h.said hs (λ_=>hown));have ha:acc26 m.node m.t (allM m) v 1 1=true:=jkR (jbh _ _) (jbh _ _) (jcJ (λe he=>by rw[he];rfl)) hg;have hv:v∈valuesV (allM m):=jdJ.2 ⟨envR m,h.own_all,h.env_ue.ok,h.env_ue.bal.symm⟩;have hbd:(1:Int)∈boundsV (allM m) v:=jbI.2 ⟨envR m,h.own_all,h.env_ue.ok,h.env_ue.bal,by show ¬m.low=0;omega,.inl hl.symm⟩
 have hf:(comF m).2.2.2=true:=by
  unfold comF;refine jjh hv hbd ?_ ha;rw[h.prime];exact jmy h.prepo
 have h1:=hr.com;have h2:(comM m).phase=2:=by unfold comM;rw[qf hp,qf hf]
 rw[h1] at h2;omega
theorem far5(h:UM (TA A τ) v i m)(hr:AtRest m)(hp:m.phase=2)(hl:m.low=1)(hq:q<1024)(hQ:Qt τ q)(hi:q.testBit i=true)(hs:Said (λe=>acR e v 1 1) q i m.heard):False:=by
 have hg:=h.great_in hq hQ hi (h.said hs (λ_=>jd3 h.env_ue (by show ¬m.phase=1;omega) hl));have hbd:(1:Int)∈boundsV (allM m) v:=jbI.2 ⟨envR m,h.own_all,h.env_ue.ok,h.env_ue.bal,by show ¬m.low=0;omega,.inl hl.symm⟩
 have hf:(finF m).2.2=true:=by
  unfold finF finalB;rw[h.balv];exact jof _ (List.mem_reverse.2 hbd) hg
 have h1:=hr.fin;have h2:(finM m).phase=3:=by unfold finM;rw[qe (λh'=>h' hp),qf hf]
 rw[h1] at h2;omega
theorem Q2.far(h:UM (TA A τ) v i m)(hr:AtRest m)(hp:m.phase=2)(hl:m.low=1)(hq:Q2 τ v i m.heard):False:=by
 obtain⟨q,h1,h2,h3,h4⟩:=hq;exact far5 h hr hp hl h1 h2 h3 h4
theorem W1.ne(h:UM (TA A τ) v i m)(w:W1 τ v i m)(hr:AtRest m)(hp:¬m.phase=3):NE (envR m)/\(m.phase=2->m.prep.n=1/\m.bal.n=1):=by
 have h2:m.phase=2->m.prep.n=1/\m.bal.n=1:=λhp2=>by
  have w2:=w.p2 hp2;rcases w2.2 with h3 | h3
  ·exact h3
  ·exact(Q2.far h hr hp2 w2.1.1 h3).elim
 refine⟨⟨hp,?_,?_,w.own_le h⟩,h2⟩
 ·rcases h.ph with h1 | h1 | h1
  ·exact(w.p1 h1).1
  ·exact(h2 h1).2
  ·exact qp h1 hp
 ·rw[UM.eprep hp h.ph]
  rcases h.ph with h1 | h1 | h1
  ·exact(w.p1 h1).2.1
  ·have:=(h2 h1).1;omega
  ·exact qp h1 hp
def W5(m:Mach):Prop:=(m.phase=2\/m.phase=3)/\m.low=1/\m.high=1
theorem W5.own_le(w:W5 m):LE (envR m):=λ_=>by
 rw[UM.high2 (by have:=w.1;omega)];exact w.2
theorem W5.stepG(h:UM T v i m)(w:W5 m)(hl:∀e∈m.heard,LE e):W5 (stepG m):=by
 have ho:=w.own_le
 have hprep:W5 (prepM m):=by
  by_cases hp:m.phase=3
  ·have:prepM m=m:=by unfold prepM;rw[qf (.inl hp)]
   rw[this];exact w
  ·rw[h.prep_eq hp];exact w
 have hconf:confS m=m:=by unfold confS;rw[qf (.inl (by have:=w.1;omega))]
 have hcom:W5 (comM m):=by
  rcases w.1 with hp | hp
  ·unfold comM
   rw[qe zo,qf hp,h.ext1 ho hl w.2];exact⟨.inl hp,rfl,rfl⟩
  ·have:comM m=m:=by unfold comM;rw[qe zo,qe zo]
   rw[this];exact w
 have hfin:W5 (finM m):=by
  rcases w.1 with hp | hp
  ·by_cases hf:(finF m).2.2=true
   ·have h1:=h.fin1 ho hl hf
    unfold finM;rw[qe (λh'=>h' hp),qf hf];exact⟨.inr rfl,h1⟩
   ·have:finM m=m:=by unfold finM;rw[qe (λh'=>h' hp),qe hf]
    rw[this];exact w
  ·have:finM m=m:=by unfold finM;rw[qf zo]
   rw[this];exact w
 have hcau:W5 (cauM m):=by
  by_cases hc:m.phase=3\/aheadV m m.bal.n=false
  ·have:cauM m=m:=by unfold cauM;rw[qf hc]
   rw[this];exact w
  ·rw[h.cau_eq hc];exact w
 unfold Tq.stepG;split
 ·exact hprep
 split
 ·rw[hconf];exact w
 split
 ·exact hcom
 split
 ·exact hfin
 ·exact hcau
theorem W5.rest(h:UM T v i m)(w:W5 m)(hl:∀e∈m.heard,LE e):W5 (restM m):=by
 have:=jcu (P:=λc=>(UM T v i c/\c.heard=m.heard)/\W5 c) (λc hc ⟨⟨h1,h2⟩,h3⟩=>⟨⟨h1.stepG,((ja3 hc).1.heard).trans h2⟩,h3.stepG h1 (by rw[h2];exact hl)⟩) h.inv.inv ⟨⟨h,rfl⟩,w⟩;exact this.2
end
theorem jqM{a b:Pcl}:befV a b=true↔a.due<b.due\/(a.due=b.due/\(a.src<b.src\/(a.src=b.src/\(a.dst<b.dst\/(a.dst=b.dst/\a.num<b.num))))):=by
 unfold befV;split
 ·rw[decide_eq_true_iff];omega
 ·split
  ·rw[decide_eq_true_iff];omega
  ·split
   ·rw[decide_eq_true_iff];omega
   ·rw[decide_eq_true_iff];omega
theorem jks{a b c:Pcl}(h:befV a b=true)(k:befV b c=true):befV a c=true:=by
 rw[jqM] at *;omega
theorem jhd{n:Ntw}:∀(l:List Pcl)(q:Option Pcl),pclGo n q l=true↔(∀p∈l,pclOk n p=true)/\l.Pairwise (λa b=>befV a b=true)/\(∀x,q=some x->∀p∈l,befV x p=true)
 | [],q=>by simp[pclGo]
 | x::r,q=>by
  have ih:=jhd (n:=n) r (some x)
  have e1:pclGo n q (x::r)=true↔pclOk n x=true/\(∀y,q=some y->befV y x=true)/\pclGo n (some x) r=true:=by
   cases q with
   | none=>simp[pclGo]
   | some y=>simp[pclGo,and_assoc]
  rw[e1,ih,List.pairwise_cons];constructor
  ·rintro⟨h1,h2,h3,h4,h5⟩
   refine⟨λe he=>?_,⟨λe he=>h5 _ rfl e he,h4⟩,λy hy e he=>?_⟩
   ·rcases zf he with rfl | he
    ·exact h1
    ·exact h3 e he
   ·rcases zf he with rfl | he
    ·exact h2 y hy
    ·exact jks (h2 y hy) (h5 _ rfl e he)
  ·rintro⟨h1,⟨h2,h3⟩,h4⟩
   exact⟨h1 x (za),λy hy=>h4 y hy x (za),λe he=>h1 e (qj _ he),h3,λy hy e he=>by cases hy;exact h2 e he⟩
theorem jiQ{p:Pcl}{l:List Pcl}:∀i,i<=l.length->(∀j,frontGo p l i<=j->j<i->∃x,l[j]?=some x/\befV p x=true)/\(0<frontGo p l i->∃x,l[frontGo p l i - 1]?=some x/\befV p x=false)
 | 0,_=>⟨λj _ h=>by omega,λh=>by simp[frontGo] at h⟩
 | i+1,hi=>by
  have hx:=ze (show i<l.length by omega);unfold frontGo;rw[hx];simp only
  by_cases hb:befV p l[i]=true
  ·rw[qf hb]
   have ih:=jiQ (p:=p) (l:=l) i zo;refine⟨λj h1 h2=>?_,ih.2⟩
   by_cases e:j=i
   ·subst e;exact⟨_,hx,hb⟩
   ·exact ih.1 j h1 zo
  ·rw[qe hb]
   exact⟨λj h1 h2=>by omega,λ_=>⟨l[i],by rw[Nat.add_sub_cancel];exact hx,by simpa using hb⟩⟩
theorem jpg{n m:Ntw}{p:Pcl}(h:pclOk n p=true)(hn:n.next<=m.next):pclOk m p=true:=by
 unfold pclOk at *;simp only[qh,qo] at h ⊢;exact⟨h.1,by omega⟩
theorem jqq{p:Pcl}{l:List Pcl}(hs:l.Pairwise (λa b=>befV a b=true))(hn:∀x∈l,x.num<p.num):(l.take (frontP p l)++[p]++l.drop (frontP p l)).Pairwise (λa b=>befV a b=true):=by
 have hf:=jiQ (p:=p) (l:=l) l.length (Nat.le_refl _);have hle:=jgP p l;have hl:=hs;rw[<-List.take_append_drop (frontP p l) l,List.pairwise_append] at hl
 have h1:∀x∈l.drop (frontP p l),befV p x=true:=λx hx=>by
  obtain⟨k,hk⟩:=List.getElem?_of_mem hx;rw[List.getElem?_drop] at hk;obtain⟨y,hy,hb⟩:=hf.1 (frontP p l+k) (by show frontGo p l l.length<=frontGo p l l.length+k;omega) (List.getElem?_eq_some_iff.1 hk).1;rw[hk] at hy;cases hy;exact hb
 have h2:∀x∈l.take (frontP p l),befV x p=true:=λx hx=>by
  obtain⟨k,hk⟩:=List.getElem?_of_mem hx;have hkl:=(List.getElem?_eq_some_iff.1 hk).1;rw[List.length_take] at hkl;rw[List.getElem?_take,qf zo] at hk;obtain⟨y,hy,hb⟩:=hf.2 (by show 0<frontP p l;omega);have hyl:=qk hy
  have hyp:befV y p=true:=by
   have hn1:=hn y hyl;have:¬befV p y=true:=by rw[show befV p y=false from hb];decide
   rw[jqM] at this ⊢;omega
  by_cases e:k=frontP p l - 1
  ·subst e
   have hy:l[frontP p l - 1]?=some y:=hy;rw[hk] at hy;cases hy;exact hyp
  ·have:befV x y=true:=by
    have hy:l[frontP p l - 1]?=some y:=hy;have hk2:=List.getElem?_eq_some_iff.1 hk;have hy2:=List.getElem?_eq_some_iff.1 hy;rw[List.pairwise_iff_getElem] at hs;have:=hs k (frontP p l - 1) hk2.1 hy2.1 zo;rw[hk2.2,hy2.2] at this;exact this
   exact jks this hyp
 rw[List.append_assoc,List.pairwise_append];refine⟨hl.1,?_,λa ha b hb=>?_⟩
 ·show (p::l.drop (frontP p l)).Pairwise _
  rw[List.pairwise_cons];exact⟨h1,hl.2.1⟩
 ·have hb:b∈p::l.drop (frontP p l):=hb
  rcases zf hb with rfl | hb
  ·exact h2 a ha
  ·exact hl.2.2 a ha b hb
theorem jfh{n:Ntw}(h1:n.pcs.length<=4000)(h2:0<=n.next/\n.next<=1000000000)(h3:partsV n.parts=true)(h4:n.dls=[])(h5:pclGo n none n.pcs=true):checkNt n=true:=by
 unfold checkNt headNt;rw[h3,h4,h5,qg (p:=n.pcs.length<=4000) h1,qg (p:=n.next>=0) h2.1,qg (p:=n.next<=1000000000) h2.2];rfl
theorem jmj{n:Ntw}{i:Nat}{l:Ltr}(hc:checkNt n=true)(hd:n.dls=[])(hi:i<10)(hk:k<10)(hne:¬i=k)(hn:0<=now/\now<=200)(hl:n.pcs.length<4000)(hx:n.next<1000000000) :
 (sendV n i k l now).2=0/\checkNt (sendV n i k l now).1=true/\(sendV n i k l now).1.dls=[]/\(sendV n i k l now).1.parts=n.parts/\(sendV n i k l now).1.pcs.length=n.pcs.length+1/\(sendV n i k l now).1.next=n.next+1/\(∀x,x∈(sendV n i k l now).1.pcs↔x=⟨now+1,i,k,n.next,l⟩\/x∈n.pcs):=by
 obtain⟨a1,a2,a3,_,_,a6⟩:=jby hc
 have hnod:∀j:Nat,j<10->nodeN (j:Int)=true:=λj hj=>by
  unfold nodeN;rw[qg (p:=(j:Int)>=0) zo,qg (p:=(j:Int)<=9) zo];rfl
 have hnp:newPc n i k l now=⟨now+1,i,k,n.next,l⟩:=by unfold newPc delayV;rw[hd];rfl
 have e:sendV n i k l now=({ n with pcs:=n.pcs.take (frontP ⟨now+1,i,k,n.next,l⟩ n.pcs)++[⟨now+1,i,k,n.next,l⟩]++n.pcs.drop (frontP ⟨now+1,i,k,n.next,l⟩ n.pcs),next:=n.next+1 },0):=by
  unfold sendV;rw[qe (by rw[hc];decide),qe (by rw[hnod i hi,hnod k hk];simp;omega),qe zo,qe zo,hnp]
 rw[e];have hle:=jgP (⟨now+1,i,k,n.next,l⟩:Pcl) n.pcs;have hg:=(jhd n.pcs none).1 a6;have hlen:(n.pcs.take (frontP ⟨now+1,i,k,n.next,l⟩ n.pcs)++[(⟨now+1,i,k,n.next,l⟩:Pcl)]++n.pcs.drop (frontP ⟨now+1,i,k,n.next,l⟩ n.pcs)).length=n.pcs.length+1:=by simp;omega
 have hmem:∀x,x∈n.pcs.take (frontP ⟨now+1,i,k,n.next,l⟩ n.pcs)++[(⟨now+1,i,k,n.next,l⟩:Pcl)]++n.pcs.drop (frontP ⟨now+1,i,k,n.next,l⟩ n.pcs)↔x=⟨now+1,i,k,n.next,l⟩\/x∈n.pcs:=λx=>by
  have e2:x∈n.pcs↔x∈n.pcs.take (frontP ⟨now+1,i,k,n.next,l⟩ n.pcs)\/x∈n.pcs.drop (frontP ⟨now+1,i,k,n.next,l⟩ n.pcs):=by rw[<-List.mem_append,List.take_append_drop]
  rw[List.mem_append,List.mem_append,List.mem_singleton,e2];constructor
  ·rintro((h | h) | h)
   ·exact .inr (.inl h)
   ·exact .inl h
   ·exact .inr (.inr h)
  ·rintro(h | h | h)
   ·exact .inl (.inr h)
   ·exact .inl (.inl h)
   ·exact .inr h
 refine⟨rfl,jfh ?_ ?_ a3 hd ?_,hd,rfl,hlen,rfl,hmem⟩
 ·show List.length _<=4000
  rw[hlen];omega
 ·show 0<=n.next+1/\n.next+1<=1000000000;omega
 ·refine(jhd _ none).2 ⟨λp hp=>?_,?_,λx hx=>by cases hx⟩
  ·rcases(hmem p).1 hp with rfl | hp
   ·unfold pclOk
    simp only[hnod i hi,hnod k hk,qh,qo,Bool.not_eq_true',decide_eq_false_iff_not,true_and];omega
   ·exact jpg (hg.1 p hp) (by show n.next<=n.next+1;omega)
  ·refine jqq hg.2.1 (λx hx=>?_)
   have:=hg.1 x hx;unfold pclOk at this;simp only[qh,qo] at this;exact this.2
structure Snt(now:Int)(Q:Nat->Nat->Ltr->Prop)(n m:Ntw)(c:Nat):Prop where
 chk:checkNt m=true
 dls:m.dls=[]
 parts:m.parts=n.parts
 len:m.pcs.length<=n.pcs.length+c
 next:m.next<=n.next+c
 keep:∀x∈n.pcs,x∈m.pcs
 only:∀x∈m.pcs,x∈n.pcs\/(x.due=now+1/\∃i k:Nat,x.src=i/\x.dst=k/\Q i k x.l)
 all:∀i k l,Q i k l->∃x∈m.pcs,x.src=(i:Int)/\x.dst=(k:Int)/\x.l=l
theorem Snt.none{Q:Nat->Nat->Ltr->Prop}{n:Ntw}{c:Nat}(hc:checkNt n=true)(hd:n.dls=[])(hq:∀i k l,¬Q i k l):Snt now Q n n c :=
 ⟨hc,hd,rfl,by omega,by omega,λx h=>h,λx h=>.inl h,λi k l h=>qp h (hq i k l)⟩
theorem Snt.fold{α:Type}{now:Int}{f:Ntw->α->Ntw}{Q:α->Nat->Nat->Ltr->Prop}{c:Nat}:∀(l:List α)(n:Ntw),(∀m x,x∈l->checkNt m=true->m.dls=[]->m.pcs.length+c<=3999->m.next+c<=999999999->Snt now (Q x) m (f m x) c) ->
 checkNt n=true->n.dls=[]->n.pcs.length+c * l.length<=3999->n.next+((c * l.length:Nat):Int)<=999999999->Snt now (λi k y=>∃x∈l,Q x i k y) n (l.foldl f n) (c * l.length)
 | [],n,_,hc,hd,_,_=>Snt.none hc hd (λi k y ⟨x,hx,_⟩=>qp hx qv)
 | x::r,n,hf,hc,hd,h1,h2=>by
  rw[qi,Nat.mul_add,Nat.mul_one] at h1 h2 ⊢;have a:=hf n x (za) hc hd zo zo;have al:=a.len;have an:=a.next;have b:=Snt.fold r (f n x) (λm y hy=>hf m y (qj _ hy)) a.chk a.dls zo zo;have bl:=b.len;have bn:=b.next;refine⟨b.chk,b.dls,b.parts.trans a.parts,by rw[List.foldl_cons];omega,by rw[List.foldl_cons];omega,λy hy=>b.keep y (a.keep y hy),λy hy=>?_,λi k y ⟨z,hz,hq⟩=>?_⟩
  ·rcases b.only y hy with h | ⟨h,i,k,h3,h4,z,hz,hq⟩
   ·rcases a.only y h with h | ⟨h,i,k,h3,h4,hq⟩
    ·exact .inl h
    ·exact .inr ⟨h,i,k,h3,h4,x,za,hq⟩
   ·exact .inr ⟨h,i,k,h3,h4,z,qj _ hz,hq⟩
  ·rcases zf hz with rfl | hz
   ·obtain⟨w,hw,h3⟩:=a.all i k y hq
    exact⟨w,b.keep w hw,h3⟩
   ·exact b.all i k y ⟨z,hz,hq⟩
theorem Snt.mono{Q R:Nat->Nat->Ltr->Prop}{n m:Ntw}{c d:Nat}(h:Snt now Q n m c)(hq:∀i k l,Q i k l↔R i k l)(hcd:c<=d):Snt now R n m d :=
 ⟨h.chk,h.dls,h.parts,by have:=h.len;omega,by have:=h.next;omega,h.keep,λx hx=>(h.only x hx).imp_right λ⟨a,i,k,b,c,e⟩=>⟨a,i,k,b,c,(hq _ _ _).1 e⟩,λi k l hr=>h.all i k l ((hq _ _ _).2 hr)⟩
theorem jx8{i:Nat}{l:Ltr}{n:Ntw}(hi:i<10)(hk:k<10)(hn:0<=now/\now<=200)(hc:checkNt n=true)(hd:n.dls=[])(hl:n.pcs.length+1<=3999)(hx:n.next+(1:Nat)<=999999999) :
 Snt now (λa b y=>(a=i/\b=k/\y=l)/\¬k=i) n (sndN now i l n k) 1:=by
 unfold sndN
 by_cases e:k=i
 ·rw[qf e];exact Snt.none hc hd (λ_ _ _ h=>h.2 e)
 ·rw[qe e]
  obtain⟨s1,s2,s3,s4,s5,s6,s7⟩:=jmj (l:=l) hc hd hi hk (λh=>e h.symm) hn zo zo;rw[qf s1];refine⟨s2,s3,s4,by omega,by omega,λx hx=>(s7 x).2 (.inr hx),λx hx=>?_,λa b y ⟨⟨h1,h2,h3⟩,_⟩=>?_⟩
  ·rcases(s7 x).1 hx with rfl | hx
   ·exact .inr ⟨rfl,i,k,rfl,rfl,⟨rfl,rfl,rfl⟩,e⟩
   ·exact .inl hx
  ·subst h1;subst h2;subst h3
   exact⟨_,(s7 _).2 (.inl rfl),rfl,rfl,rfl⟩
theorem jx0{w:Wld}{n:Ntw}{i:Nat}(hi:i<w.nodes.length)(hw:w.nodes.length<=10)(hn:0<=now/\now<=200)(hlt:∀p,w.nodes[i]?=some p->sickV w i=false->(lettersP p).length<=2)(hc:checkNt n=true)(hd:n.dls=[])(hl:n.pcs.length+20<=3999)(hx:n.next+(20:Nat)<=999999999) :
 Snt now (λa b y=>a=i/\b<w.nodes.length/\¬b=i/\sickV w i=false/\∃p,w.nodes[i]?=some p/\y∈lettersP p) n (outN now w n i) 20:=by
 unfold outN;cases hs:sickV w i with
 | true=>rw[qf rfl];exact Snt.none hc hd (λ_ _ _ h=>by cases h.2.2.2.1)
 | false =>
  rw[qe zd];have hp:=ze hi;rw[hp];have h2:=hlt _ hp hs;have hm:∀(c:Nat),w.nodes.length * c<=10 * c:=λc=>Nat.mul_le_mul_right c hw;have hlen:w.nodes.length * (lettersP w.nodes[i]).length<=20:=Nat.le_trans (hm _) zo
  have key:=Snt.fold (now:=now) (f:=outL now w.nodes.length i) (Q:=λl a b y=>∃k∈List.range w.nodes.length,(a=i/\b=k/\y=l)/\¬k=i) (c:=w.nodes.length) (lettersP w.nodes[i]) n (λm l _ hc hd h1 h2=>by
   have:=Snt.fold (now:=now) (f:=sndN now i l) (Q:=λk a b y=>(a=i/\b=k/\y=l)/\¬k=i) (c:=1) (List.range w.nodes.length) m (λm' k hk hc hd h1 h2=>jx8 zo (by have:=List.mem_range.1 hk;omega) hn hc hd h1 h2) hc hd (by rw[List.length_range];omega) (by rw[List.length_range];omega);rw[List.length_range,Nat.one_mul] at this
   exact this) hc hd zo zo
  refine key.mono (λa b y=>?_) hlen;constructor
  ·rintro⟨l,hl,k,hk,⟨rfl,rfl,rfl⟩,hne⟩
   exact⟨rfl,List.mem_range.1 hk,hne,rfl,_,rfl,hl⟩
  ·rintro⟨rfl,hb,hne,_,p,hpp,hy⟩
   cases hpp;exact⟨y,hy,b,List.mem_range.2 hb,⟨rfl,rfl,rfl⟩,hne⟩
theorem jxN{n:Ntw}(hc:checkNt n=true)(h:∀p∈n.pcs,p.due<=now):(dueV n now).1=n.pcs.filter (λp=>!apartV n p.src p.dst)/\(dueV n now).2={ n with pcs:=[] }:=by
 have hk:dueK n now=n.pcs.length:=by
  unfold dueK
  have:∀l:List Pcl,(∀p∈l,p.due<=now)->posG (dueB now) l=l.length:=by
   intro l
   induction l with
   | nil=>intro _;rfl
   | cons x r ih =>
    intro hl;rw[posG,qf (show dueB now x=true from qg (hl x (za))),ih (λp hp=>hl p (qj _ hp))];rfl
  exact this _ h
 unfold dueV;rw[qe (by rw[hc];decide),hk,List.take_length,List.drop_length];exact⟨rfl,rfl⟩
theorem jjb{n:Ntw}(hc:checkNt n=true)(hd:n.dls=[]):checkNt { n with pcs:=[] }=true:=by
 obtain⟨_,a2,a3,_⟩:=jby hc;exact jfh (by simp) a2 a3 hd rfl
def inP(now:Int)(i:Nat)(p:Ptc)(x:Pcl):Ptc:=if x.dst=(i:Int) then (if (hearP p x.l now).2=0 then (hearP p x.l now).1 else p) else p
def tkP(now:Int)(p:Ptc):Ptc:=if (tickP p now).2=0 then (tickP p now).1 else p
theorem jyG{w:Wld}(hW:WI w)(hl:LB x.l)(hd:0<=x.dst){i:Nat}(hp:w.nodes[i]?=some p)(hs:sickV w i=false):(inW now w x).nodes[i]?=some (inP now i p x):=by
 have hi:=(List.getElem?_eq_some_iff.1 hp).1;unfold inP;unfold inW
 by_cases e:x.dst=(i:Int)
 ·rw[qf e,e,hs,qz (p:=(i:Int)>=w.nodes.length) zo,qe zd,qq,hp]
  simp only;split
  ·rename_i h0
   have hn:=(hW.nd i p hp)
   have h1:=jeG hn.2 hl h0;rw[jbW (h1.2.trans hn.1) hi,qf rfl]
  ·exact hp
 ·rw[qe e]
  split
  ·exact hp
  ·rename_i hc
   simp only[Bool.or_eq_true,not_or,qo,Bool.not_eq_true] at hc;have hlt:x.dst.toNat<w.nodes.length:=by omega
   have hq:=ze hlt;rw[hq];simp only;split
   ·rename_i h0
    have hn:=hW.nd _ _ hq;have h1:=jeG hn.2 hl h0;rw[jbW (i:=x.dst.toNat) (h1.2.trans hn.1) hlt,qe zo];exact hp
   ·exact hp
theorem joh{now:Int}:∀(P:List Pcl)(w:Wld),WI w->(∀x∈P,LB x.l/\0<=x.dst)->∀(i:Nat) p,w.nodes[i]?=some p->sickV w i=false->(P.foldl (inW now) w).nodes[i]?=some (P.foldl (inP now i) p)
 | [],w,_,_,i,p,hp,_=>hp
 | x::r,w,hW,hP,i,p,hp,hs=>by
  have hx:=hP x (za);have h1:=jyG (now:=now) hW hx.1 hx.2 hp hs;have hl:=jkf (w:=w) (now:=now) (p:=x);exact joh r (inW now w x) (jrw hW hx.1) (λy hy=>hP y (qj _ hy)) i _ h1 (by unfold sickV at *;rw[hl.2.2.2.1];exact hs)
theorem jzD{w:Wld}(hW:WI w){i:Nat}(hp:w.nodes[i]?=some p)(hs:sickV w i=false):(tkW now w k).nodes[i]?=some (if k=i then tkP now p else p):=by
 have hi:=(List.getElem?_eq_some_iff.1 hp).1;unfold tkW
 by_cases e:k=i
 ·subst e
  rw[qf rfl,hs,qe zd,hp];simp only;unfold tkP;split
  ·rename_i h0
   have hn:=hW.nd k p hp;have h1:=jev hn.2 h0;rw[jbW (h1.2.trans hn.1) hi,qf rfl]
  ·exact hp
 ·rw[qe e]
  split
  ·exact hp
  ·cases hx:w.nodes[k]? with
   | none=>exact hp
   | some q =>
    simp only;split
    ·rename_i h0
     have hn:=hW.nd k q hx;have h1:=jev hn.2 h0;rw[jbW (i:=k) (h1.2.trans hn.1) (List.getElem?_eq_some_iff.1 hx).1,qe e];exact hp
    ·exact hp
theorem jns{now:Int}:∀(l:List Nat)(w:Wld),WI w->l.Nodup->∀(i:Nat) p,w.nodes[i]?=some p->sickV w i=false->(l.foldl (tkW now) w).nodes[i]?=some (if i∈l then tkP now p else p)
 | [],w,_,_,i,p,hp,_=>by rw[qe qv];exact hp
 | k::r,w,hW,hn,i,p,hp,hs=>by
  have hn':=List.nodup_cons.1 hn;have h1:=jzD (now:=now) (k:=k) hW hp hs;have hl:=jj8 (w:=w) (now:=now) (i:=k);have h2:=jns (now:=now) r (tkW now w k) (jqF hW) hn'.2 i _ h1 (by unfold sickV at *;rw[hl.2.2.2.1];exact hs);rw[List.foldl_cons,h2]
  by_cases e:k=i
  ·subst e
   rw[qe hn'.1,qf rfl,qf (za)]
  ·rw[qe e]
   by_cases hr:i∈r
   ·rw[qf hr,qf (qj _ hr)]
   ·rw[qe hr,qe (λh=>(zf h).elim (λh=>e h.symm) hr)]
theorem jhY(w:Wld):(tickC w).nodes.length=w.nodes.length/\(tickC w).time=w.time+1/\(tickC w).net=(dueV w.net (w.time+1)).2/\(tickC w).ill=w.ill/\(tickC w).trs=w.trs:=by
 have hb:∀(P:List Pcl)(v:Wld),(P.foldl (Tq.inW (w.time+1)) v).nodes.length=v.nodes.length/\(P.foldl (Tq.inW (w.time+1)) v).time=v.time/\(P.foldl (Tq.inW (w.time+1)) v).net=v.net/\(P.foldl (Tq.inW (w.time+1)) v).ill=v.ill/\(P.foldl (Tq.inW (w.time+1)) v).trs=v.trs:=by
  intro P
  induction P with
  | nil=>intro v;exact⟨rfl,rfl,rfl,rfl,rfl⟩
  | cons p r ih =>
   intro v;have h1:=jkf (w:=v) (now:=w.time+1) (p:=p);have h2:=ih (Tq.inW (w.time+1) v p);exact⟨h2.1.trans h1.1,h2.2.1.trans h1.2.1,h2.2.2.1.trans h1.2.2.1,h2.2.2.2.1.trans h1.2.2.2.1,h2.2.2.2.2.trans h1.2.2.2.2⟩
 have hc:∀(l:List Nat)(v:Wld),(l.foldl (Tq.tkW (w.time+1)) v).nodes.length=v.nodes.length/\(l.foldl (Tq.tkW (w.time+1)) v).time=v.time/\(l.foldl (Tq.tkW (w.time+1)) v).net=v.net/\(l.foldl (Tq.tkW (w.time+1)) v).ill=v.ill/\(l.foldl (Tq.tkW (w.time+1)) v).trs=v.trs:=by
  intro l
  induction l with
  | nil=>intro v;exact⟨rfl,rfl,rfl,rfl,rfl⟩
  | cons p r ih =>
   intro v;have h1:=jj8 (w:=v) (now:=w.time+1) (i:=p);have h2:=ih (Tq.tkW (w.time+1) v p);exact⟨h2.1.trans h1.1,h2.2.1.trans h1.2.1,h2.2.2.1.trans h1.2.2.1,h2.2.2.2.1.trans h1.2.2.2.1,h2.2.2.2.2.trans h1.2.2.2.2⟩
 have a:=hc (List.range (tickB w).nodes.length) (tickB w);have b:=hb (dueV w.net (w.time+1)).1 (tickA w);exact⟨a.1.trans b.1,a.2.1.trans b.2.1,a.2.2.1.trans b.2.2.1,a.2.2.2.1.trans b.2.2.2.1,a.2.2.2.2.trans b.2.2.2.2⟩
def comes(w:Wld):List Pcl:=w.net.pcs.filter (λp=>!apartV w.net p.src p.dst)
def nodeT(w:Wld)(i:Nat)(p:Ptc):Ptc:=tkP (w.time+1) ((comes w).foldl (inP (w.time+1) i) p)
theorem jyo{w:Wld}(hW:WI w)(ht:0<=w.time/\w.time<200)(hc:checkNt w.net=true)(hd:w.net.dls=[])(hdue:∀x∈w.net.pcs,x.due<=w.time+1)(hnx:w.net.next<=999999000)
 (hlt:∀(i:Nat) p,w.nodes[i]?=some p->sickV w i=false->(lettersP (nodeT w i p)).length<=2) :
 (∀(i:Nat) p,w.nodes[i]?=some p->sickV w i=false->(tickD w).nodes[i]?=some (nodeT w i p))/\((tickD w).time=w.time+1/\(tickD w).ill=w.ill/\(tickD w).trs=w.trs/\(tickD w).nodes.length=w.nodes.length)/\WI (tickD w)
   /\ Snt (w.time+1) (λa b y=>b<w.nodes.length/\¬b=a/\sickV w a=false/\∃p,(tickD w).nodes[a]?=some p/\y∈lettersP p) { w.net with pcs:=[] } (tickD w).net 200:=by
 have hda:=jxN hc hdue;have hs:=jhY w;have hsk:∀i:Nat,sickV (tickC w) i=sickV w i:=λi=>by unfold sickV;rw[hs.2.2.2.1]
 have hN:∀(i:Nat) p,w.nodes[i]?=some p->sickV w i=false->(tickC w).nodes[i]?=some (nodeT w i p):=λi p hp hsi=>by
  have hB:=joh (now:=w.time+1) (dueV w.net (w.time+1)).1 (tickA w) (jgj hW ht.2) (λx hx=>⟨(jg3 hW.net).2 x hx,(ji2 x hx).1.1⟩) i p hp hsi;have hWB:=jjj hW ht.2
  have hlen:(tickB w).nodes.length=w.nodes.length:=by
   have:=hs.1
   have h2:(tickC w).nodes.length=(tickB w).nodes.length:=by
    have:∀(l:List Nat)(v:Wld),(l.foldl (Tq.tkW (w.time+1)) v).nodes.length=v.nodes.length:=by
     intro l
     induction l with
     | nil=>intro v;rfl
     | cons p r ih=>intro v;exact(ih _).trans (jj8 (w:=v) (now:=w.time+1) (i:=p)).1
    exact this _ _
   omega
  have hskB:sickV (tickB w) i=false:=by
   have:∀(P:List Pcl)(v:Wld),(P.foldl (Tq.inW (w.time+1)) v).ill=v.ill:=by
    intro P
    induction P with
    | nil=>intro v;rfl
    | cons p r ih=>intro v;exact(ih _).trans (jkf (w:=v) (now:=w.time+1) (p:=p)).2.2.2.1
   have e:(tickB w).ill=w.ill:=this _ _;unfold sickV at *;rw[e];exact hsi
  have hC:=jns (now:=w.time+1) (List.range (tickB w).nodes.length) (tickB w) hWB List.nodup_range i _ hB hskB;rw[qf (List.mem_range.2 (by rw[hlen];exact(List.getElem?_eq_some_iff.1 hp).1)),hda.1] at hC;exact hC
 refine⟨hN,⟨hs.2.1,hs.2.2.2.1,hs.2.2.2.2,hs.1⟩,jow hW ht.2,?_⟩;have hnet:(tickC w).net={ w.net with pcs:=[] }:=by rw[hs.2.2.1,hda.2]
 have hlen:=hW.len
 have key:=Snt.fold (now:=w.time+1) (f:=outN (w.time+1) (tickC w)) (Q:=λi a b y=>a=i/\b<(tickC w).nodes.length/\¬b=i/\sickV (tickC w) i=false/\∃p,(tickC w).nodes[i]?=some p/\y∈lettersP p) (c:=20) (List.range (tickC w).nodes.length) { w.net with pcs:=[] } (λm i hi hc hd h1 h2=>jx0 (List.mem_range.1 hi) (by rw[hs.1];omega) zo (λp hp hsi=>by
  rw[hsk] at hsi;have hi':i<w.nodes.length:=by have:=List.mem_range.1 hi;rw[hs.1] at this;exact this
  have hq:=ze hi';have:=hN i _ hq hsi;rw[this] at hp;cases hp
  exact hlt i _ hq hsi) hc hd h1 h2) (jjb hc hd) hd (by rw[List.length_range,hs.1];show 0+_<=_;omega) (by rw[List.length_range,hs.1];show w.net.next+_<=_;omega)
 have e:(tickD w).net=(List.range (tickC w).nodes.length).foldl (outN (w.time+1) (tickC w)) { w.net with pcs:=[] }:=by
  unfold tickD;rw[hnet]
 rw[e];refine key.mono (λa b y=>?_) (by rw[List.length_range,hs.1];omega);constructor
 ·rintro⟨i,hi,rfl,h1,h2,h3,p,h4,h5⟩
  exact⟨by rw[<-hs.1];exact h1,h2,by rw[<-hsk];exact h3,p,h4,h5⟩
 ·rintro⟨h1,h2,h3,p,h4,h5⟩
  exact⟨a,List.mem_range.2 (List.getElem?_eq_some_iff.1 (show (tickC w).nodes[a]?=some p from h4)).1,rfl,by rw[hs.1];exact h1,h2,by rw[hsk];exact h3,p,h4,h5⟩
theorem jvN(y:Mach)(k:Int):({ ({ y with seq:=k }:Mach) with seq:=y.seq }:Mach)=y:=rfl
section
variable{v:Str}{T:Nat->Trust->Prop}{i:Nat}
def AR(T:Nat->Trust->Prop)(v:Str)(i:Nat)(m:Mach):Prop:=∃k,UM T v i { m with seq:=k }/\AtRest { m with seq:=k }
theorem AR.rest{x:Mach}(h:UM T v i x)(k:Int):AR T v i { restM x with seq:=k }:=by
 refine⟨(restM x).seq,?_⟩;rw[jvN];exact⟨h.rest,jti h.inv.inv⟩
theorem AR.of{x:Mach}(h:UM T v i x)(hr:AtRest x):AR T v i x:=⟨x.seq,h,hr⟩
structure NodeL(T:Nat->Trust->Prop)(v:Str)(i:Nat)(tr:Trust)(p:Ptc)(s:Slt):Prop where
 node:p.node=(i:Int)
 stop:p.stopped=false
 t:p.t=tr
 vt:validT tr=0
 slots:p.slots=[s]
 us:US T v i s
 mt:s.mach.t=tr
variable{tr:Trust}{p:Ptc}{s:Slt}
theorem NodeL.check(h:NodeL T v i tr p s):checkP p=true:=by
 have h10:=h.us.mach.i10;unfold checkP;rw[h.node,h.t,qg h.vt,qg (p:=(i:Int)>=0) zo,qg (p:=(i:Int)<=9) zo,h.slots];simp only[psGo,h.us.check,h.us.mach.node,h.node,h.mt,h.t,jc8,decide_true,Bool.and_true,qx,qi,qu];rfl
theorem NodeL.letters(h:NodeL T v i tr p s):lettersP p=ltrN s++[⟨2,1,zNmn,envR s.mach⟩]:=by
 unfold lettersP;rw[h.check,h.stop,qe zd,h.slots];simp only[List.flatMap_cons,List.flatMap_nil,List.append_nil];exact h.us.letters
theorem NodeL.with(h:NodeL T v i tr p s)(hu:US T v i s')(ht:s'.mach.t=tr):NodeL T v i tr { p with slots:=[s'] } s':=⟨h.node,h.stop,h.t,h.vt,rfl,hu,ht⟩
theorem NodeL.hear(h:NodeL T v i tr p s){l:Ltr}(hl:l.slot=1)(hk:l.kind=1\/(l.kind=2/\l.env.slot=1)):hearP p l now=withP p 0 (if l.kind=1 then nomS s l.nom else balS s l.env):=by
 have h1:=h.us.mach.slot;have hr:readyP p 1 sZ now=(p,0):=by unfold readyP;rw[qf (jrs h.slots h1)]
 have hb:badL l=false:=by
  unfold badL;rcases hk with hk | ⟨hk,he⟩
  ·rw[hk];rfl
  ·rw[hk,he,hl];rfl
 unfold hearP;rw[qe (by rw[h.check];decide),qe (by rw[h.stop];decide),qe (by rw[hb];decide),hl,hr,qe (by simp)];unfold onP;simp only[js8 h.slots h1];rw[show p.slots[0]?=some s by rw[h.slots];rfl]
theorem jf7{r:Slt × Int}(hs:p.slots=[s])(h0:r.2=0):withP p 0 r=({ p with slots:=[r.1] },0):=by
 unfold withP;rw[qe (λh=>h h0),hs];rfl
theorem jgd{r:Slt × Int}(h0:¬r.2=0):withP p 0 r=(zPtc,r.2):=by
 unfold withP;rw[qf h0]
theorem NodeL.nom(h:NodeL T v i tr p s)(hd:x.dst=(i:Int))(hk:x.l.kind=1)(hl:x.l.slot=1)(hm:OneM v x.l.nom):∃s',NodeL T v i tr (inP now i p x) s'/\s'.mach=s.mach/\s'.tm=s.tm:=by
 unfold inP;rw[qf hd,h.hear hl (.inl hk),qf hk]
 by_cases h0:(nomS s x.l.nom).2=0
 ·rw[jf7 h.slots h0,qf rfl]
  obtain⟨a,b,c⟩:=h.us.nomS hm h0;exact⟨_,h.with a (by rw[b];exact h.mt),b,c⟩
 ·rw[jgd h0,qe h0]
  exact⟨s,h,rfl,rfl⟩
theorem NodeL.env(h:NodeL T v i tr p s)(hd:x.dst=(i:Int))(hk:x.l.kind=2)(hl:x.l.slot=1)(he:UE T v x.l.env)(hn:¬x.l.env.node=(i:Int))(hz:sizeT x.l.env.t<=100000)(hlt:s.mach.seq<1000000) :
 ∃s',NodeL T v i tr (inP now i p x) s'/\s'.tm=s.tm/\(((recV s.mach x.l.env).2=0/\s'.mach=(recV s.mach x.l.env).1)\/(¬(recV s.mach x.l.env).2=0/\s'=s)):=by
 unfold inP;rw[qf hd,h.hear hl (.inr ⟨hk,he.slot⟩),qe (show ¬x.l.kind=1 by omega)];rcases h.us.balS he (by rw[h.us.mach.node];exact hn) hz hlt with⟨h0,a,b,c,d⟩ | ⟨h0,c⟩
 ·rw[jf7 h.slots h0,qf rfl]
  refine⟨_,h.with a ?_,d,.inl ⟨c,b⟩⟩;rw[b];rcases h.us.mach.recv he (by rw[h.us.mach.node];exact hn) hz hlt with⟨_,⟨q,k,_,hq,h5⟩,_⟩ | ⟨h1,_⟩
  ·rw[h5]
   show (restM { s.mach with heard:=q }).t=tr;rw[(jbj hq.inv.inv).2.t];exact h.mt
  ·exact qp c h1
 ·rw[jgd h0,qe h0]
  exact⟨s,h,rfl,.inr ⟨c,rfl⟩⟩
structure Dl(T:Nat->Trust->Prop)(v:Str)(i:Nat)(K N:Nat->Option Evp)(P:Mach->Prop)(m:Mach)(D:Nat->Prop)(q:Int):Prop where
 ar:AR T v i m
 pm:P m
 hk:∀x∈m.heard,K x.node.toNat=some x\/N x.node.toNat=some x
 done:∀j e,D j->N j=some e->e∈m.heard
 sq:m.seq<=q
structure NOk(T:Nat->Trust->Prop)(v:Str)(i:Nat)(K N:Nat->Option Evp):Prop where
 ok:∀j e,N j=some e->¬j=i/\e.node=(j:Int)/\UE T v e/\sizeT e.t<=100000
 fr:∀j x,K j=some x->∃e,N j=some e/\Fresh x e
def Kept(T:Nat->Trust->Prop)(v:Str)(i:Nat)(K N:Nat->Option Evp)(P:Mach->Prop):Prop :=
 (∀m k,P m->P { m with seq:=k })/\∀m q e,UM T v i m->AR T v i m->P m->UM T v i { m with heard:=q }->PutOk m.heard q e->N e.node.toNat=some e->(∀x∈m.heard,K x.node.toNat=some x\/N x.node.toNat=some x)->(∀x∈q,K x.node.toNat=some x\/N x.node.toNat=some x)->P (restM { m with heard:=q })
theorem Dl.recv{K N:Nat->Option Evp}{P:Mach->Prop}{D:Nat->Prop}{q:Int}(hu:UM T v i m)(h:Dl T v i K N P m D q)(hN:NOk T v i K N)(hP:Kept T v i K N P){j:Nat}(he:N j=some e)(hq:q<1000000) :
 Dl T v i K N P (if (recV m e).2=0 then (recV m e).1 else m) (λk=>D k\/k=j) (q+1)/\Fresh (envR m) (envR (if (recV m e).2=0 then (recV m e).1 else m)):=by
 obtain⟨hji,hen,hue,hz⟩:=hN.ok j e he;have hsq:=h.sq;have hnode:=hu.node;rcases hu.recv hue zo hz zo with⟨h0,⟨l,k,hput,hul,hr⟩,h2,h3,h4⟩ | ⟨h0,x,hx,hxn,hxs⟩
 ·rw[qf h0]
  refine⟨⟨?_,?_,?_,?_,by omega⟩,h3⟩
  ·rw[hr];exact AR.rest hul k
  ·rw[hr]
   refine hP.1 _ k (hP.2 m l e hu h.ar h.pm hul hput (by rw[hen];exact he) h.hk (λx hx=>?_));rcases(hput.mem x).1 hx with rfl | hx
   ·right;rw[hen];exact he
   ·exact h.hk x hx.1
  ·intro x hx
   have hx':x∈l:=by
    rw[hr] at hx;have hx:x∈(restM { m with heard:=l }).heard:=hx
    rwa [(jbj hul.inv.inv).2.heard] at hx
   rcases(hput.mem x).1 hx' with rfl | hx
   ·right;rw[hen];exact he
   ·exact h.hk x hx.1
  ·intro a b hab hb
   have hl:∀y,y∈l->y∈(recV m e).1.heard:=λy hy=>by
    rw[hr];show y∈(restM { m with heard:=l }).heard;rw[(jbj hul.inv.inv).2.heard];exact hy
   refine hl b ((hput.mem b).2 ?_)
   by_cases ej:a=j
   ·subst ej
    rw[he] at hb;cases hb;exact .inl rfl
   ·rcases hab with hab | hab
    ·have:=(hN.ok a b hb).2.1
     exact .inr ⟨h.done a b hab hb,by omega⟩
    ·exact qp hab ej
 ·rw[qe h0]
  refine⟨⟨h.ar,h.pm,h.hk,λa b hab hb=>?_,by omega⟩,.inl rfl⟩;rcases hab with hab | hab
  ·exact h.done a b hab hb
  ·subst hab
   rw[he] at hb;cases hb
   have hxe:x=e:=by
    have hxa:x.node.toNat=a:=by omega
    rcases h.hk x hx with h1 | h1
    ·rw[hxa] at h1
     obtain⟨y,hy,hf⟩:=hN.fr a x h1;rw[he] at hy;cases hy;rcases hf with hf | hf
     ·exact hf
     ·omega
    ·rw[hxa,he] at h1;cases h1;rfl
   rw[<-hxe];exact hx
def Comes(v:Str)(i:Nat)(N:Nat->Option Evp)(x:Pcl):Prop:=x.dst=(i:Int)->x.l.slot=1/\((x.l.kind=1/\OneM v x.l.nom)\/(x.l.kind=2/\N x.l.env.node.toNat=some x.l.env))
theorem NodeL.fold{K N:Nat->Option Evp}{P:Mach->Prop}{now:Int}(hN:NOk T v i K N)(hP:Kept T v i K N P):∀(L:List Pcl)(p:Ptc)(s:Slt)(D:Nat->Prop)(q:Int),NodeL T v i tr p s->Dl T v i K N P s.mach D q->(∀x∈L,Comes v i N x)->q+L.length<=1000000 ->
 ∃s',NodeL T v i tr (L.foldl (inP now i) p) s'/\s'.tm=s.tm/\Dl T v i K N P s'.mach (λj=>D j\/∃x∈L,x.dst=(i:Int)/\x.l.kind=2/\x.l.env.node.toNat=j) (q+L.length)/\Fresh (envR s.mach) (envR s'.mach)
 | [],p,s,D,q,h,hd,_,_=>⟨s,h,rfl,⟨hd.ar,hd.pm,hd.hk,λj e hj he=>hd.done j e (hj.resolve_right (λ⟨x,hx,_⟩=>qp hx qv)) he,by have:=hd.sq;simpa using this⟩,.inl rfl⟩
 | x::r,p,s,D,q,h,hd,hL,hq=>by
  rw[qi] at hq;have hx:=hL x (za)
  have step:∃s1,NodeL T v i tr (inP now i p x) s1/\s1.tm=s.tm/\Dl T v i K N P s1.mach (λj=>D j\/(x.dst=(i:Int)/\x.l.kind=2/\x.l.env.node.toNat=j)) (q+1)/\Fresh (envR s.mach) (envR s1.mach):=by
   by_cases e:x.dst=(i:Int)
   ·obtain⟨h1,h2 | h2⟩:=hx e
    ·obtain⟨s1,a,b,c⟩:=h.nom (now:=now) e h2.1 h1 h2.2
     refine⟨s1,a,c,?_,by rw[b];exact .inl rfl⟩;rw[b];exact⟨hd.ar,hd.pm,hd.hk,λj y hj hy=>hd.done j y (hj.resolve_right (λhh=>by have:=hh.2.1;omega)) hy,by have:=hd.sq;omega⟩
    ·have hok:=hN.ok _ _ h2.2
     obtain⟨s1,a,b,c⟩:=h.env (now:=now) e h2.1 h1 hok.2.2.1 zo hok.2.2.2 (by have:=hd.sq;omega);obtain⟨d1,d2⟩:=hd.recv h.us.mach hN hP h2.2 zo
     have e1:s1.mach=(if (recV s.mach x.l.env).2=0 then (recV s.mach x.l.env).1 else s.mach):=by
      rcases c with⟨c1,c2⟩ | ⟨c1,c2⟩
      ·rw[qf c1];exact c2
      ·rw[qe c1,c2]
     rw[<-e1] at d1 d2;exact⟨s1,a,b,⟨d1.ar,d1.pm,d1.hk,λj y hj hy=>d1.done j y (hj.imp_right (λhh=>hh.2.2.symm)) hy,d1.sq⟩,d2⟩
   ·refine⟨s,?_,rfl,⟨hd.ar,hd.pm,hd.hk,λj y hj hy=>hd.done j y (hj.resolve_right (λhh=>e hh.1)) hy,by have:=hd.sq;omega⟩,.inl rfl⟩
    unfold inP;rw[qe e];exact h
  obtain⟨s1,a1,a2,a3,a4⟩:=step;obtain⟨s2,b1,b2,b3,b4⟩:=NodeL.fold hN hP r (inP now i p x) s1 _ (q+1) a1 a3 (λy hy=>hL y (qj _ hy)) zo;refine⟨s2,b1,b2.trans a2,⟨b3.ar,b3.pm,b3.hk,λj y hj hy=>b3.done j y ?_ hy,by have:=b3.sq;rw[qi];omega⟩,a4.trans b4⟩;rcases hj with hj | ⟨z,hz,hj⟩
  ·exact .inl (.inl hj)
  ·rcases zf hz with rfl | hz
   ·exact .inl (.inr hj)
   ·exact .inr ⟨z,hz,hj⟩
theorem NodeL.tick(h:NodeL T v i tr p s)(hn:0<=now/\now<=200)(hlt:s.mach.seq<1000000)(ha:AR T v i s.mach) :
 ∃s',NodeL T v i tr (tkP now p) s'/\s'.tm=(stepV s.tm s.mach now).1/\AR T v i s'.mach/\Fresh (envR s.mach) (envR s'.mach)/\s'.mach.seq<=s.mach.seq+1/\s'.mach.heard=s.mach.heard
  /\ (s'.mach=s.mach\/((stepV s.tm s.mach now).2=true/\(s.mach.phase=1\/s.mach.phase=2)/\∃k,UM T v i { s.mach with bal:=⟨s.mach.bal.n+1,v⟩ }/\s'.mach={ restM { s.mach with bal:=⟨s.mach.bal.n+1,v⟩ } with seq:=k })):=by
 obtain⟨a1,a2,a3,a4⟩:=h.us.tick hn hlt
 have hk:tksGo now p.slots []=([(tickSl s now).1],0):=by
  rw[h.slots,tksGo,qe (λh=>h a1),tksGo];rfl
 have e0:tickP p now=({ p with slots:=[(tickSl s now).1] },0):=by
  unfold tickP;rw[qe (by rw[h.check];decide),qe (by rw[h.stop];decide),hk,qe (by simp)]
 have e:tkP now p={ p with slots:=[(tickSl s now).1] }:=by
  unfold tkP;rw[e0,qf rfl]
 rw[e];rcases a4 with a4 | ⟨b1,b2,b3⟩
 ·refine⟨_,h.with a2 (by rw[a4];exact h.mt),a3,?_,?_,?_,?_,?_⟩
  ·rw[a4];exact ha
  ·rw[a4];exact .inl rfl
  ·rw[a4];omega
  ·rw[a4]
  ·exact .inl a4
 ·rcases h.us.mach.tmo hlt with⟨_,⟨k,c1,c2,c3⟩,c4,c5,c6⟩ | c
  ·have hh:=(jbj c2.inv.inv).2
   refine⟨_,h.with a2 ?_,a3,?_,?_,?_,?_,.inr ⟨b1,c1,k,c2,b3.trans c3⟩⟩
   ·rw[b3,c3]
    show (restM { s.mach with bal:=⟨s.mach.bal.n+1,v⟩ }).t=tr;rw[hh.t];exact h.mt
   ·rw[b3,c3];exact AR.rest c2 k
   ·rw[b3];exact c5
   ·rw[b3];exact c6
   ·rw[b3,c3]
    show (restM { s.mach with bal:=⟨s.mach.bal.n+1,v⟩ }).heard=s.mach.heard;rw[hh.heard]
  ·exact qp b2 c
end
structure LS where
 n:Nat
 tr:Nat->Trust
 trs:List (List Trust)
 ill:Nat
 act:Nat->Bool
 vv:Nat->Str
 T:Nat->Nat->Trust->Prop
 parts:List Int
variable{S:LS}
def apN(parts:List Int)(a b:Nat):Bool:=apartV ⟨[],0,parts,[]⟩ a b
def LS.lk(S:LS)(i j:Nat):Bool:=decide (j<S.n)&&(!S.ill.testBit j&&(S.act j&&(!decide (j=i)&&!apN S.parts j i)))
def LS.on(S:LS)(i:Nat):Prop:=i<S.n/\S.ill.testBit i=false/\S.act i=true
structure LS.Ok(S:LS):Prop where
 n10:1<=S.n/\S.n<=10
 link:∀i j,i<S.n->S.ill.testBit i=false->S.lk i j=true->S.act i=true/\S.vv j=S.vv i/\S.T j=S.T i
theorem LS.lk_iff{i j:Nat}:S.lk i j=true↔S.on j/\¬j=i/\apN S.parts j i=false:=by
 unfold LS.lk LS.on;simp only[qh,qo,Bool.not_eq_true',decide_eq_false_iff_not];constructor
 ·rintro⟨a,b,c,d,e⟩;exact⟨⟨a,b,c⟩,d,e⟩
 ·rintro⟨⟨a,b,c⟩,d,e⟩;exact⟨a,b,c,d,e⟩
def envOf(w:Wld)(j:Nat):Evp:=match w.nodes[j]? with | some p=>(match p.slots with | s::_=>envR s.mach | []=>zEvp) | none=>zEvp
theorem jbZ{w:Wld}{j:Nat}{s:Slt}(hp:w.nodes[j]?=some p)(hs:p.slots=[s]):envOf w j=envR s.mach:=by
 unfold envOf;rw[hp];simp only[hs]
def nxtN(S:LS)(w:Wld)(N:Nat->Nat->Option Evp)(i j:Nat):Option Evp:=if S.lk i j=true then some (envOf w j) else N i j
structure NdA(S:LS)(t:Nat)(K:Nat->Option Evp)(i:Nat)(p:Ptc)(s:Slt):Prop where
 nl:NodeL (S.T i) (S.vv i) i (S.tr i) p s
 ar:AR (S.T i) (S.vv i) i s.mach
 sq:s.mach.seq<=5000 * ((t:Int)+1)
 hk:∀x∈s.mach.heard,K x.node.toNat=some x
 hl:∀j e,K j=some e->e∈s.mach.heard
structure LK(S:LS)(t:Nat)(K N:Nat->Nat->Option Evp)(w:Wld):Prop where
 wi:WI w
 time:w.time=(t:Int)
 il:w.ill=(S.ill:Int)
 trs:w.trs=S.trs
 len:w.nodes.length=S.n
 chk:checkNt w.net=true
 dls:w.net.dls=[]
 parts:w.net.parts=S.parts
 next:w.net.next<=1000 * ((t:Int)+1)
 nd:∀i,S.on i->∃p s,w.nodes[i]?=some p/\NdA S t (K i) i p s
 no:∀i,i<S.n->S.ill.testBit i=false->S.act i=false->∃p,w.nodes[i]?=some p/\(p.node=(i:Int)/\p.stopped=false/\p.t=S.tr i)/\p.slots=[]/\checkP p=true
 nok:∀i,S.on i->NOk (S.T i) (S.vv i) i (K i) (N i)
 due:∀x∈w.net.pcs,x.due<=(t:Int)+1
 com:∀x∈comes w,∀i:Nat,x.dst=(i:Int)->i<S.n->S.ill.testBit i=false->S.act i=true/\Comes (S.vv i) i (N i) x
 all:∀i j e,S.on i->N i j=some e->K i j=some e\/∃x∈comes w,x.dst=(i:Int)/\x.l.kind=2/\x.l.env.node.toNat=j
 lkN:∀i j,S.on i->S.lk i j=true->N i j=none\/N i j=some (envOf w j)
theorem LK.sick{K N:Nat->Nat->Option Evp}{w:Wld}(h:LK S t K N w)(i:Nat):sickV w (i:Int)=S.ill.testBit i:=by
 unfold sickV;rw[h.il,qq,qq]
theorem jyr(hs:p.slots=[]):tkP now p=p:=by
 unfold tkP tickP
 by_cases hc:checkP p=false
 ·rw[qf hc];simp
 ·rw[qe hc]
  by_cases hst:p.stopped=true
  ·rw[qf hst];simp
  ·rw[qe hst,hs]
   simp[tksGo];cases p;simp only at hs;rw[hs]
theorem jqX{now:Int}{i:Nat}:∀(L:List Pcl)(p:Ptc),(∀x∈L,¬x.dst=(i:Int))->L.foldl (inP now i) p=p
 | [],p,_=>rfl
 | x::r,p,h=>by
  rw[List.foldl_cons,show inP now i p x=p by unfold inP;rw[qe (h x (za))]];exact jqX r p (λy hy=>h y (qj _ hy))
structure Went(S:LS)(t:Nat)(N:Nat->Option Evp)(P:Mach->Prop)(i:Nat)(s s':Slt)(m:Mach):Prop where
 pm:P m
 um:UM (S.T i) (S.vv i) i m
 ar:AR (S.T i) (S.vv i) i m
 hk:∀x∈m.heard,N x.node.toNat=some x
 hl:∀j e,N j=some e->e∈m.heard
 tm:s'.tm=(stepV s.tm m ((t:Int)+1)).1
 go:s'.mach=m\/((stepV s.tm m ((t:Int)+1)).2=true/\(m.phase=1\/m.phase=2)/\∃k,UM (S.T i) (S.vv i) i { m with bal:=⟨m.bal.n+1,S.vv i⟩ }/\s'.mach={ restM { m with bal:=⟨m.bal.n+1,S.vv i⟩ } with seq:=k })
theorem LK.node{K N:Nat->Nat->Option Evp}{w:Wld}(h:LK S t K N w)(ht:t<150){i:Nat}(hi:S.on i){P:Mach->Prop}(hP:Kept (S.T i) (S.vv i) i (K i) (N i) P){s:Slt}(hp:w.nodes[i]?=some p)(ha:NdA S t (K i) i p s)(h0:P s.mach) :
 ∃s' m,NdA S (t+1) (N i) i (nodeT w i p) s'/\Went S t (N i) P i s s' m/\Fresh (envR s.mach) (envR s'.mach):=by
 have hNok:=h.nok i hi;have hcl:(comes w).length<=4000:=Nat.le_trans (List.length_filter_le _ _) (jby h.chk).1;have hnow:w.time+1=(t:Int)+1:=by rw[h.time]
 have hdl:Dl (S.T i) (S.vv i) i (K i) (N i) P s.mach (λj=>∃e,K i j=some e/\N i j=some e) (5000 * ((t:Int)+1)) :=
  ⟨ha.ar,h0,λx hx=>.inl (ha.hk x hx),λj e ⟨x,h1,h2⟩ h3=>(by rw[h2] at h3;cases h3;exact ha.hl j _ h1),ha.sq⟩
 obtain⟨s1,b1,b2,b3,b4⟩:=NodeL.fold (now:=w.time+1) hNok hP (comes w) p s _ _ ha.nl hdl (λx hx hd=>(h.com x hx i hd hi.1 hi.2.1).2 hd) zo;have hsq:=b3.sq;obtain⟨s2,c1,c2,c3,c4,c5,c6,c7⟩:=b1.tick (now:=w.time+1) zo zo b3.ar;have hby:=(jdz.1 b1.us.mach.hh).2
 have hdone:∀j e,N i j=some e->e∈s1.mach.heard:=λj e he=>by
  refine b3.done j e ?_ he;rcases h.all i j e hi he with h1 | ⟨x,hx,h1⟩
  ·exact .inl ⟨e,h1,he⟩
  ·exact .inr ⟨x,hx,h1⟩
 have hhk:∀x∈s1.mach.heard,N i x.node.toNat=some x:=λx hx=>by
  rcases b3.hk x hx with h1 | h1
  ·obtain⟨e,he,hf⟩:=hNok.fr _ _ h1
   have hin:=hdone _ _ he;have hen:=(hNok.ok _ _ he).2.1;have hxn:0<=x.node:=(jcx (b1.us.mach.hd x hx).ok).1
   have:x=e:=by
    unfold ByN at hby;refine zi λhne=>?_;obtain⟨a,ha1⟩:=List.getElem?_of_mem hx;obtain⟨b,hb1⟩:=List.getElem?_of_mem hin;have ha2:=List.getElem?_eq_some_iff.1 ha1;have hb2:=List.getElem?_eq_some_iff.1 hb1;rw[List.pairwise_iff_getElem] at hby;rcases Nat.lt_trichotomy a b with hab | hab | hab
    ·have:=hby a b ha2.1 hb2.1 hab
     rw[ha2.2,hb2.2] at this;omega
    ·subst hab;rw[ha1] at hb1;cases hb1;exact hne rfl
    ·have:=hby b a hb2.1 ha2.1 hab
     rw[ha2.2,hb2.2] at this;omega
   rw[he,this]
  ·exact h1
 refine⟨s2,s1.mach,⟨c1,c3,by omega,?_,?_⟩,⟨b3.pm,b1.us.mach,b3.ar,hhk,hdone,?_,?_⟩,b4.trans c4⟩
 ·rw[c6];exact hhk
 ·rw[c6];exact hdone
 ·rw[c2,b2,hnow]
 ·rw[<-b2,<-hnow];exact c7
theorem ju3(s:Slt):(ltrN s).length<=1:=by unfold ltrN;split<;>simp
theorem LK.tick(hS:S.Ok){K N:Nat->Nat->Option Evp}{w:Wld}(h:LK S t K N w)(ht:t<150)(hP:∀i,S.on i->Kept (S.T i) (S.vv i) i (K i) (N i) (P i))
 (h0:∀i p s,S.on i->w.nodes[i]?=some p->NdA S t (K i) i p s->P i s.mach) :
 LK S (t+1) N (nxtN S (tickD w) N) (tickD w)/\∀i,S.on i->∃p s p' s' m,w.nodes[i]?=some p/\NdA S t (K i) i p s/\(tickD w).nodes[i]?=some p'/\NdA S (t+1) (N i) i p' s'/\Went S t (N i) (P i) i s s' m:=by
 have hA:∀i,S.on i->∃p s s' m,w.nodes[i]?=some p/\NdA S t (K i) i p s/\NdA S (t+1) (N i) i (nodeT w i p) s'/\Went S t (N i) (P i) i s s' m/\Fresh (envR s.mach) (envR s'.mach):=λi hi=>by
  obtain⟨p,s,hp,ha⟩:=h.nd i hi;obtain⟨s',m,a,b,c⟩:=h.node ht hi (hP i hi) hp ha (h0 i p s hi hp ha);exact⟨p,s,s',m,hp,ha,a,b,c⟩
 have hB:∀i p,i<S.n->S.ill.testBit i=false->S.act i=false->w.nodes[i]?=some p->nodeT w i p=p:=λi p hi hil hac hp=>by
  obtain⟨q,hq,_,hs,_⟩:=h.no i hi hil hac;rw[hp] at hq;cases hq;unfold nodeT;rw[jqX _ _ (λx hx hd=>by have:=(h.com x hx i hd hi hil).1;rw[hac] at this;cases this),jyr hs]
 have hlen:=h.len
 have hlt:∀(i:Nat) p,w.nodes[i]?=some p->sickV w i=false->(lettersP (nodeT w i p)).length<=2:=λi p hp hsk=>by
  rw[h.sick] at hsk;have hi:=(List.getElem?_eq_some_iff.1 hp).1;rw[hlen] at hi;cases hac:S.act i with
  | true =>
   obtain⟨q,s,s',m,hq,_,a,_⟩:=hA i ⟨hi,hsk,hac⟩;rw[hp] at hq;cases hq;rw[a.nl.letters];have:=ju3 s';simp;omega
  | false =>
   rw[hB i p hi hsk hac hp];obtain⟨q,hq,_,hs,_⟩:=h.no i hi hsk hac;rw[hp] at hq;cases hq;rw[jfY hs];simp
 have hnx:=h.next;obtain⟨t1,⟨t2,t3,t4,t5⟩,t6,t7⟩:=jyo h.wi (by rw[h.time];omega) h.chk h.dls (λx hx=>by rw[h.time];exact h.due x hx) zo hlt;have htm:w.time+1=((t+1:Nat):Int):=by rw[h.time];omega
 have hnew:∀i,S.on i->∃p s p' s' m,w.nodes[i]?=some p/\NdA S t (K i) i p s/\(tickD w).nodes[i]?=some p'/\NdA S (t+1) (N i) i p' s'/\Went S t (N i) (P i) i s s' m/\Fresh (envR s.mach) (envR s'.mach):=λi hi=>by
  obtain⟨p,s,s',m,a1,a2,a3,a4,a5⟩:=hA i hi;exact⟨p,s,_,s',m,a1,a2,t1 i p a1 (by rw[h.sick];exact hi.2.1),a3,a4,a5⟩
 have hparts:(tickD w).net.parts=S.parts:=t7.parts.trans h.parts;have hap:∀a b:Int,apartV (tickD w).net a b=apartV ⟨[],0,S.parts,[]⟩ a b:=λa b=>jmV hparts a b
 have hpc:∀x∈(tickD w).net.pcs,x.due=w.time+1+1/\∃a b:Nat,x.src=(a:Int)/\x.dst=(b:Int)/\(b<w.nodes.length/\¬b=a/\sickV w a=false/\∃p,(tickD w).nodes[a]?=some p/\x.l∈lettersP p):=λx hx=>by
  rcases t7.only x hx with h1 | h1
  ·exact qp h1 qv
  ·exact h1
 -- who has sent
 have hsnd:∀a p l,a<S.n->S.ill.testBit a=false->(tickD w).nodes[a]?=some p->l∈lettersP p->S.act a=true/\l.slot=1/\((l.kind=1/\OneM (S.vv a) l.nom)\/(l.kind=2/\l.env=envOf (tickD w) a)):=λa p l ha hil hp hl=>by
  cases hac:S.act a with
  | true =>
   obtain⟨_,_,p',s',m,_,_,b3,b4,_⟩:=hnew a ⟨ha,hil,hac⟩;rw[hp] at b3;cases b3;rw[b4.nl.letters] at hl;refine⟨rfl,?_⟩;rcases zk hl with hl | hl
   ·unfold ltrN at hl
    split at hl
    ·cases hl
    ·rw[zl hl]
     exact⟨b4.nl.us.mach.slot,.inl ⟨rfl,jyx b4.nl.us.nom.one⟩⟩
   ·rw[zl hl]
    exact⟨rfl,.inr ⟨rfl,(jbZ hp b4.nl.slots).symm⟩⟩
  | false =>
   obtain⟨q,hq,_,hs,_⟩:=h.no a ha hil hac;have:=t1 a q hq (by rw[h.sick];exact hil);rw[hB a q ha hil hac hq,hp] at this;cases this;rw[jfY hs] at hl;cases hl
 have hcomes:∀x,x∈comes (tickD w)↔x∈(tickD w).net.pcs/\apartV ⟨[],0,S.parts,[]⟩ x.src x.dst=false:=λx=>by
  unfold comes;rw[List.mem_filter,hap];simp
 refine⟨⟨t6,by rw[t2,htm],by rw[t3];exact h.il,by rw[t4];exact h.trs,by rw[t5];exact hlen,t7.chk,t7.dls,hparts,?_,?_,?_,?_,?_,?_,?_,?_⟩,λi hi=>?_⟩
 ·have:=t7.next
  have e:({ w.net with pcs:=[] }:Ntw).next=w.net.next:=rfl;omega
 ·intro i hi
  obtain⟨_,_,p',s',_,_,_,b3,b4,_⟩:=hnew i hi;exact⟨p',s',b3,b4⟩
 ·intro i hi hil hac
  obtain⟨q,hq,hqr⟩:=h.no i hi hil hac;have:=t1 i q hq (by rw[h.sick];exact hil);rw[hB i q hi hil hac hq] at this;exact⟨q,this,hqr⟩
 ·intro i hi
  have hok:=h.nok i hi;refine⟨λj e he=>?_,λj x hx=>?_⟩
  ·unfold nxtN at he
   by_cases hlk:S.lk i j=true
   ·rw[qf hlk,qs] at he
    have hl:=LS.lk_iff.1 hlk;obtain⟨_,e1,e2⟩:=hS.link i j hi.1 hi.2.1 hlk;obtain⟨_,_,p',s',_,_,_,b3,b4,_⟩:=hnew j hl.1;rw[jbZ b3 b4.nl.slots] at he;subst he;have hu:=b4.nl.us.mach.env_ue;rw[e1,e2] at hu;exact⟨hl.2.1,b4.nl.us.mach.node,hu,b4.nl.us.mach.inv.inv.sz⟩
   ·rw[qe hlk] at he
    exact hok.ok j e he
  ·unfold nxtN
   by_cases hlk:S.lk i j=true
   ·rw[qf hlk]
    have hl:=LS.lk_iff.1 hlk;refine⟨_,rfl,?_⟩;obtain⟨p,s,p',s',_,b1,b2,b3,b4,_,b6⟩:=hnew j hl.1;rw[jbZ b3 b4.nl.slots];rcases h.lkN i j hi hlk with h1 | h1
    ·rw[h1] at hx;cases hx
    ·rw[h1,jbZ b1 b2.nl.slots,qs] at hx
     rw[<-hx];exact b6
   ·rw[qe hlk];exact⟨x,hx,.inl rfl⟩
 ·intro x hx
  have:=(hpc x hx).1;omega
 ·intro x hx i hd hi hil
  obtain⟨hx1,hx2⟩:=(hcomes x).1 hx;obtain⟨_,a,b,e1,e2,h1,h2,h3,p,h4,h5⟩:=hpc x hx1;have hbi:b=i:=by omega
  subst hbi;have ha:a<S.n:=by have:=(List.getElem?_eq_some_iff.1 h4).1;omega
  rw[h.sick] at h3;have hsd:=hsnd a p x.l ha h3 h4 h5;have hlk:S.lk b a=true:=LS.lk_iff.2 ⟨⟨ha,h3,hsd.1⟩,λe=>h2 e.symm,by unfold apN;rw[<-e1,<-e2];exact hx2⟩;obtain⟨f1,f2,f3⟩:=hS.link b a hi hil hlk;refine⟨f1,λ_=>⟨hsd.2.1,?_⟩⟩;rcases hsd.2.2 with h6 | h6
  ·left;rw[<-f2];exact h6
  ·right
   refine⟨h6.1,?_⟩;obtain⟨_,_,p',s',_,_,_,b3,b4,_⟩:=hnew a ⟨ha,h3,hsd.1⟩
   have hen:x.l.env.node.toNat=a:=by
    rw[h6.2,jbZ b3 b4.nl.slots];have:=b4.nl.us.mach.node;show s'.mach.node.toNat=a;omega
   rw[hen];unfold nxtN;rw[qf hlk,h6.2]
 ·intro i j e hi he
  unfold nxtN at he
  by_cases hlk:S.lk i j=true
  ·rw[qf hlk,qs] at he
   right
   have hl:=LS.lk_iff.1 hlk;obtain⟨_,_,p',s',_,_,_,b3,b4,_⟩:=hnew j hl.1;obtain⟨x,hx,e1,e2,e3⟩:=t7.all j i ⟨2,1,zNmn,envR s'.mach⟩ ⟨by rw[hlen];exact hi.1,λe=>hl.2.1 e.symm,by rw[h.sick];exact hl.1.2.1,p',b3,by rw[b4.nl.letters];exact List.mem_append_right _ (List.mem_singleton.2 rfl)⟩;refine⟨x,(hcomes x).2 ⟨hx,by rw[e1,e2];exact hl.2.2⟩,e2,by rw[e3],?_⟩;rw[e3];have:=b4.nl.us.mach.node;show s'.mach.node.toNat=j;omega
  ·rw[qe hlk] at he;exact .inl he
 ·intro i j hi hlk
  unfold nxtN;rw[qf hlk];exact .inr rfl
 ·obtain⟨p,s,p',s',m,a1,a2,a3,a4,a5,_⟩:=hnew i hi
  exact⟨p,s,p',s',m,a1,a2,a3,a4,a5⟩
section
variable{v:Str}{A:Nat}{τ:Nat->Trust}{i:Nat}
theorem W1.seqS(w:W1 τ v i m)(k:Int):W1 τ v i { m with seq:=k }:=⟨w.p1,w.p2,w.p3⟩
theorem AR.ne(ha:AR (TA A τ) v i m)(w:W1 τ v i m)(hp:¬m.phase=3):NE (envR m)/\(m.phase=2->m.prep.n=1/\m.bal.n=1):=by
 obtain⟨k,hu,hr⟩:=ha;have h:=(w.seqS k).ne hu hr hp;exact⟨⟨h.1.kind,h.1.bal,h.1.prep,h.1.low⟩,h.2⟩
theorem W1.hear(ha:AR (TA A τ) v i m)(w:W1 τ v i m)(q:List Evp):W1 τ v i { m with heard:=q }:=by
 refine⟨w.p1,λhp=>?_,w.p3⟩;have hp:m.phase=2:=hp;exact⟨(w.p2 hp).1,.inl ((ha.ne w zo).2 hp)⟩
theorem W5.kept{K N:Nat->Option Evp}(hK:∀j e,K j=some e\/N j=some e->LE e):Kept (TA A τ) v i K N W5:=by
 refine⟨λm k w=>w,λm q e hu ha w huq hput he hold hq=>?_⟩;exact W5.rest huq w (λx hx=>hK _ x (hq x hx))
theorem jtR(h:InvM m)(hp:m.phase=3):restM m=m:=by
 refine je0 ?_;have e1:prepM m=m:=by unfold prepM;rw[qf (.inl hp)]
 have e2:confS m=m:=by unfold confS;rw[qf (.inl zo)]
 have e3:comM m=m:=by unfold comM;rw[qe zo,qe zo]
 have e4:finM m=m:=by unfold finM;rw[qf zo]
 have e5:cauM m=m:=by unfold cauM;rw[qf (.inl hp)]
 unfold stepG;rw[e1,e2,e3,e4,e5,ja2];simp
theorem juT{T:Nat->Trust->Prop}{K N:Nat->Option Evp}:Kept T v i K N (λm=>m.phase=3):=by
 refine⟨λm k w=>w,λm q e hu ha w huq hput he hold hq=>?_⟩;show (restM { m with heard:=q }).phase=3;rw[jtR huq.inv.inv w];exact w
theorem jr1{T:Nat->Trust->Prop}{K N:Nat->Option Evp}:Kept T v i K N (λ_=>True):=⟨λ_ _ _=>trivial,λ_ _ _ _ _ _ _ _ _ _ _=>trivial⟩
theorem jlc(h:UM (TA A τ) v i m)(ht:togM m=true):∃q,q<1024/\Qt τ q/\q.testBit i=true/\Sub q A/\∀j,¬j=i->q.testBit j=true->∃e∈m.heard,e.node.toNat=j:=by
 unfold togM at ht;split at ht
 ·cases ht
 ·split at ht
  ·cases ht
  ·have hl:∀e∈m.heard++[msgM m],UE (TA A τ) v e:=λe he=>by
    rcases zk he with he | he
    ·exact h.hd e he
    ·rw[zl he,h.msg_env];exact h.env_ue
   have hV:VOK (TA A τ) (viewE m.node m.t (m.heard++[msgM m])):=jno (by rw[h.node];exact h.t) (λe he _=>(hl e he).t)
   have hbit:∀k,(whoE (λe=>decide (m.bal.n<=cntE e)) (rights (m.heard++[msgM m]))).testBit k=true->∃e∈m.heard++[msgM m],vE e=true/\e.node.toNat=k:=λk hk=>by
    unfold whoE at hk;rw[jgv] at hk;simp only[Nat.zero_testBit,Bool.false_eq_true,false_or] at hk;obtain⟨e,he,_,h2⟩:=hk;have:=List.mem_filter.1 he;exact⟨e,this.1,this.2,h2⟩
   have hw:whoE (λe=>decide (m.bal.n<=cntE e)) (rights (m.heard++[msgM m]))<1024:=by
    have:=jdG (s:=whoE (λe=>decide (m.bal.n<=cntE e)) (rights (m.heard++[msgM m]))) (n:=10) (λk hk=>by
     obtain⟨e,_,h1,h2⟩:=hbit k hk;have:=jcx h1
     omega)
    exact this
   have g:=jnx hV hw;have h1:=((jaX (jcS _ _)).1 ht).2.2;have hnode:=h.node;rw[show m.node.toNat=i by omega] at h1;refine⟨_,jcS _ _,g.1,h1,g.2.2,λj hj hq=>?_⟩;obtain⟨e,he,h2,h3⟩:=hbit j (g.2.1 j hq);rcases zk he with he | he
   ·exact⟨e,he,h3⟩
   ·rw[zl he] at h3
    exact qp (show m.node.toNat=j from h3) zo
structure ZZ(τ:Nat->Trust)(v:Str)(G i t:Nat)(m:Mach):Prop where
 w:W1 τ v i m
 l2:G.testBit i=true->2<=t->1<=m.prep.n
 l3:G.testBit i=true->3<=t->m.phase=1->1<=m.conf.n
 l4:G.testBit i=true->4<=t->m.phase=2
def TmOk(t:Nat)(tm:Tm):Prop:=tm.due=-1\/(2<=t/\4<=tm.due/\tm.n=1)
theorem jxI{tm:Tm}(h:TmOk t tm)(ht:t+1<=3)(hb:m.bal.n=1)(h0:t=0->togM m=false):(stepV tm m ((t:Int)+1)).2=false/\TmOk (t+1) (stepV tm m ((t:Int)+1)).1:=by
 unfold stepV;split
 ·exact⟨rfl,.inl rfl⟩
 split
 ·exact⟨rfl,.inl rfl⟩
 ·rename_i htog
  have ht0:¬t=0:=λe=>htog (h0 e);split
  ·refine⟨rfl,.inr ⟨by omega,?_,hb⟩⟩
   show 4<=(t:Int)+1+waitV m.bal.n;rw[hb];have:waitV 1=2:=by decide
   omega
  ·rename_i hnew
   unfold stepNew at hnew;simp only[Bool.or_eq_true,not_or,qo,Bool.not_eq_true',decide_eq_false_iff_not,Classical.not_not] at hnew;rcases h with h | h
   ·exact qp h hnew.1
   ·rw[qe zo]
    exact⟨rfl,.inr ⟨by omega,h.2.1,h.2.2⟩⟩
end
def Fin(A:Nat)(w:Wld):Prop:=∃i p s,A.testBit i=true/\w.nodes[i]?=some p/\p.slots=[s]/\s.mach.phase=3
theorem jqC{tm:Tm}(h:(stepV tm m now).2=true):togM m=true:=by
 unfold stepV at h;split at h
 ·cases h
 split at h
 ·cases h
 ·rename_i h1
  cases e:togM m with
  | true=>rfl
  | false=>exact qp e h1
theorem NdA.one{K:Nat->Option Evp}{i:Nat}{s:Slt}(h:NdA S t K i p s)(hs:p.slots=[s']):s'=s:=by
 have e2:=h.nl.slots;rw[hs,List.cons.injEq] at e2;exact e2.1
theorem LK.fin(hS:S.Ok)(hA:∀i,A.testBit i=true->S.on i){K N:Nat->Nat->Option Evp}{w:Wld}(h:LK S t K N w)(ht:t<150)(hf:Fin A w):Fin A (tickD w):=by
 obtain⟨i,p,s,hi,hp,hs,h3⟩:=hf
 obtain⟨_,hw⟩:=LK.tick hS h ht (P:=λj m=>j=i->m.phase=3) (λj hj=>by
  by_cases e:j=i
  ·have:=juT (T:=S.T j) (v:=S.vv j) (i:=j) (K:=K j) (N:=N j)
   exact⟨λm k w _=>this.1 m k (w e),λm q e' a b c d f g o r _=>this.2 m q e' a b (c e) d f g o r⟩
  ·exact⟨λm k w hA'=>qp hA' e,λm q e' a b c d f g o r hA'=>qp hA' e⟩)
  (λj pj sj hj hpj ha e=>by
    subst e;rw[hp] at hpj;cases hpj
    rw[<-ha.one hs];exact h3)
 obtain⟨_,_,p',s',m,_,_,a3,a4,a5⟩:=hw i (hA i hi);have hm:=a5.pm rfl
 have hgo:s'.mach=m:=by
  rcases a5.go with h1 | ⟨_,h1,_⟩
  ·exact h1
  ·omega
 exact⟨i,p',s',hi,a3,a4.nl.slots,by rw[hgo];exact hm⟩
theorem LK.go(hS:S.Ok){K N:Nat->Nat->Option Evp}{w:Wld}(h:LK S t K N w)(ht:t<150):LK S (t+1) N (nxtN S (tickD w) N) (tickD w) :=
 (LK.tick hS h ht (P:=λ_ _=>True) (λi hi=>jr1) (λ_ _ _ _ _ _=>trivial)).1
def tickI:Nat->Wld->Wld
 | 0,w=>w
 | n+1,w=>tickI n (tickD w)
theorem LK.goI{S:LS}(hS:S.Ok):∀(n:Nat){t:Nat}{K N:Nat->Nat->Option Evp}{w:Wld},LK S t K N w->t+n<=150->∃K' N',LK S (t+n) K' N' (tickI n w)
 | 0,t,K,N,w,h,_=>⟨K,N,h⟩
 | n+1,t,K,N,w,h,ht=>by
  obtain⟨K',N',h'⟩:=LK.goI hS n (h.go hS zo) zo;exact⟨K',N',by rw[show t+(n+1)=t+1+n by omega];exact h'⟩
theorem LK.finI{S:LS}(hS:S.Ok){A:Nat}(hA:∀i,A.testBit i=true->S.on i):∀(n:Nat){t:Nat}{K N:Nat->Nat->Option Evp}{w:Wld},LK S t K N w->t+n<=150->Fin A w->Fin A (tickI n w)
 | 0,t,K,N,w,h,_,hf=>hf
 | n+1,t,K,N,w,h,ht,hf=>LK.finI hS hA n (h.go hS zo) zo (h.fin hS hA zo hf)
theorem ja5(n:Nat)(w:Wld):tickI (n+1) w=tickI n (tickD w):=rfl
theorem joq:∀(l:List Ptc)(f:Nat->Trust)(k:Nat),(∀(j:Nat) p,l[j]?=some p->p.node=((k+j:Nat):Int)/\checkP p=true/\p.t=f (k+j))->wnGo l ((List.range' k l.length).map λi=>[f i]) k=true
 | [],f,k,_=>by simp[wnGo]
 | p::r,f,k,h=>by
  have h0:=h 0 p rfl;have ih:=joq r f (k+1) (λj q hq=>by rw[show k+1+j=k+(j+1) by omega];exact h (j+1) q (by simpa using hq))
  have hv:validT p.t=0:=by
   have:=h0.2.1;unfold checkP at this;simp only[qh,qo] at this;exact this.1.1.2
  rw[qi,List.range'_succ,List.map_cons,wnGo,ih,h0.2.1,qg (p:=p.node=(k:Int)) (by have:=h0.1;omega)];have ht:f k=p.t:=by have:=h0.2.2;rw[Nat.add_zero] at this;exact this.symm
  rw[ht];simp only[hasTr,List.any_cons,List.any_nil,Bool.or_false,jc8,trsGo,qi,qu,Bool.and_true,qx,Bool.not_false,qg hv];rfl
def LS.Trs(S:LS):Prop:=S.trs=(List.range S.n).map λi=>[S.tr i]
theorem LK.check(hS:S.Ok){K N:Nat->Nat->Option Evp}{w:Wld}(h:LK S t K N w)(ht:t<=200)(hill:S.ill<2^S.n)(htr:S.Trs)(hsk:∀i,i<S.n->S.ill.testBit i=true->∃p,w.nodes[i]?=some p/\p.node=(i:Int)/\checkP p=true/\p.t=S.tr i):checkW w=true:=by
 have hn:=hS.n10
 have hnode:∀(j:Nat) p,w.nodes[j]?=some p->p.node=((0+j:Nat):Int)/\checkP p=true/\p.t=S.tr (0+j):=λj p hp=>by
  rw[Nat.zero_add];have hj:j<S.n:=by have:=(List.getElem?_eq_some_iff.1 hp).1;rw[h.len] at this;exact this
  cases hil:S.ill.testBit j with
  | true =>
   obtain⟨q,hq,a,b,c⟩:=hsk j hj hil;rw[hp] at hq;cases hq;exact⟨a,b,c⟩
  | false =>
   cases hac:S.act j with
   | true =>
    obtain⟨q,s,hq,a⟩:=h.nd j ⟨hj,hil,hac⟩;rw[hp] at hq;cases hq;exact⟨a.nl.node,a.nl.check,a.nl.t⟩
   | false =>
    obtain⟨q,hq,a,_,b⟩:=h.no j hj hil hac;rw[hp] at hq;cases hq;exact⟨a.1,b,a.2.2⟩
 have h1:=joq w.nodes S.tr 0 hnode;have e:w.trs=(List.range' 0 w.nodes.length).map λi=>[S.tr i]:=by rw[h.trs,htr,h.len,List.range_eq_range']
 have h3:headW w=true:=by
  unfold headW;rw[h.chk,h.len,h.il,h.time,h.trs,htr,qw,List.length_range];rw[qg (p:=(t:Int)>=0) zo,qg (p:=(t:Int)<=200) zo,qg (p:=1<=S.n) hn.1,qg (p:=S.n<=10) hn.2,qg (p:=(S.ill:Int)>=0) zo,qg (p:=(S.ill:Int)<(2^S.n:Nat)) zo,qg (p:=S.n=S.n) rfl];rfl
 unfold checkW;rw[h3,e,h1];rfl
theorem jvR{w:Wld}:∀(l:List Ptc)(k i:Nat)(p:Ptc),l[i]?=some p->∀o∈p.slots.flatMap (otcS w (k+i) p),o∈otcGo w l k
 | [],k,i,p,h,_,_=>by simp at h
 | q::r,k,0,p,h,o,ho=>by
  simp only[List.getElem?_cons_zero,qs] at h;subst h;rw[otcGo];exact List.mem_append_left _ ho
 | q::r,k,i+1,p,h,o,ho=>by
  rw[otcGo];refine List.mem_append_right _ (jvR r (k+1) i p (by simpa using h) o ?_);rw[show k+1+i=k+(i+1) by omega];exact ho
theorem NdA.decided{K:Nat->Option Evp}{i:Nat}{s:Slt}(h:NdA S t K i p s)(k:Int):decidedP p k=if k=1/\s.mach.phase=3 then (S.vv i,true) else (noS,false):=by
 have hd:=h.nl.us.mach.dcd;have hsl:=h.nl.us.mach.slot;unfold decidedP;rw[qe (by rw[h.nl.check];decide)]
 by_cases hk:k=1
 ·subst hk
  rw[js8 h.nl.slots hsl,show p.slots[0]?=some s by rw[h.nl.slots];rfl];simp only;rw[h.nl.us.done,h.nl.us.value,hd,hsl]
  by_cases hp:s.mach.phase=3
  ·rw[qf hp,qf (show (decide ((1:Int)=1)&&((S.vv i,true):Str × Bool).2)=true from rfl),qf (show True/\s.mach.phase=3 from ⟨trivial,hp⟩)]
  ·rw[qe hp,qe (show ¬(decide ((1:Int)=1)&&((noS,false):Str × Bool).2)=true by decide),qe (show ¬(True/\s.mach.phase=3) from λh=>hp h.2)]
 ·rw[qe (λh=>hk h.1)]
  cases hx:p.slots[atP p k]? with
  | none=>rfl
  | some y =>
   have hy:y=s:=by
    have:=qk hx;rw[h.nl.slots] at this;exact zl this
   simp only;rw[hy,hsl,qz (λe=>hk e.symm),qy,qe zd]
theorem LK.outs{K N:Nat->Nat->Option Evp}{w:Wld}(h:LK S t K N w):∀o∈outcomes w,∃i:Nat,S.on i/\o.node=(i:Int)/\o.slot=1/\o.val=S.vv i:=by
 intro o ho;unfold outcomes at ho;split at ho
 ·cases ho
 ·obtain⟨j,p,h1,h2,h3,h4,h5⟩:=jlh _ _ _ ho
  rw[Nat.zero_add] at h2 h3;rw[h.sick] at h3;have hj:j<S.n:=by have:=(List.getElem?_eq_some_iff.1 h1).1;rw[h.len] at this;exact this
  cases hac:S.act j with
  | false =>
   obtain⟨q,hq,_,hs,_⟩:=h.no j hj h3 hac;rw[h1] at hq;cases hq;rw[jux (λs hss=>by rw[hs] at hss;cases hss)] at h4;cases h4
  | true =>
   obtain⟨q,s,hq,a⟩:=h.nd j ⟨hj,h3,hac⟩;rw[h1] at hq;cases hq;rw[a.decided] at h4 h5
   by_cases hc:o.slot=1/\s.mach.phase=3
   ·rw[qf hc] at h5
    exact⟨j,⟨hj,h3,hac⟩,h2,hc.1,h5⟩
   ·rw[qe hc] at h4;cases h4
theorem LK.out_fin{K N:Nat->Nat->Option Evp}{w:Wld}(h:LK S t K N w)(hc:checkW w=true)(hA:∀i,A.testBit i=true->S.on i)(hf:Fin A w):∃i:Nat,A.testBit i=true/\⟨(i:Int),1,S.vv i⟩∈outcomes w:=by
 obtain⟨i,p,s,hi,hp,hs,h3⟩:=hf;have hon:=hA i hi;obtain⟨q,s',hq,a⟩:=h.nd i hon;rw[hp] at hq;cases hq;obtain rfl:=a.one hs;refine⟨i,hi,?_⟩;unfold outcomes;rw[qe (by rw[hc];decide)];refine jvR w.nodes 0 i p hp _ ?_;rw[hs,List.flatMap_cons,List.flatMap_nil,List.append_nil,Nat.zero_add];have hd:=a.decided 1;rw[qf (show (1:Int)=1/\s.mach.phase=3 from ⟨rfl,h3⟩)] at hd;unfold otcS;rw[a.nl.us.mach.slot,hd,h.sick,hon.2.1,qf (show (((S.vv i,true):Str × Bool).2&&!false)=true from rfl)];exact List.mem_singleton.2 rfl
theorem jni:∀(n:Nat)(w:Wld),w.time+n<=200->ticksW n w=(tickI n w,0)
 | 0,w,_=>rfl
 | n+1,w,h=>by
  have h1:tickW w=(tickD w,0):=by unfold tickW;rw[qe zo]
  have ht:(tickD w).time=w.time+1:=(jhY w).2.1;rw[ticksW,h1,qe (by simp),ja5];exact jni n (tickD w) (by rw[ht];omega)
theorem jvf{w:Wld}{i:Nat}(hW:WI w)(hl:LB x.l)(hd:0<=x.dst)(hs:sickV w (i:Int)=true):(inW now w x).nodes[i]?=w.nodes[i]?:=by
 unfold inW;split
 ·rfl
 ·rename_i hc
  simp only[Bool.or_eq_true,not_or,qo,Bool.not_eq_true] at hc;have hlt:x.dst.toNat<w.nodes.length:=by omega
  have hq:=ze hlt;rw[hq];simp only;split
  ·rename_i h0
   have hn:=hW.nd _ _ hq;have h1:=jeG hn.2 hl h0;rw[jbW (i:=x.dst.toNat) (h1.2.trans hn.1) hlt,qe (λe=>?_)];have e2:x.dst=(i:Int):=by omega
   rw[e2,hs] at hc;cases hc.2
  ·rfl
theorem jh4{now:Int}{i:Nat}:∀(P:List Pcl)(w:Wld),WI w->(∀x∈P,LB x.l/\0<=x.dst)->sickV w (i:Int)=true->(P.foldl (inW now) w).nodes[i]?=w.nodes[i]?/\sickV (P.foldl (inW now) w) (i:Int)=true
 | [],w,_,_,hs=>⟨rfl,hs⟩
 | x::r,w,hW,hP,hs=>by
  have hx:=hP x (za);have h1:=jvf (now:=now) hW hx.1 hx.2 hs;have hl:=jkf (w:=w) (now:=now) (p:=x);have ih:=jh4 (now:=now) (i:=i) r (inW now w x) (jrw hW hx.1) (λy hy=>hP y (qj _ hy)) (by unfold sickV at *;rw[hl.2.2.2.1];exact hs);exact⟨ih.1.trans h1,ih.2⟩
theorem juF{w:Wld}{i:Nat}(hW:WI w)(hs:sickV w (i:Int)=true):(tkW now w k).nodes[i]?=w.nodes[i]?:=by
 unfold tkW;split
 ·rfl
 ·rename_i hc
  cases hx:w.nodes[k]? with
  | none=>rfl
  | some q =>
   simp only;split
   ·rename_i h0
    have hn:=hW.nd k q hx;have h1:=jev hn.2 h0;rw[jbW (i:=k) (h1.2.trans hn.1) (List.getElem?_eq_some_iff.1 hx).1,qe (λe=>by subst e;exact hc hs)]
   ·rfl
theorem jh8{now:Int}{i:Nat}:∀(l:List Nat)(w:Wld),WI w->sickV w (i:Int)=true->(l.foldl (tkW now) w).nodes[i]?=w.nodes[i]?
 | [],w,_,_=>rfl
 | k::r,w,hW,hs=>by
  have h1:=juF (now:=now) (k:=k) hW hs;have hl:=jj8 (w:=w) (now:=now) (i:=k);exact(jh8 r (tkW now w k) (jqF hW) (by unfold sickV at *;rw[hl.2.2.2.1];exact hs)).trans h1
theorem jqH{w:Wld}(hW:WI w)(ht:w.time<200){i:Nat}(hs:sickV w (i:Int)=true):(tickD w).nodes[i]?=w.nodes[i]?:=by
 have hB:=jh4 (now:=w.time+1) (i:=i) (dueV w.net (w.time+1)).1 (tickA w) (jgj hW ht) (λx hx=>⟨(jg3 hW.net).2 x hx,(ji2 x hx).1.1⟩) hs;have hC:=jh8 (now:=w.time+1) (i:=i) (List.range (tickB w).nodes.length) (tickB w) (jjj hW ht) hB.2;exact hC.trans hB.1
theorem jzK(c:List Mem):c.map (λm=>[m.t])=(List.range c.length).map λi:Nat=>[tOf c i]:=by
 refine List.ext_getElem (by simp) (λi h1 h2=>?_);simp only[List.getElem_map,List.getElem_range];rw[jbp (ze (by simpa using h1))]
section
variable{c:List Mem}{v:Str}
end
structure LI(L:Nat)(e:Evp):Prop where
 kind:e.kind=3
 low:e.low=1
 high:e.high=1
 node:L.testBit e.node.toNat=true
def NX(L:Nat)(e:Evp):Prop:=NE e\/LI L e
theorem NX.le(h:NX L e):LE e:=λh0=>by
 rcases h with h | h
 ·exact h.low h0
 ·exact⟨h.low,h.high⟩
section
variable{v:Str}{A:Nat}{τ:Nat->Trust}{i L:Nat}{T:Nat->Trust->Prop}
theorem UM.noblockL(h:UM (TA A τ) v i m)(hL:L<1024)(hb:sat (others L i:Nat) (τ i)=true){s:Nat}(hsub:Sub s L):blocksC (viewE m.node m.t (allM m)) m.node (s:Int)=false:=by
 have hs:s<1024:=hsub.lt hL
 have key:blocksC (viewE m.node m.t (allM m)) m.node ((L:Nat):Int)=false:=by
  unfold blocksC;cases hh:has (declC (viewE m.node m.t (allM m))) m.node with
  | false=>rw[qy,qB]
  | true =>
   have h1:=((jaX (ja0 _)).1 hh).2.2;have hn:=h.node;have e1:m.node.toNat=i:=by omega
   rw[e1] at h1
   have e2:tOf (viewE m.node m.t (allM m)) m.node=τ i:=by
    have:=jf1 h.view h1;rw[<-hn] at this;exact this
   rw[e2,qq,e1,hb];simp
 cases hx:blocksC (viewE m.node m.t (allM m)) m.node (s:Int) with
 | false=>rfl
 | true=>rw[jgD hs hL hsub hx] at key;cases key
theorem jmq{node:Int}{a b:Nat}(hb:∀k,b.testBit k=true->a.testBit k=true)(hbl:blocksC V node (b:Int)=false)(h:acceptsC V node (a:Int) (b:Int)=true):has (great V (a:Nat):Nat) node=true:=by
 have e:a|||b=a:=Nat.eq_of_testBit_eq λk=>by
  rw[Nat.testBit_or];cases hbk:b.testBit k with
  | false=>simp
  | true=>rw[hb k hbk];rfl
 unfold acceptsC at h;rw[hbl,Bool.false_or,qq,qq,e] at h;simp only[qh] at h;exact h.2.2
theorem joB{p:Evp->Bool}{l:List Evp}(h:∀e∈l,p e=true->L.testBit e.node.toNat=true):Sub (setP p l) L:=λk hk=>by
 obtain⟨e,he,⟨h1,_⟩,h2⟩:=jbL.1 hk;rw[<-h2];exact h e he h1
theorem UM.beyondL(h:UM (TA A τ) v i m)(hL:L<1024)(hiL:L.testBit i=false)(hb0:sat (others L i:Nat) (τ i)=true)(hN:∀e∈m.heard,NX L e)(hp:¬m.phase=3)(h1:m.phase=1->m.bal.n=1)(h2:m.prep.n<=1){b:Bal}(hb:b.v=v)(hb1:1<b.n)
 (ha:acc25 m.node m.t (allM m) b=true):m.phase=2/\Q2 τ v i m.heard:=by
 have hnode:=h.node
 have hap:∀e∈allM m,apR e b=true->e∈m.heard/\LI L e:=λe he ht=>by
  have hu:=h.all e he
  have key:¬e.kind=3->e.prep.n<=1->False:=λhk hpn=>by
   unfold apR at ht;rw[qe hk,hu.prime,jhJ hu.prep hb zo,qz zo] at ht;simp at ht
  rcases jb0 he with rfl | he'
  ·rw[h.say_env] at key
   exact(key hp (by rw[UM.eprep hp h.ph];exact h2)).elim
  ·rcases hN e he' with hn | hn
   ·exact(key hn.kind hn.prep).elim
   ·exact⟨he',hn⟩
 unfold acc25 at ha;have hg:=jmq (jcJ (λe he=>by rw[he];rfl)) (h.noblockL hL hb0 (joB (λe he ht=>(hap e he ht).2.node))) ha;obtain⟨q,hq,hQ,hi,hs,_⟩:=h.great_out (jbh _ _) hg
 have hv:∀j,q.testBit j=true->∃e∈allM m,e.node.toNat=j/\(vpR e b=true\/(e∈m.heard/\LI L e)):=λj hj=>by
  obtain⟨e,he,⟨h3,_⟩,h4⟩:=jbL.1 (hs j hj);rw[Bool.or_eq_true] at h3;rcases h3 with h3 | h3
  ·exact⟨e,he,h4,.inr (hap e he h3)⟩
  ·exact⟨e,he,h4,.inl h3⟩
 have hvk:∀e,UE (TA A τ) v e->vpR e b=true->e.kind=1->b.n<=e.bal.n:=λe hu h3 hk=>by
  unfold vpR at h3;rw[qf hk,jfW hu.balb hb zo] at h3;simp only[qh,qo] at h3;exact h3.2
 have hp2:m.phase=2:=by
  obtain⟨e,he,h3,h4⟩:=hv i hi;have heo:=h.own he h3
  have h4:vpR e b=true:=by
   rcases h4 with h4 | h4
   ·exact h4
   ·have:=h4.2.node;rw[h3,hiL] at this;cases this
  rw[heo] at h4;refine zi λhn=>?_;have h5:m.phase=1:=by have:=h.ph;omega
  have h6:b.n<=m.bal.n:=hvk _ h.env_ue h4 h5;have:=h1 h5;omega
 refine⟨hp2,q,hq,hQ,hi,λj hj hqj=>?_⟩;obtain⟨e,he,h3,h4⟩:=hv j hqj;have hu:=h.all e he;rcases h4 with h4 | h4
 ·have heh:e∈m.heard:=by
   rcases jb0 he with rfl | he
   ·exact qp (show m.node.toNat=j from h3) zo
   ·exact he
  refine⟨e,heh,h3,?_⟩;rcases hN e heh with hn | hn
  ·have hk:¬e.kind=1:=λhk=>by
    have:=hvk e hu h4 hk;have:=hn.bal;omega
   have hl:=jrn hu.ok hk;exact jd3 hu hk (hn.low zo).1
  ·exact jd3 hu (by have:=hn.kind;omega) hn.low
 ·exact⟨e,h4.1,h3,jd3 hu (by have:=h4.2.kind;omega) h4.2.low⟩
structure Sure(A L:Nat)(τ:Nat->Trust)(i:Nat):Prop where
 l1:L<1024
 no:L.testBit i=false
 bl:sat (others L i:Nat) (τ i)=true
theorem W1.prepL(h:UM (TA A τ) v i m)(hu:Sure A L τ i)(hN:∀e∈m.heard,NX L e)(w:W1 τ v i m):W1 τ v i (Tq.prepM m):=by
 by_cases hp:m.phase=3
 ·have:Tq.prepM m=m:=by unfold Tq.prepM;rw[qf (.inl hp)]
  rw[this];exact w
 ·rw[h.prep_eq hp]
  have key:m.prep.n<=1->(prepB m).n<=1\/(m.phase=2/\Q2 τ v i m.heard):=λh2=>by
   refine zi λhn=>?_;have hn1:¬(prepB m).n<=1:=λh'=>hn (.inl h');rcases jbV m.node m.t (allM m) m.prep m.prime (if m.phase=2 then m.bal.v else noS) (ballotsV (allM m)) with h3 | ⟨h3,_,h4⟩
   ·refine hn1 ?_
    show (finB1 (nextV m.node m.t (allM m) m.prep m.prime (if m.phase=2 then m.bal.v else noS))).n<=1;unfold nextV;rw[h3];decide
   ·have hb:=jbu h.all _ h3
    refine hn (.inr (h.beyondL hu.l1 hu.no hu.bl hN hp (λh'=>(w.p1 h').1) h2 hb.1 ?_ h4));have hf:=(jii (v:=v) (.inr hb)).2.2;have e:(prepB m).n=min (nextGo m.node m.t (allM m) m.prep m.prime (if m.phase=2 then m.bal.v else noS) (ballotsV (allM m))).n 1000:=hf;omega
  refine⟨λh1=>?_,λh1=>?_,λh1=>qp h1 hp⟩
  ·have h1:m.phase=1:=h1
   have w1:=w.p1 h1;refine⟨w1.1,?_,w1.2.2⟩;show (prepN m).n<=1;unfold Tq.prepN;rcases key w1.2.1 with k | k
   ·split<;>omega
   ·omega
  ·have h1:m.phase=2:=h1
   have w2:=w.p2 h1;refine⟨w2.1,?_⟩;rcases w2.2 with h2 | h2
   ·rcases key zo with k | k
    ·left
     refine⟨?_,h2.2⟩;show (prepN m).n=1;unfold Tq.prepN;split<;>omega
    ·exact .inr k.2
   ·exact .inr h2
theorem NX.cnt(h:NX L e)(hn:1<=n)(hc:cntR e>n):L.testBit e.node.toNat=true:=by
 rcases h with h | h
 ·have:=h.cnt;omega
 ·exact h.node
theorem UM.noaheadL(h:UM (TA A τ) v i m)(hu:Sure A L τ i)(hN:∀e∈m.heard,NX L e)(hn:1<=n):aheadV m n=false:=by
 unfold aheadV;exact h.noblockL hu.l1 hu.bl (joB (λe he ht=>(hN e he).cnt hn (qc ht)))
theorem W1.cauL(h:UM (TA A τ) v i m)(hu:Sure A L τ i)(hN:∀e∈m.heard,NX L e):Tq.cauM m=m:=by
 unfold Tq.cauM;rw[qf (.inr (h.noaheadL hu hN h.baln))]
theorem W1.stepL(h:UM (TA A τ) v i m)(hu:Sure A L τ i)(hN:∀e∈m.heard,NX L e)(w:W1 τ v i m):W1 τ v i (Tq.stepG m):=by
 unfold Tq.stepG;split
 ·exact w.prepL h hu hN
 split
 ·exact w.confS h
 split
 ·exact w.comM h (λe he=>(hN e he).le)
 split
 ·exact w.finM h (λe he=>(hN e he).le)
 ·rw[W1.cauL h hu hN];exact w
theorem W1.restL(h:UM (TA A τ) v i m)(hu:Sure A L τ i)(hN:∀e∈m.heard,NX L e)(w:W1 τ v i m):W1 τ v i (restM m):=by
 have:=jcu (P:=λc=>(UM (TA A τ) v i c/\c.heard=m.heard)/\W1 τ v i c) (λc hc ⟨⟨h1,h2⟩,h3⟩=>⟨⟨h1.stepG,((ja3 hc).1.heard).trans h2⟩,h3.stepL h1 hu (by rw[h2];exact hN)⟩) h.inv.inv ⟨⟨h,rfl⟩,w⟩;exact this.2
theorem W1.keptL{K N:Nat->Option Evp}(hu:Sure A L τ i)(hK:∀j e,K j=some e\/N j=some e->NX L e):Kept (TA A τ) v i K N (W1 τ v i):=by
 refine⟨λm k w=>w.seqS k,λm q e hm ha w huq hput he hold hq=>?_⟩;exact(W1.hear ha w q).restL huq hu (λx hx=>hK _ x (hq x hx))
end
theorem jcq{i:Nat}:(A|||L).testBit i=true↔A.testBit i=true\/L.testBit i=true:=by
 rw[Nat.testBit_or,Bool.or_eq_true]
structure GrpX(S:LS)(A L:Nat)(τ:Nat->Trust)(v:Str)(lie:Nat->Evp):Prop where
 on:∀i,A.testBit i=true->S.on i/\S.T i=TA (A|||L) τ/\S.vv i=v
 lk:∀i j,A.testBit i=true->(S.lk i j=true↔A.testBit j=true/\¬j=i)
 su:∀i,A.testBit i=true->Sure (A|||L) L τ i
 a1:A<1024
 l1:L<1024
 gq:Qt τ (A|||L)
 lie:∀j,L.testBit j=true->LI L (lie j)/\(lie j).node=(j:Int)/\UE (TA (A|||L) τ) v (lie j)
 alone:∀i q,A.testBit i=true->q<1024->Qt τ q->q.testBit i=true->(∀j,q.testBit j=true->j=i\/L.testBit j=true)->False
theorem GrpX.b1{τ:Nat->Trust}{lie:Nat->Evp}(h:GrpX S A L τ v lie):A|||L<1024:=Nat.or_lt_two_pow (n:=10) h.a1 h.l1
structure GX(S:LS)(A L:Nat)(τ:Nat->Trust)(v:Str)(lie:Nat->Evp)(t:Nat)(K N:Nat->Nat->Option Evp)(w:Wld):Prop where
 lk:LK S t K N w
 kn:∀i j e,A.testBit i=true->(K i j=some e\/N i j=some e)->NX L e
 n0:t=0->∀i j,A.testBit i=true->A.testBit j=true->N i j=none
 nn:∀i j,A.testBit i=true->A.testBit j=true/\¬j=i->1<=t->N i j=some (envOf w j)
 nl:∀i j,A.testBit i=true->L.testBit j=true->N i j=some (lie j)
 no:∀i j,A.testBit i=true->¬A.testBit j=true->¬L.testBit j=true->N i j=none
 nd:∀i p s,A.testBit i=true->w.nodes[i]?=some p->p.slots=[s]->ZZ τ v A i t s.mach/\¬s.mach.phase=3/\TmOk t s.tm
theorem js5{τ:Nat->Trust}{lie:Nat->Evp}(hg:GrpX S A L τ v lie){K N:Nat->Nat->Option Evp}{w:Wld}(hlk:LK S t K N w)
 (nn:∀i j,A.testBit i=true->A.testBit j=true/\¬j=i->N i j=some (envOf w j)) (nl:∀i j,A.testBit i=true->L.testBit j=true->N i j=some (lie j))
 {i:Nat} (hA:A.testBit i=true) {l:List Evp} (hl:∀j e,N i j=some e->e∈l) (pr:Evp->Bool)
 (h1:∀j pj sj,A.testBit j=true->¬j=i->w.nodes[j]?=some pj->NdA S t (K j) j pj sj->UE (S.T j) v (envR sj.mach)->pr (envR sj.mach)=true)
 (h2:∀j,L.testBit j=true->LI L (lie j)->UE (TA (A|||L) τ) v (lie j)->pr (lie j)=true):Said pr (A|||L) i l:=by
 intro j hj hq;rcases jcq.1 hq with hAj | hLj
 ·have hnn:=nn i j hA ⟨hAj,hj⟩
  obtain⟨pj,sj,b1,b2⟩:=hlk.nd j (hg.on j hAj).1;rw[jbZ b1 b2.nl.slots] at hnn;have hue:=b2.nl.us.mach.env_ue;rw[(hg.on j hAj).2.2] at hue;refine⟨_,hl j _ hnn,?_,h1 j pj sj hAj hj b1 b2 hue⟩;have:=b2.nl.us.mach.node;show sj.mach.node.toNat=j;omega
 ·obtain⟨a,b,c⟩:=hg.lie j hLj
  exact⟨_,hl j _ (nl i j hA hLj),by omega,h2 j hLj a c⟩
theorem GX.step(hS:S.Ok){τ:Nat->Trust}{lie:Nat->Evp}{K N:Nat->Nat->Option Evp}{w:Wld}(hg:GrpX S A L τ v lie)(h:GX S A L τ v lie t K N w)(ht:t+1<=4) :
 Fin A (tickD w)\/((t+1<=3->GX S A L τ v lie (t+1) N (nxtN S (tickD w) N) (tickD w))/\(t=3->∀i p s,A.testBit i=true->(tickD w).nodes[i]?=some p->p.slots=[s]->W5 s.mach)):=by
 obtain⟨hlk,hw⟩:=LK.tick hS h.lk zo (P:=λi m=>A.testBit i=true->W1 τ v i m) (λi hi=>by
  by_cases hA:A.testBit i=true
  ·obtain⟨_,hT,hv⟩:=hg.on i hA
   rw[hT,hv];have:=W1.keptL (A:=A|||L) (v:=v) (i:=i) (K:=K i) (N:=N i) (hg.su i hA) (λj e he=>h.kn i j e hA he);exact⟨λm k w _=>this.1 m k (w hA),λm q e a b c d f g o r _=>this.2 m q e a b (c hA) d f g o r⟩
  ·exact⟨λm k w hA'=>qp hA' hA,λm q e a b c d f g o r hA'=>qp hA' hA⟩)
  (λi p s hi hp ha hA=>(h.nd i p s hA hp ha.nl.slots).1.w)
 by_cases hfin:Fin A (tickD w)
 ·exact .inl hfin
 right
 have hN:∀i p' s',A.testBit i=true->(tickD w).nodes[i]?=some p'->p'.slots=[s']->(t+1<=3->ZZ τ v A i (t+1) s'.mach/\¬s'.mach.phase=3/\TmOk (t+1) s'.tm/\NE (envR s'.mach))/\(t=3->W5 s'.mach):=λi p' s' hA hp' hs'=>by
  obtain⟨hon,hT,hv⟩:=hg.on i hA;obtain⟨p,s,p2,s2,m,a1,a2,a3,a4,a5⟩:=hw i hon;rw[hp'] at a3;cases a3;obtain rfl:=a4.one hs';obtain⟨z,z3,ztm⟩:=h.nd i p s hA a1 a2.nl.slots;have hum:=a5.um;have har:=a5.ar;rw[hT,hv] at hum har;have w1:=a5.pm hA
  have hm3:¬m.phase=3:=λhp3=>by
   have:s'.mach=m:=by
    rcases a5.go with h1 | ⟨_,h1,_⟩
    ·exact h1
    ·omega
   exact hfin ⟨i,p',s',hA,hp',hs',by rw[this];exact hp3⟩
  have hne:=har.ne w1 hm3;have hbal:m.bal.n=1:=hne.1.bal;have hiB:(A|||L).testBit i=true:=jcq.2 (.inl hA)
  have hsaid:1<=t->∀pr:Evp->Bool,(∀j pj sj,A.testBit j=true->¬j=i->w.nodes[j]?=some pj->NdA S t (K j) j pj sj->UE (S.T j) v (envR sj.mach)->pr (envR sj.mach)=true)->(∀j,L.testBit j=true->LI L (lie j)->UE (TA (A|||L) τ) v (lie j)->pr (lie j)=true)->Said pr (A|||L) i m.heard :=
   λh1 pr hpr hpl=>js5 hg h.lk (λi j a b=>h.nn i j a b h1) h.nl hA a5.hl pr hpr hpl
  have htog:t=0->togM m=false:=λe=>by
   cases htg:togM m with
   | false=>rfl
   | true =>
    obtain⟨q,q1,q2,q3,q4,q5⟩:=jlc hum htg
    exact(hg.alone i q hA q1 q2 q3 (λj hj=>by
     by_cases hji:j=i
     ·exact .inl hji
     ·obtain⟨x,hx,hxj⟩:=q5 j hji hj
      have:=a5.hk x hx;rw[hxj] at this;rcases jcq.1 (q4 j hj) with hAj | hLj
      ·rw[h.n0 e i j hA hAj] at this;cases this
      ·exact .inr hLj)).elim
  have hz:∀j pj sj,A.testBit j=true->w.nodes[j]?=some pj->NdA S t (K j) j pj sj->ZZ τ v A j t sj.mach/\¬sj.mach.phase=3:=λj pj sj hAj b1 b2=>by
   have:=h.nd j pj sj hAj b1 b2.nl.slots;exact⟨this.1,this.2.1⟩
  obtain⟨kk,hu,hr⟩:=har
  have l2:2<=t+1->1<=m.prep.n:=λh2=>by
   rcases far2 (m:={ m with seq:=kk }) hu hr (λ_=>hbal) hg.b1 hg.gq hiB (hsaid zo (vote1 v) (λj pj sj _ _ _ _ hue=>hue.vote) (λj _ _ hue=>hue.vote)) with h3 | h3
   ·exact qp h3 hm3
   ·exact h3
  have l3:3<=t+1->m.phase=1->1<=m.conf.n:=λh3 hp1 =>
   far3 (m:={ m with seq:=kk }) hu hr hp1 hbal (l2 zo) hg.b1 hg.gq hiB (hsaid zo (λe=>apR e (bal1 v)) (λj pj sj hAj _ b1 b2 hue=>by
    obtain⟨z,z3⟩:=hz j pj sj hAj b1 b2;show apR (envR sj.mach) (bal1 v)=true;rw[hue.ap (by show ¬sj.mach.phase=3;exact z3),UM.eprep z3 b2.nl.us.mach.ph]
    exact qg (z.l2 hAj zo)) (λj _ hl hue=>hue.ap3 hl.kind))
  refine⟨λht3=>?_,λht3=>?_⟩
  ·obtain⟨t1,t2⟩:=jxI ztm ht3 hbal htog
   have hgo:s'.mach=m:=by
    rcases a5.go with h1 | ⟨h1,_⟩
    ·exact h1
    ·rw[t1] at h1;cases h1
   rw[hgo];exact⟨⟨w1,λ_=>l2,λ_=>l3,λ_ h4=>qp h4 zo⟩,hm3,by rw[a5.tm];exact t2,hne.1⟩
  ·have hph2:m.phase=2:=by
    refine zi λhn=>?_;have hp1:m.phase=1:=by have:=hum.ph;omega
    have hcf:=l3 zo hp1;have hw1:=w1.p1 hp1
    exact far4 (m:={ m with seq:=kk }) hu hr hp1 hg.b1 hg.gq hiB (hsaid zo (com1 v) (λj pj sj hAj _ b1 b2 hu=>by
     obtain⟨z,z3⟩:=hz j pj sj hAj b1 b2;unfold com1;rcases b2.nl.us.mach.ph with hpj | hpj | hpj
     ·have zc:=z.l3 hAj zo hpj
      have zw:=z.w.p1 hpj;have hhi:(envR sj.mach).high=sj.mach.conf.n:=b2.nl.us.mach.high1 hpj;unfold vcR;rw[hu.ok,qg hu.bal,hhi];show (acR (envR sj.mach) v 1 1||((true&&(decide ((1:Int)<=1)&&(decide ((1:Int)<=1)&&(true&&(!decide (sj.mach.low=0)&&decide (sj.mach.low<=1))))))&&(!decide ((envR sj.mach).kind=1)||decide (1<=sj.mach.conf.n))))=true;rw[show sj.mach.low=1 by omega,qg zc];simp
     ·rw[jd3 hu (by show ¬sj.mach.phase=1;omega) (z.w.p2 hpj).1.1];rfl
     ·exact qp hpj z3) (λj _ hl hu=>by
      unfold com1
      rw[jd3 hu (by have:=hl.kind;omega) hl.low];rfl)) (by show m.low=1;omega) hcf
   have w5:W5 m:=⟨.inl hph2,(w1.p2 hph2).1⟩
   rcases a5.go with h1 | ⟨h1,_,k,h2,h3⟩
   ·rw[h1];exact w5
   ·have w5':W5 { m with bal:=⟨m.bal.n+1,S.vv i⟩ }:=w5
    have hle:∀e∈m.heard,LE e:=λe he=>(h.kn i _ e hA (.inr (a5.hk e he))).le;have w6:=W5.rest h2 w5' hle;rw[h3];exact w6
 refine⟨λht3=>⟨hlk,λi j e hA he=>?_,λh0=>qp h0 zo,λi j hA hj _=>?_,λi j hA hL=>?_,λi j hA hAj hLj=>?_,λi p s hA hp hs=>?_⟩,λht3 i p s hA hp hs=>(hN i p s hA hp hs).2 ht3⟩
 ·rcases he with he | he
  ·exact h.kn i j e hA (.inr he)
  ·unfold nxtN at he
   by_cases hl:S.lk i j=true
   ·rw[qf hl,qs] at he
    have hj:=(hg.lk i j hA).1 hl;obtain⟨pj,sj,b1,b2⟩:=hlk.nd j (hg.on j hj.1).1;rw[<-he,jbZ b1 b2.nl.slots];exact .inl ((hN j pj sj hj.1 b1 b2.nl.slots).1 ht3).2.2.2
   ·rw[qe hl] at he;exact h.kn i j e hA (.inr he)
 ·unfold nxtN
  rw[qf ((hg.lk i j hA).2 hj)]
 ·unfold nxtN
  rw[qe (λhl=>by
   have:=(hg.su j ((hg.lk i j hA).1 hl).1).no
   rw[hL] at this;cases this)]
  exact h.nl i j hA hL
 ·unfold nxtN
  rw[qe (λhl=>hAj ((hg.lk i j hA).1 hl).1)];exact h.no i j hA hAj hLj
 ·have:=(hN i p s hA hp hs).1 ht3
  exact⟨this.1,this.2.1,this.2.2.1⟩
theorem GX.five(hS:S.Ok){τ:Nat->Trust}{lie:Nat->Evp}{K N:Nat->Nat->Option Evp}{w:Wld}(hg:GrpX S A L τ v lie)(hl:LK S t K N w)(ht:t<100)
 (hle:∀i j e,A.testBit i=true->(K i j=some e\/N i j=some e)->LE e) (nn:∀i j,A.testBit i=true->A.testBit j=true/\¬j=i->N i j=some (envOf w j)) (nl:∀i j,A.testBit i=true->L.testBit j=true->N i j=some (lie j))
 (nd:∀i p s,A.testBit i=true->w.nodes[i]?=some p->p.slots=[s]->W5 s.mach) (hne:∃i,A.testBit i=true):Fin A (tickD w):=by
 obtain⟨hlk,hw⟩:=LK.tick hS hl zo (P:=λi m=>A.testBit i=true->W5 m) (λi hi=>by
  by_cases hA:A.testBit i=true
  ·have:=W5.kept (A:=A|||L) (τ:=τ) (v:=v) (i:=i) (K:=K i) (N:=N i) (λj e he=>hle i j e hA he)
   obtain⟨_,hT,hv⟩:=hg.on i hA;rw[hT,hv];exact⟨λm k w _=>this.1 m k (w hA),λm q e a b c d f g o r _=>this.2 m q e a b (c hA) d f g o r⟩
  ·exact⟨λm k w hA'=>qp hA' hA,λm q e a b c d f g o r hA'=>qp hA' hA⟩)
  (λi p s hi hp ha hA=>nd i p s hA hp ha.nl.slots)
 obtain⟨i,hA⟩:=hne;obtain⟨hon,hT,hv⟩:=hg.on i hA;obtain⟨p,s,p',s',m,a1,a2,a3,a4,a5⟩:=hw i hon;have har:=a5.ar;have hum:=a5.um;rw[hT,hv] at hum har;have w5:=a5.pm hA
 have hm:m.phase=3:=by
  refine zi λhn=>?_;have hp2:m.phase=2:=by have:=w5.1;omega
  obtain⟨kk,hu,hr⟩:=har
  exact far5 (m:={ m with seq:=kk }) hu hr hp2 w5.2.1 hg.b1 hg.gq (jcq.2 (.inl hA)) (js5 hg hl nn nl hA a5.hl _ (λj pj sj hAj _ b1 b2 hue=>by
   have wj:=nd j pj sj hAj b1 b2.nl.slots
   exact jd3 hue (by show ¬sj.mach.phase=1;have:=wj.1;omega) wj.2.1) (λj _ hl hu=>jd3 hu (by have:=hl.kind;omega) hl.low))
 have hgo:s'.mach=m:=by
  rcases a5.go with h1 | ⟨_,h1,_⟩
  ·exact h1
  ·omega
 exact⟨i,p',s',hA,a3,a4.nl.slots,by rw[hgo];exact hm⟩
theorem GX.decides(hS:S.Ok){τ:Nat->Trust}{lie:Nat->Evp}{K N:Nat->Nat->Option Evp}{w:Wld}(hg:GrpX S A L τ v lie)(h:GX S A L τ v lie 0 K N w)(hne:∃i,A.testBit i=true)(n:Nat)(hn:5<=n/\n<=100):Fin A (tickI n w):=by
 have hA:∀i,A.testBit i=true->S.on i:=λi hi=>(hg.on i hi).1;obtain⟨k,rfl⟩:∃k,n=k+5:=⟨n - 5,by omega⟩
 have l1:=h.lk.go hS zo;have l2:=l1.go hS zo;have l3:=l2.go hS zo;have l4:=l3.go hS zo;have l5:=l4.go hS zo;rw[ja5];rcases h.step hS hg zo with f | ⟨g1,_⟩
 ·exact l1.finI hS hA _ zo f
 ·have g1:=g1 zo
  rw[ja5];rcases g1.step hS hg zo with f | ⟨g2,_⟩
  ·exact l2.finI hS hA _ zo f
  ·have g2:=g2 zo
   rw[ja5];rcases g2.step hS hg zo with f | ⟨g3,_⟩
   ·exact l3.finI hS hA _ zo f
   ·have g3:=g3 zo
    rw[ja5];rcases g3.step hS hg zo with f | ⟨_,g4⟩
    ·exact l4.finI hS hA _ zo f
    ·have g4:=g4 rfl
     rw[ja5];refine l5.finI hS hA k zo (GX.five hS hg l4 zo (λi j e hAi he=>?_) (λi j hAi hj=>?_) (λi j hAi hL=>?_) g4 hne)
     ·rcases he with he | he
      ·exact(g3.kn i j e hAi (.inr he)).le
      ·unfold nxtN at he
       by_cases hl:S.lk i j=true
       ·rw[qf hl,qs] at he
        have hj:=(hg.lk i j hAi).1 hl;obtain⟨pj,sj,b1,b2⟩:=l4.nd j (hg.on j hj.1).1;rw[<-he,jbZ b1 b2.nl.slots];exact(g4 j pj sj hj.1 b1 b2.nl.slots).own_le
       ·rw[qe hl] at he;exact(g3.kn i j e hAi (.inr he)).le
     ·unfold nxtN
      rw[qf ((hg.lk i j hAi).2 hj)]
     ·unfold nxtN
      rw[qe (λhl=>by
       have:=(hg.su j ((hg.lk i j hAi).1 hl).1).no
       rw[hL] at this;cases this)]
      exact g3.nl i j hAi hL
def LowI(m:Mach):Prop:=m.phase=1->(¬m.low=0\/m.conf.n<m.bal.n)
section
variable{v:Str}{A:Nat}{τ:Nat->Trust}{i:Nat}{T:Nat->Trust->Prop}
theorem LowI.stepG(h:UM T v i m)(w:LowI m):LowI (Tq.stepG m):=by
 have hprep:LowI (prepM m):=by
  by_cases hp:m.phase=3
  ·have:prepM m=m:=by unfold prepM;rw[qf (.inl hp)]
   rw[this];exact w
  ·rw[h.prep_eq hp];exact w
 have hconf:LowI (confS m):=by
  by_cases hp:m.phase=1
  ·cases hz:zB (confB m) with
   | true =>
    have:Tq.confS m=m:=by unfold Tq.confS;rw[qe (by rw[h.zb];simp[hp]),qf hz]
    rw[this];exact w
   | false =>
    obtain⟨hb,hb2,hb3,_⟩:=h.confB hz;rw[h.conf_eq hp hz];intro _;show ¬(if m.low=0/\m.bal.n<=(confB m).n then (confB m).n else m.low)=0\/(confB m).n<(if m.bal.n<(confB m).n then confB m else m.bal).n
    by_cases h1:m.low=0/\m.bal.n<=(confB m).n
    ·rw[qf h1];left;have:=hb.2;omega
    ·rw[qe h1]
     by_cases h2:m.low=0
     ·right
      rw[qe zo];omega
     ·exact .inl h2
  ·have:Tq.confS m=m:=by unfold Tq.confS;rw[qf (.inl hp)]
   rw[this];exact w
 have hcom:LowI (comM m):=by
  by_cases hp:m.phase=1
  ·by_cases hf:(comF m).2.2.2=true
   ·intro h1
    have:(comM m).phase=2:=by unfold comM;rw[qf hp,qf hf]
    omega
   ·have:comM m=m:=by unfold comM;rw[qf hp,qe hf]
    rw[this];exact w
  ·intro h1
   have:(comM m).phase=m.phase:=by
    unfold comM;rw[qe hp];split<;>rfl
   omega
 have hfin:LowI (finM m):=by
  by_cases hp:m.phase=2
  ·intro h1
   have:(finM m).phase=2\/(finM m).phase=3:=by
    unfold finM;rw[qe (λh'=>h' hp)];split
    ·exact .inr rfl
    ·exact .inl hp
   omega
  ·have:finM m=m:=by unfold finM;rw[qf hp]
   rw[this];exact w
 have hcau:LowI (cauM m):=by
  by_cases hc:m.phase=3\/aheadV m m.bal.n=false
  ·have:cauM m=m:=by unfold cauM;rw[qf hc]
   rw[this];exact w
  ·rw[h.cau_eq hc]
   intro h1;rcases w h1 with h2 | h2
   ·exact .inl h2
   ·right;show m.conf.n<max m.bal.n _;omega
 unfold Tq.stepG;split
 ·exact hprep
 split
 ·exact hconf
 split
 ·exact hcom
 split
 ·exact hfin
 ·exact hcau
theorem LowI.rest(h:UM T v i m)(w:LowI m):LowI (restM m):=by
 have:=jcu (P:=λc=>UM T v i c/\LowI c) (λc hc ⟨h1,h3⟩=>⟨h1.stepG,h3.stepG h1⟩) h.inv.inv ⟨h,w⟩;exact this.2
theorem LowI.kept{K N:Nat->Option Evp}:Kept T v i K N LowI :=
 ⟨λm k w=>w,λm q e hm ha w huq hput he hold hq=>LowI.rest huq w⟩
def Big(v:Str)(e:Evp):Prop:=(∀b:Bal,b.v=v->1<=b.n->b.n<=1000->apR e b=true)/\(∀n:Int,1<=n->(acR e v n n||vcR e v n n)=true)
theorem LI.big(h:LI L e)(hu:UE T v e):Big v e/\∀n:Int,1<=n->acR e v n n=true:=by
 have hac:∀n:Int,1<=n->acR e v n n=true:=λn hn=>by
  unfold acR;rw[hu.ok,h.kind,qg hu.bal,h.low,qg hn];simp
 refine⟨⟨λb hb h1 _=>?_,λn hn=>by rw[hac n hn];rfl⟩,hac⟩;unfold apR;rw[hu.ok,jbH h1,qf h.kind,jpC hu.bal hb];rfl
theorem jxh(hu:UE T v e)(hk:e.kind=2)(hp:1000<=e.prep.n)(hl:e.low=1):Big v e:=by
 refine⟨λb hb h1 h2=>?_,λn hn=>?_⟩
 ·unfold apR
  rw[hu.ok,jbH h1,qe zo,hu.prime,jhJ hu.prep hb h1,qg zo];rfl
 ·unfold vcR
  rw[hu.ok,qg hu.bal,hl,qg hn,hk];simp
theorem far1(h:UM (TA A τ) v i m)(hr:AtRest m)(w:LowI m)(hq:q<1024)(hQ:Qt τ q)(hi:q.testBit i=true)(hs:∀j,¬j=i->q.testBit j=true->∃e∈m.heard,e.node.toNat=j/\Big v e):¬m.phase=1:=by
 intro hp;have hb1:=h.baln;have hb2:=h.inv.inv.baln;have hpo:=h.prepo;have hco:=h.confo
 have hsaid:∀p:Evp->Bool,(∀e,Big v e->p e=true)->Said p q i m.heard:=λp hp j hj hjq=>by
  obtain⟨e,he,h1,h2⟩:=hs j hj hjq;exact⟨e,he,h1,hp e h2⟩
 have hbin:m.bal∈ballotsV (allM m):=by
  refine jc1.2 ⟨envR m,h.own_all,h.env_ue.ok,?_,h.zb⟩;unfold ownB;rw[qf (show (envR m).kind=1 from hp)];exact za
 have hprep:m.bal.n<=m.prep.n:=by
  refine zi λhn=>?_
  have hg:=h.great_in (p:=λe=>apR e m.bal||vpR e m.bal) hq hQ hi (h.said (hsaid _ (λe hb=>by rw[hb.1 m.bal h.balv hb1 hb2];rfl)) (λ_=>by
   show (apR (envR m) m.bal||vpR (envR m) m.bal)=true;unfold vpR;rw[qf (show (envR m).kind=1 from hp),h.env_ue.ok,h.zb,jfW h.env_ue.balb h.balv hb1,qg (by show m.bal.n<=m.bal.n;omega)]
   simp))
  have ha:acc25 m.node m.t (allM m) m.bal=true:=jkR (jbh _ _) (jbh _ _) (jcJ (λe he=>by rw[he];rfl)) hg;have hrz:(raiseB m.prep)=m.prep:=by unfold raiseB;rw[qe zo]
  have hcond:∀b:Bal,b.v=v->1<=b.n->prB (raiseB m.prep) (raiseB m.prime) b=decide (b.n<=m.prep.n):=λb hb h1=>by
   rw[hrz,h.prime,show raiseB Bal.none=Bal.none from rfl,jhJ hpo hb h1]
  have hin:=jeN (node:=m.node) (t:=m.t) (l:=allM m) (p:=m.prep) (q:=m.prime) (w:=if m.phase=2 then m.bal.v else noS) hbin (by
   rw[qe zo,qg (rfl:noS=noS),hcond _ h.balv hb1,qz (p:=m.bal.n<=m.prep.n) hn];simp) ha
  have hb3:=jbu h.all _ hin;rcases jbV m.node m.t (allM m) m.prep m.prime (if m.phase=2 then m.bal.v else noS) (ballotsV (allM m)) with h3 | ⟨_,h3,_⟩
  ·rw[h3] at hb3;exact qp hb3.2 zd
  ·rw[Bool.or_eq_false_iff,hcond _ hb3.1 hb3.2] at h3
   have h4:=qd h3.2;have hf:=(jii (v:=v) (.inr hb3)).2.2;have e:(prepB m).n=min (nextGo m.node m.t (allM m) m.prep m.prime (if m.phase=2 then m.bal.v else noS) (ballotsV (allM m))).n 1000:=hf;have h5:=hr.prep;rw[h.prep_eq zo] at h5
   have h6:(prepN m).n=m.prep.n:=by
    have:({ m with prep:=prepN m }:Mach).prep.n=m.prep.n:=by rw[h5]
    exact this
   unfold prepN at h6;split at h6<;>omega
 have hconf:m.bal.n<=m.conf.n:=by
  refine zi λhn=>?_
  have hg:=h.great_in (p:=λe=>apR e m.bal) hq hQ hi (h.said (hsaid _ (λe hb=>hb.1 m.bal h.balv hb1 hb2)) (λ_=>by
   show apR (envR m) m.bal=true;unfold apR
   rw[qe (show ¬(envR m).kind=3 by show ¬m.phase=3;omega),h.env_ue.ok,h.zb,h.env_ue.prime,UM.eprep zo h.ph,jhJ hpo h.balv hb1,qg hprep];rfl))
  have hlt:lB m.conf m.bal=true:=by
   rcases hco with hc | hc
   ·rw[hc,jk5,qe (by show ¬(0:Int)=m.bal.n;omega)];exact qg (by show (0:Int)<m.bal.n;omega)
   ·rw[jt0 (hc.1.trans h.balv.symm)];exact qg zo
  have hin:=jgA (node:=m.node) (t:=m.t) (l:=allM m) (a:=m.conf) hbin hb2 hlt hg;have hb3:=jbu h.all _ hin;have hz:zB (confB m)=false:=jbH hb3.2;have h1:=hr.conf;rw[h.conf_eq hp hz] at h1
  have h2:(confB m).n=m.conf.n:=by
   have:({ m with conf:=confB m,bal:=(if m.bal.n<(confB m).n then confB m else m.bal),low:=(if m.low=0/\m.bal.n<=(confB m).n then (confB m).n else m.low) }:Mach).conf.n=m.conf.n:=by rw[h1]
   exact this
  have h3:=(h.confB hz).2.2.1;omega
 have hp1:=h.p1 hp
 have hlow:1<=m.low/\m.low<=m.conf.n:=by
  rcases hp1.2.2 with h1 | h1
  ·rw[h1.1] at hconf
   have:m.bal.n<=0:=hconf;omega
  ·rcases w hp with h2 | h2
   ·have:=h1.2.2.2;omega
   ·omega
 have hhi:(envR m).high=m.conf.n:=h.high1 hp
 have hg:=h.great_in (p:=λe=>acR e v m.conf.n m.conf.n||vcR e v m.conf.n m.conf.n) hq hQ hi (h.said (hsaid _ (λe hb=>hb.2 _ zo)) (λ_=>by
  show (acR (envR m) v m.conf.n m.conf.n||vcR (envR m) v m.conf.n m.conf.n)=true;unfold vcR;rw[h.env_ue.ok,qg h.env_ue.bal,hhi];show (acR (envR m) v m.conf.n m.conf.n||((true&&(decide (1<=m.conf.n)&&(decide (m.conf.n<=m.conf.n)&&(true&&(!decide (m.low=0)&&decide (m.low<=m.conf.n))))))&&(!decide ((envR m).kind=1)||decide (m.conf.n<=m.conf.n))))=true;rw[qg (p:=1<=m.conf.n) zo,qg (p:=m.conf.n<=m.conf.n) zo,qz (p:=m.low=0) zo,qg (p:=m.low<=m.conf.n) zo]
  simp))
 have ha:acc26 m.node m.t (allM m) v m.conf.n m.conf.n=true:=jkR (jbh _ _) (jbh _ _) (jcJ (λe he=>by rw[he];rfl)) hg;have hv:v∈valuesV (allM m):=jdJ.2 ⟨envR m,h.own_all,h.env_ue.ok,h.env_ue.bal.symm⟩;have hbd:m.conf.n∈boundsV (allM m) v:=jbI.2 ⟨envR m,h.own_all,h.env_ue.ok,h.env_ue.bal,by show ¬m.low=0;omega,.inr hhi.symm⟩
 have hf:(comF m).2.2.2=true:=by
  unfold comF;refine jjh hv hbd ?_ ha;rw[h.prime];exact jmy hpo
 have h1:=hr.com;have h2:(comM m).phase=2:=by unfold comM;rw[qf hp,qf hf]
 rw[h1] at h2;omega
theorem jv1(h:UM T v i m)(hp:m.phase=2)(hn:m.low<=n/\n<=m.high):acR (envR m) v n n=true:=by
 have h2:=h.p2 hp;have hhi:(envR m).high=m.high:=UM.high2 zo;unfold acR;rw[h.env_ue.ok,qg h.env_ue.bal,hhi];show ((true&&(decide (1<=n)&&(decide (n<=n)&&(!decide ((envR m).kind=1)&&(true&&decide (m.low<=n))))))&&(decide ((envR m).kind=3)||decide (n<=m.high)))=true;rw[qg (p:=1<=n) zo,qg (p:=n<=n) zo,qg hn.1,qg hn.2,show (envR m).kind=2 from hp];simp
theorem jsv(h:UM (TA A τ) v i m)(hr:AtRest m)(hp:m.phase=2)(hn:m.low<=n/\n<=m.high)(hbd:n∈boundsV (allM m) v)(hq:q<1024)(hQ:Qt τ q)(hi:q.testBit i=true)(hs:Said (λe=>acR e v n n) q i m.heard):False:=by
 have hg:=h.great_in hq hQ hi (h.said hs (λ_=>jv1 h hp hn))
 have hf:(finF m).2.2=true:=by
  unfold finF finalB;rw[h.balv];exact jof _ (List.mem_reverse.2 hbd) hg
 have h1:=hr.fin;have h2:(finM m).phase=3:=by unfold finM;rw[qe (λh'=>h' hp),qf hf]
 rw[h1] at h2;omega
theorem UM.high_in(h:UM T v i m)(hp:m.phase=2):m.high∈boundsV (allM m) v :=
 jbI.2 ⟨envR m,h.own_all,h.env_ue.ok,h.env_ue.bal,by show ¬m.low=0;have:=(h.p2 hp).2.2.1;omega,.inr (UM.high2 zo).symm⟩
theorem jww(h:UM (TA A τ) v i m)(hr:AtRest m)(w:LowI m)(hq:q<1024)(hQ:Qt τ q)(hi:q.testBit i=true)(hs:∀j,¬j=i->q.testBit j=true->∃e∈m.heard,e.node.toNat=j/\LI L e):m.phase=3:=by
 have h1:=far1 h hr w hq hQ hi (λj hj hjq=>by
  obtain⟨e,he,h1,h2⟩:=hs j hj hjq
  exact⟨e,he,h1,(h2.big (h.hd e he)).1⟩)
 refine zi λhn=>?_;have hp:m.phase=2:=by have:=h.ph;omega
 have h2:=h.p2 hp
 exact jsv h hr hp ⟨h2.2.2.2.1,Int.le_refl _⟩ (h.high_in hp) hq hQ hi (λj hj hjq=>by
  obtain⟨e,he,h3,h4⟩:=hs j hj hjq
  exact⟨e,he,h3,(h4.big (h.hd e he)).2 _ zo⟩)
end
theorem juG(hS:S.Ok){B:Nat}{τ:Nat->Trust}{lie:Nat->Evp}{K N:Nat->Nat->Option Evp}{w:Wld}(hl:LK S t K N w)(ht:t<100){i:Nat}(hA:A.testBit i=true)(hon:S.on i/\S.T i=TA B τ/\S.vv i=v)
 (hq:q<1024) (hQ:Qt τ q) (hi:q.testBit i=true) (hqL:∀j,¬j=i->q.testBit j=true->L.testBit j=true) (hN:∀j,L.testBit j=true->N i j=some (lie j)/\LI L (lie j)/\(lie j).node=(j:Int))
 (h0:∀p s,w.nodes[i]?=some p->p.slots=[s]->LowI s.mach):Fin A (tickD w):=by
 obtain⟨hlk,hw⟩:=LK.tick hS hl zo (P:=λk m=>k=i->LowI m) (λk hk =>
  ⟨λm j w e=>(LowI.kept (T:=S.T k) (v:=S.vv k) (i:=k) (K:=K k) (N:=N k)).1 m j (w e),λm q e a b c d f g o r h=>(LowI.kept (T:=S.T k) (v:=S.vv k) (i:=k) (K:=K k) (N:=N k)).2 m q e a b (c h) d f g o r⟩)
  (λk p s hk hp ha e=>by subst e;exact h0 p s hp ha.nl.slots)
 obtain⟨hon,hT,hv⟩:=hon;obtain⟨p,s,p',s',m,a1,a2,a3,a4,a5⟩:=hw i hon;have har:=a5.ar;have hum:=a5.um;rw[hT,hv] at hum har;have hlow:=a5.pm rfl;obtain⟨kk,hu,hr⟩:=har
 have hm:m.phase=3:=jww (L:=L) (m:={ m with seq:=kk }) hu hr hlow hq hQ hi (λj hj hjq=>by
  obtain⟨b1,b2,b3⟩:=hN j (hqL j hj hjq)
  exact⟨_,a5.hl j _ b1,by omega,b2⟩)
 have hgo:s'.mach=m:=by
  rcases a5.go with h1 | ⟨_,h1,_⟩
  ·exact h1
  ·omega
 exact⟨i,p',s',hA,a3,a4.nl.slots,by rw[hgo];exact hm⟩
structure GrpY(S:LS)(A L:Nat)(τ:Nat->Trust)(v:Str)(lie:Nat->Evp):Prop where
 on:∀i,A.testBit i=true->S.on i/\S.T i=TA (A|||L) τ/\S.vv i=v
 lk:∀i j,A.testBit i=true->(S.lk i j=true↔A.testBit j=true/\¬j=i)
 dis:∀i,A.testBit i=true->L.testBit i=false
 a1:A<1024
 l1:L<1024
 gq:Qt τ (A|||L)
 lie:∀j,L.testBit j=true->LI L (lie j)/\(lie j).node=(j:Int)/\UE (TA (A|||L) τ) v (lie j)
structure Air(S:LS)(A L:Nat)(lie:Nat->Evp)(N:Nat->Nat->Option Evp)(f:Nat->Option Evp):Prop where
 l:∀i j,A.testBit i=true->L.testBit j=true->N i j=some (lie j)
 a:∀i j,A.testBit i=true->A.testBit j=true->¬j=i->N i j=f j
 no:∀i j,A.testBit i=true->¬(A.testBit j=true/\¬j=i)->¬L.testBit j=true->N i j=none
section
variable{S:LS}{A L:Nat}{τ:Nat->Trust}{v:Str}{lie:Nat->Evp}{t:Nat}{K N:Nat->Nat->Option Evp}{w:Wld}{f:Nat->Option Evp}
theorem GrpY.b1(h:GrpY S A L τ v lie):A|||L<1024:=Nat.or_lt_two_pow (n:=10) h.a1 h.l1
theorem Air.next(hg:GrpY S A L τ v lie)(h:Air S A L lie N f)(w:Wld):Air S A L lie (nxtN S w N) (λj=>some (envOf w j)):=by
 refine⟨λi j hA hL=>?_,λi j hA hAj hj=>?_,λi j hA hn hL=>?_⟩
 ·unfold nxtN
  rw[qe (λhl=>by
   have:=hg.dis j ((hg.lk i j hA).1 hl).1
   rw[hL] at this;cases this)]
  exact h.l i j hA hL
 ·unfold nxtN
  rw[qf ((hg.lk i j hA).2 ⟨hAj,hj⟩)]
 ·unfold nxtN
  rw[qe (λhl=>hn ((hg.lk i j hA).1 hl))];exact h.no i j hA hn hL
structure GT(S:LS)(A L:Nat)(τ:Nat->Trust)(v:Str)(t:Nat)(N:Nat->Nat->Option Evp)(w:Wld)(P:Nat->Mach->Prop)(k:Nat)(s s':Slt)(p':Ptc)(m:Mach):Prop where
 nd:(tickD w).nodes[k]?=some p'
 sl:p'.slots=[s']
 old:∃p,w.nodes[k]?=some p/\p.slots=[s]
 pm:P k m
 um:UM (TA (A|||L) τ) v k m
 ar:AR (TA (A|||L) τ) v k m
 hk:∀x∈m.heard,N k x.node.toNat=some x
 hl:∀j e,N k j=some e->e∈m.heard
 go:s'.mach=m\/((stepV s.tm m ((t:Int)+1)).2=true/\(m.phase=1\/m.phase=2)/\∃q,UM (TA (A|||L) τ) v k { m with bal:=⟨m.bal.n+1,v⟩ }/\s'.mach={ restM { m with bal:=⟨m.bal.n+1,v⟩ } with seq:=q })
theorem jjA(hS:S.Ok)(hg:GrpY S A L τ v lie)(hl:LK S t K N w)(ht:t<100)(P:Nat->Mach->Prop)(hP:∀k,A.testBit k=true->Kept (TA (A|||L) τ) v k (K k) (N k) (P k))
 (h0:∀k p s,A.testBit k=true->w.nodes[k]?=some p->p.slots=[s]->P k s.mach):∀k,A.testBit k=true->∃s s' p' m,GT S A L τ v t N w P k s s' p' m:=by
 obtain⟨_,hw⟩:=LK.tick hS hl zo (P:=λk m=>A.testBit k=true->P k m) (λk hk=>by
  by_cases hA:A.testBit k=true
  ·obtain⟨_,hT,hv⟩:=hg.on k hA
   rw[hT,hv];have:=hP k hA;exact⟨λm q w _=>this.1 m q (w hA),λm q e a b c d f g o r _=>this.2 m q e a b (c hA) d f g o r⟩
  ·exact⟨λm k w hA'=>qp hA' hA,λm q e a b c d f g o r hA'=>qp hA' hA⟩)
  (λk p s hk hp ha hA=>h0 k p s hA hp ha.nl.slots)
 intro k hA;obtain⟨hon,hT,hv⟩:=hg.on k hA;obtain⟨p,s,p',s',m,a1,a2,a3,a4,a5⟩:=hw k hon;have har:=a5.ar;have hum:=a5.um;have hgo:=a5.go;rw[hT,hv] at hum har hgo;exact⟨s,s',p',m,a3,a4.nl.slots,⟨p,a1,a2.nl.slots⟩,a5.pm hA,hum,har,a5.hk,a5.hl,hgo⟩
theorem GT.nofin{s:Slt}(h:GT S A L τ v t N w P k s s' p' m)(hA:A.testBit k=true)(hf:¬Fin A (tickD w)):¬m.phase=3/\¬s'.mach.phase=3:=by
 have h2:¬s'.mach.phase=3:=λh3=>hf ⟨k,p',s',hA,h.nd,h.sl,h3⟩;refine⟨λh3=>?_,h2⟩;rcases h.go with h1 | ⟨_,h1,_⟩
 ·rw[h1] at h2;exact h2 h3
 ·omega
end
section
variable{v:Str}{B:Nat}{τ:Nat->Trust}{i L:Nat}{T:Nat->Trust->Prop}
structure W7(m:Mach):Prop where
 p1:m.phase=1->m.conf=Bal.none/\m.low=0
 p2:m.phase=2->m.low=1/\m.high=1
 p3:¬m.phase=3
theorem W7.own_le(h:UM T v i m)(w:W7 m):LE (envR m):=λh0=>by
 have h0:¬m.low=0:=h0;rcases h.ph with hp | hp | hp
 ·exact qp (w.p1 hp).2 h0
 ·rw[UM.high2 zo];exact w.p2 hp
 ·exact qp hp w.p3
def NoQ(τ:Nat->Trust)(i:Nat)(l:List Evp):Prop:=∀q,q<1024->Qt τ q->q.testBit i=true->(∀j,¬j=i->q.testBit j=true->∃e∈l,e.node.toNat=j)->False
theorem UM.noq(h:UM (TA B τ) v i m)(hq:NoQ τ i m.heard){p:Evp->Bool}:confirmsC (viewE m.node m.t (allM m)) m.node (setP p (allM m))=false:=by
 cases e:confirmsC (viewE m.node m.t (allM m)) m.node (setP p (allM m)) with
 | false=>rfl
 | true =>
  obtain⟨q,h1,h2,h3,h4,_⟩:=h.great_out (jbh _ _) e;refine(hq q h1 h2 h3 (λj hj hjq=>?_)).elim;obtain⟨x,hx,_,h5⟩:=jbL.1 (h4 j hjq);rcases jb0 hx with rfl | hx
  ·have:=h.node
   exact qp (show m.node.toNat=j from h5) zo
  ·exact⟨x,hx,h5⟩
theorem W7.stepG(h:UM (TA B τ) v i m)(w:W7 m)(hq:NoQ τ i m.heard)(hl:∀e∈m.heard,LE e):W7 (Tq.stepG m):=by
 have ho:=w.own_le h
 have hprep:W7 (prepM m):=by
  rw[h.prep_eq w.p3];exact⟨w.p1,w.p2,w.p3⟩
 have hconf:confS m=m:=by
  by_cases hp:m.phase=1
  ·have:confB m=Bal.none:=by
    rcases jeH m.node m.t (allM m) m.conf (ballotsV (allM m)) with h1 | ⟨_,_,_,h1⟩
    ·exact h1
    ·unfold Tq.cnf25 at h1
     rw[h.noq hq] at h1;cases h1
   unfold Tq.confS;rw[qe (by rw[h.zb];simp[hp]),this,qf jaR]
  ·unfold Tq.confS;rw[qf (.inl hp)]
 have hcom:W7 (comM m):=by
  rcases h.ph with hp | hp | hp
  ·by_cases hf:(comF m).2.2.2=true
   ·have h1:=h.com1 ho hl hf
    unfold comM;rw[qf hp,qf hf];exact⟨λh1=>qp (show (2:Int)=1 from h1) zo,λ_=>h1,λh1=>qp (show (2:Int)=3 from h1) zo⟩
   ·have:comM m=m:=by unfold comM;rw[qf hp,qe hf]
    rw[this];exact w
  ·unfold comM
   rw[qe (show ¬m.phase=1 by omega),qf hp,h.ext1 ho hl (w.p2 hp)];exact⟨λh1=>qp (show m.phase=1 from h1) zo,λ_=>⟨rfl,rfl⟩,w.p3⟩
  ·exact qp hp w.p3
 have hfin:finM m=m:=by
  unfold finM
  by_cases hp:m.phase=2
  ·rw[qe (λh'=>h' hp)]
   refine qe (λhf=>?_);have:=(jgf hf).2.2;unfold cnf26 at this;rw[h.noq hq] at this;cases this
  ·rw[qf hp]
 have hcau:W7 (cauM m):=by
  by_cases hc:m.phase=3\/aheadV m m.bal.n=false
  ·have:cauM m=m:=by unfold cauM;rw[qf hc]
   rw[this];exact w
  ·rw[h.cau_eq hc];exact⟨w.p1,w.p2,w.p3⟩
 unfold Tq.stepG;split
 ·exact hprep
 split
 ·rw[hconf];exact w
 split
 ·exact hcom
 split
 ·rw[hfin];exact w
 ·exact hcau
theorem W7.rest(h:UM (TA B τ) v i m)(w:W7 m)(hq:NoQ τ i m.heard)(hl:∀e∈m.heard,LE e):W7 (restM m):=by
 have:=jcu (P:=λc=>(UM (TA B τ) v i c/\c.heard=m.heard)/\W7 c) (λc hc ⟨⟨h1,h2⟩,h3⟩=>⟨⟨h1.stepG,((ja3 hc).1.heard).trans h2⟩,h3.stepG h1 (by rw[h2];exact hq) (by rw[h2];exact hl)⟩) h.inv.inv ⟨⟨h,rfl⟩,w⟩;exact this.2
theorem W7.kept{K N:Nat->Option Evp}(hl:∀j e,K j=some e\/N j=some e->LE e)(hq:∀l:List Evp,(∀x∈l,K x.node.toNat=some x\/N x.node.toNat=some x)->NoQ τ i l):Kept (TA B τ) v i K N W7 :=
 ⟨λm k w=>⟨w.p1,w.p2,w.p3⟩,λm q e hm ha w huq hput he hold hx=>W7.rest huq (show W7 { m with heard:=q } from ⟨w.p1,w.p2,w.p3⟩) (hq q hx) (λx hxq=>hl _ x (hx x hxq))⟩
theorem jg7(h:UM (TA B τ) v i m)(hL:L<1024)(hb:sat (others L i:Nat) (τ i)=false){a:Evp->Bool}{p:Evp->Bool}(hs:∀j,L.testBit j=true->∃e∈allM m,e.node.toNat=j/\p e=true):acceptsC (viewE m.node m.t (allM m)) m.node (setP a (allM m)) (setP p (allM m))=true:=by
 have hn:=h.node;have e1:m.node.toNat=i:=by have:=h.i10;omega
 have hd:has (declC (viewE m.node m.t (allM m))) m.node=true:=by
  refine(jaX (ja0 _)).2 ⟨h.n10.1,h.n10.2,?_⟩;exact jc0.2 ⟨_,by have:=h.n10;omega,jxX h.n10,rfl⟩
 have hdi:=((jaX (ja0 _)).1 hd).2.2;rw[e1] at hdi
 have e2:tOf (viewE m.node m.t (allM m)) m.node=τ i:=by
  have:=jf1 h.view hdi;rw[<-hn] at this;exact this
 have hbl:blocksC (viewE m.node m.t (allM m)) m.node ((L:Nat):Int)=true:=by
  unfold blocksC;rw[hd,e2,qq,e1,hb,ja1.2 ⟨by omega,by omega⟩];rfl
 have hsub:Sub L (setP p (allM m)):=λj hj=>by
  obtain⟨e,he,h1,h2⟩:=hs j hj;have:=jcx (h.all e he).ok;exact jbL.2 ⟨e,he,⟨h2,by omega,by omega⟩,h1⟩
 have:=jgD hL (jbh p (allM m)) hsub hbl;unfold acceptsC;have ha:=jbh a (allM m);have hp:=jbh p (allM m);rw[this,ja1.2 ⟨by omega,by omega⟩,ja1.2 ⟨by omega,by omega⟩];rfl
theorem jk8(h:UM (TA B τ) v i m)(hr:AtRest m)(hL:L<1024)(hb:sat (others L i:Nat) (τ i)=false)(hne:∃j,L.testBit j=true)(hs:∀j,L.testBit j=true->∃e∈m.heard,e.node.toNat=j/\LI L e) :
 ¬m.phase=1/\(m.phase=2->1000<=m.prep.n):=by
 have hsaid:∀p:Evp->Bool,(∀e,UE (TA B τ) v e->LI L e->p e=true)->∀j,L.testBit j=true->∃e∈allM m,e.node.toNat=j/\p e=true:=λp hp j hj=>by
  obtain⟨e,he,h1,h2⟩:=hs j hj;exact⟨e,h.heard_all he,h1,hp e (h.hd e he) h2⟩
 obtain⟨j0,hj0⟩:=hne;obtain⟨e0,he0,h01,h02⟩:=hs j0 hj0;have hu0:=h.hd e0 he0;have hac:acc26 m.node m.t (allM m) v 1 1=true:=jg7 h hL hb (hsaid _ (λe hu hl=>jd3 hu (by have:=hl.kind;omega) hl.low));refine⟨λhp=>?_,λhp=>?_⟩
 ·have hv:v∈valuesV (allM m):=jdJ.2 ⟨envR m,h.own_all,h.env_ue.ok,h.env_ue.bal.symm⟩
  have hbd:(1:Int)∈boundsV (allM m) v:=jbI.2 ⟨e0,h.heard_all he0,hu0.ok,hu0.bal,by rw[h02.low];decide,.inl h02.low.symm⟩
  have hf:(comF m).2.2.2=true:=by
   unfold comF;refine jjh hv hbd ?_ hac;rw[h.prime];exact jmy h.prepo
  have h1:=hr.com;have h2:(comM m).phase=2:=by unfold comM;rw[qf hp,qf hf]
  rw[h1] at h2;omega
 ·refine zi λhn=>?_
  have hpo:=h.prepo
  have hbin:(⟨1000000,v⟩:Bal)∈ballotsV (allM m):=by
   refine jc1.2 ⟨e0,h.heard_all he0,hu0.ok,?_,jbH (by show (1:Int)<=1000000;omega)⟩;unfold ownB;rw[qe (by have:=h02.kind;omega),hu0.bal];exact qj _ (za)
  have ha:acc25 m.node m.t (allM m) ⟨1000000,v⟩=true:=jg7 h hL hb (hsaid _ (λe hu hl=>by
   unfold apR
   rw[hu.ok,jbH (show (1:Int)<=1000000 by omega),qf hl.kind,jpC hu.bal rfl];rfl))
  have hrz:(raiseB m.prep)=m.prep:=by unfold raiseB;rw[qe zo]
  have hcond:∀b:Bal,b.v=v->1<=b.n->prB (raiseB m.prep) (raiseB m.prime) b=decide (b.n<=m.prep.n):=λb hb h1=>by
   rw[hrz,h.prime,show raiseB Bal.none=Bal.none from rfl,jhJ hpo hb h1]
  have hin:=jeN (node:=m.node) (t:=m.t) (l:=allM m) (p:=m.prep) (q:=m.prime) (w:=if m.phase=2 then m.bal.v else noS) hbin (by
   rw[qf hp,h.balv,hcond _ rfl (by show (1:Int)<=1000000;omega),qz (p:=(⟨1000000,v⟩:Bal).n<=m.prep.n) (by show ¬(1000000:Int)<=m.prep.n;omega)];simp) ha
  have hb3:=jbu h.all _ hin;rcases jbV m.node m.t (allM m) m.prep m.prime (if m.phase=2 then m.bal.v else noS) (ballotsV (allM m)) with h3 | ⟨_,h3,_⟩
  ·rw[h3] at hb3;exact qp hb3.2 zd
  ·rw[Bool.or_eq_false_iff,hcond _ hb3.1 hb3.2] at h3
   have h4:=qd h3.2;have hf:=(jii (v:=v) (.inr hb3)).2.2;have e:(prepB m).n=min (nextGo m.node m.t (allM m) m.prep m.prime (if m.phase=2 then m.bal.v else noS) (ballotsV (allM m))).n 1000:=hf;have h5:=hr.prep;rw[h.prep_eq zo] at h5
   have h6:(prepN m).n=m.prep.n:=by
    have:({ m with prep:=prepN m }:Mach).prep.n=m.prep.n:=by rw[h5]
    exact this
   unfold prepN at h6;split at h6<;>omega
theorem jwH(hp:¬m.phase=1):¬(Tq.stepG m).phase=1:=by
 have h1:(prepM m).phase=m.phase:=by
  unfold prepM;split
  ·rfl
  ·split
   ·split<;>rfl
   ·rfl
 have h2:confS m=m:=by unfold confS;rw[qf (.inl hp)]
 have h3:(comM m).phase=m.phase:=by
  unfold comM;rw[qe hp];split<;>rfl
 have h4:¬(finM m).phase=1:=by
  unfold finM;split
  ·exact hp
  ·split
   ·show ¬(3:Int)=1;omega
   ·exact hp
 have h5:(cauM m).phase=m.phase:=by
  unfold cauM;split<;>rfl
 unfold Tq.stepG;split
 ·rw[h1];exact hp
 split
 ·rw[h2];exact hp
 split
 ·rw[h3];exact hp
 split
 ·exact h4
 ·rw[h5];exact hp
theorem jxy(h:InvM m)(hp:¬m.phase=1):¬(restM m).phase=1:=jcu (P:=λc=>¬c.phase=1) (λc _ h=>jwH h) h hp
theorem jlU{node:Int}{t:Trust}{l:List Evp}{w:Str}:∀(ns:List Int)(lh:Int × Int),(extGo node t l w ns lh).2=lh.2\/((extGo node t l w ns lh).2∈ns/\lh.2<(extGo node t l w ns lh).2)
 | [],lh=>.inl rfl
 | n::r,lh=>by
  rw[extGo];split
  ·rename_i h1
   split
   ·exact .inr ⟨za,h1⟩
   ·rcases jlU r lh with h | h
    ·exact .inl h
    ·exact .inr ⟨qj _ h.1,h.2⟩
  ·exact .inl rfl
theorem joC{node:Int}{t:Trust}{l:List Evp}{w:Str}{k:Int}:∀(ns:List Int)(lh:Int × Int),ns.Pairwise (λa b=>b<a)->k∈ns->lh.2<k->acc26 node t l w k k=true->lh.2<(extGo node t l w ns lh).2
 | n::r,lh,hs,hk,h1,h2=>by
  have hs':=List.pairwise_cons.1 hs;rw[extGo]
  by_cases hn:n>lh.2
  ·rw[qf hn]
   split
   ·exact hn
   ·rename_i h3
    rcases zf hk with rfl | hk
    ·exact qp h2 h3
    ·exact joC r lh hs'.2 hk h1 h2
  ·exfalso
   rcases zf hk with rfl | hk
   ·exact hn h1
   ·have:=hs'.1 k hk;omega
structure PH(X:Int->Prop)(m:Mach):Prop where
 p1:¬m.phase=1
 p2:m.phase=2->X m.high
theorem PH.stepG(h:UM T v i m)(w:PH X m)(hl:∀e∈m.heard,¬e.low=0->X e.low/\X e.high):PH X (Tq.stepG m):=by
 have hprep:PH X (prepM m):=by
  by_cases hp:m.phase=3
  ·have:prepM m=m:=by unfold prepM;rw[qf (.inl hp)]
   rw[this];exact w
  ·rw[h.prep_eq hp];exact⟨w.p1,w.p2⟩
 have hconf:confS m=m:=by unfold confS;rw[qf (.inl w.p1)]
 have hcom:PH X (comM m):=by
  by_cases hp:m.phase=2
  ·have h2:=h.p2 hp
   unfold comM;rw[qe w.p1,qf hp];refine⟨w.p1,λ_=>?_⟩;show X (comX m).2;have e:(comX m).2=(extGo m.node m.t (allM m) m.bal.v (boundsV (allM m) m.bal.v).reverse (m.low,m.high)).2:=rfl;rw[e];rcases jlU (node:=m.node) (t:=m.t) (l:=allM m) (w:=m.bal.v) (boundsV (allM m) m.bal.v).reverse (m.low,m.high) with h3 | ⟨h3,h4⟩
   ·rw[h3];exact w.p2 hp
   ·obtain⟨x,hx,_,_,h5,h6⟩:=jbI.1 (List.mem_reverse.1 h3)
    rcases jb0 hx with rfl | hx
    ·rw[h.say_env] at h6
     have h7:(envR m).low=m.low:=rfl;have h8:(envR m).high=m.high:=UM.high2 zo;have h4:m.high<_:=h4;exfalso;rcases h6 with h6 | h6
     ·rw[h6,h7] at h4;omega
     ·rw[h6,h8] at h4;omega
    ·have:=hl x hx h5
     rcases h6 with h6 | h6
     ·rw[h6];exact this.1
     ·rw[h6];exact this.2
  ·have:comM m=m:=by unfold comM;rw[qe w.p1,qe hp]
   rw[this];exact w
 have hfin:PH X (finM m):=by
  unfold finM;split
  ·exact w
  ·split
   ·exact⟨by show ¬(3:Int)=1;omega,λh1=>qp (show (3:Int)=2 from h1) zo⟩
   ·exact w
 have hcau:PH X (cauM m):=by
  by_cases hc:m.phase=3\/aheadV m m.bal.n=false
  ·have:cauM m=m:=by unfold cauM;rw[qf hc]
   rw[this];exact w
  ·rw[h.cau_eq hc];exact⟨w.p1,w.p2⟩
 unfold Tq.stepG;split
 ·exact hprep
 split
 ·rw[hconf];exact w
 split
 ·exact hcom
 split
 ·exact hfin
 ·exact hcau
theorem PH.rest(h:UM T v i m)(w:PH X m)(hl:∀e∈m.heard,¬e.low=0->X e.low/\X e.high):PH X (restM m):=by
 have:=jcu (P:=λc=>(UM T v i c/\c.heard=m.heard)/\PH X c) (λc hc ⟨⟨h1,h2⟩,h3⟩=>⟨⟨h1.stepG,((ja3 hc).1.heard).trans h2⟩,h3.stepG h1 (by rw[h2];exact hl)⟩) h.inv.inv ⟨⟨h,rfl⟩,w⟩;exact this.2
theorem PH.kept{K N:Nat->Option Evp}(hl:∀j e,K j=some e\/N j=some e->¬e.low=0->X e.low/\X e.high):Kept T v i K N (PH X) :=
 ⟨λm k w=>⟨w.p1,w.p2⟩,λm q e hm ha w huq hput he hold hx=>PH.rest huq (show PH X { m with heard:=q } from ⟨w.p1,w.p2⟩) (λx hxq=>hl _ x (hx x hxq))⟩
end
structure Duo(S:LS)(A L:Nat)(τ:Nat->Trust)(v:Str)(lie:Nat->Evp)(i j:Nat):Prop extends GrpY S A L τ v lie where
 hi:A.testBit i=true
 hj:A.testBit j=true
 ij:¬i=j
 all:∀k,A.testBit k=true->k=i\/k=j
 bl:sat (others L i:Nat) (τ i)=false
 ne:∃l,L.testBit l=true
 alone:∀k q,A.testBit k=true->q<1024->Qt τ q->q.testBit k=true->(∀l,¬l=k->q.testBit l=true->L.testBit l=true)->False
section
variable{S:LS}{A L:Nat}{τ:Nat->Trust}{v:Str}{lie:Nat->Evp}{t:Nat}{K N:Nat->Nat->Option Evp}{w:Wld}{i j:Nat}
theorem GT.same{s:Slt}(h:GT S A L τ v t N w P k s s' p' m){p2:Ptc}{s2:Slt}(hp:(tickD w).nodes[k]?=some p2)(hs:p2.slots=[s2]):s2=s':=by
 rw[h.nd] at hp;cases hp;have:=h.sl;rw[hs,List.cons.injEq] at this;exact this.1
theorem GT.lies{s:Slt}{f:Nat->Option Evp}(hg:GrpY S A L τ v lie)(h:GT S A L τ v t N w P k s s' p' m)(ha:Air S A L lie N f)(hA:A.testBit k=true):∀l,L.testBit l=true->∃e∈m.heard,e.node.toNat=l/\LI L e:=λl hl=>by
 obtain⟨a,b,_⟩:=hg.lie l hl;exact⟨_,h.hl l _ (ha.l k l hA hl),by omega,a⟩
theorem Duo.one(hS:S.Ok)(hg:Duo S A L τ v lie i j)(hl:LK S t K N w)(ht:t<100)(ha:Air S A L lie N (λ_=>none))(hK:∀k l,A.testBit k=true->K k l=none)
 (h0:∀k p s,A.testBit k=true->w.nodes[k]?=some p->p.slots=[s]->W7 s.mach/\LowI s.mach) :
 ∀k p s,A.testBit k=true->(tickD w).nodes[k]?=some p->p.slots=[s]->W7 s.mach/\LowI s.mach/\(k=i->s.mach.phase=2/\1000<=s.mach.prep.n):=by
 have hin:∀k l e,A.testBit k=true->(K k l=some e\/N k l=some e)->L.testBit l=true/\e=lie l:=λk l e hA he=>by
  rcases he with he | he
  ·rw[hK k l hA] at he;cases he
  ·cases hL:L.testBit l with
   | true =>
    rw[ha.l k l hA hL] at he;exact⟨rfl,(Option.some.inj he).symm⟩
   | false =>
    by_cases h1:A.testBit l=true/\¬l=k
    ·rw[ha.a k l hA h1.1 h1.2] at he;cases he
    ·rw[ha.no k l hA h1 (by rw[hL];simp)] at he;cases he
 have hT:=jjA hS hg.toGrpY hl ht (λ_ m=>W7 m/\LowI m) (λk hA=>by
  have h1:=W7.kept (B:=A|||L) (τ:=τ) (v:=v) (i:=k) (K:=K k) (N:=N k) (λl e he=>by
   obtain⟨h2,rfl⟩:=hin k l e hA he
   exact NX.le (L:=L) (.inr (hg.lie l h2).1)) (λl hx q h2 h3 h4 h5=>hg.alone k q hA h2 h3 h4 (λy hy hyq=>by
    obtain⟨x,hx1,hx2⟩:=h5 y hy hyq;have:=(hin k _ x hA (hx x hx1)).1
    rw[hx2] at this;exact this))
  have h2:=LowI.kept (T:=TA (A|||L) τ) (v:=v) (i:=k) (K:=K k) (N:=N k)
  exact⟨λm q w=>⟨h1.1 m q w.1,h2.1 m q w.2⟩,λm q e a b c d f g o r=>⟨h1.2 m q e a b c.1 d f g o r,h2.2 m q e a b c.2 d f g o r⟩⟩) h0
 intro k p2 s2 hA hp hs;obtain⟨s,s',p',m,h⟩:=hT k hA;obtain rfl:=h.same hp hs
 have hgo:s2.mach=m:=by
  rcases h.go with h1 | ⟨h1,_⟩
  ·exact h1
  ·obtain⟨q,q1,q2,q3,q4,q5⟩:=jlc h.um (jqC h1)
   exact(hg.alone k q hA q1 q2 q3 (λy hy hyq=>by
    obtain⟨x,hx,hxy⟩:=q5 y hy hyq;have:=(hin k _ x hA (.inr (h.hk x hx))).1
    rw[hxy] at this;exact this)).elim
 rw[hgo];refine⟨h.pm.1,h.pm.2,λe=>?_⟩;subst e;have hli:=h.lies hg.toGrpY ha hA;obtain⟨kk,hu,hr⟩:=h.ar;have:=jk8 (L:=L) (m:={ m with seq:=kk }) hu hr hg.l1 hg.bl hg.ne hli
 have h2:m.phase=2:=by
  have h3:=h.um.ph;have h4:¬m.phase=1:=this.1;have h5:=h.pm.1.p3;omega
 exact⟨h2,this.2 h2⟩
theorem GrpY.envA(hg:GrpY S A L τ v lie)(hl:LK S t K N w)(hA:A.testBit k=true):∃p s,w.nodes[k]?=some p/\p.slots=[s]/\UM (TA (A|||L) τ) v k s.mach/\envOf w k=envR s.mach:=by
 obtain⟨hon,hT,hv⟩:=hg.on k hA;obtain⟨p,s,b1,b2⟩:=hl.nd k hon;have hu:=b2.nl.us.mach;rw[hT,hv] at hu;exact⟨p,s,b1,b2.nl.slots,hu,jbZ b1 b2.nl.slots⟩
theorem Duo.two(hS:S.Ok)(hg:Duo S A L τ v lie i j)(hl:LK S t K N w)(ht:t<100)(ha:Air S A L lie N (λk=>some (envOf w k)))(hK:∀k l e,A.testBit k=true->K k l=some e->LE e)
 (h0:∀k p s,A.testBit k=true->w.nodes[k]?=some p->p.slots=[s]->W7 s.mach/\LowI s.mach/\(k=i->s.mach.phase=2/\1000<=s.mach.prep.n)) :
 Fin A (tickD w)\/∀k p s,A.testBit k=true->(tickD w).nodes[k]?=some p->p.slots=[s]->s.mach.phase=2/\(k=i->s.mach.low=1/\s.mach.high=1):=by
 by_cases hfin:Fin A (tickD w)
 ·exact .inl hfin
 right
 have hle:∀k l e,A.testBit k=true->(K k l=some e\/N k l=some e)->LE e:=λk l e hA he=>by
  rcases he with he | he
  ·exact hK k l e hA he
  ·cases hL:L.testBit l with
   | true =>
    rw[ha.l k l hA hL] at he;rw[<-Option.some.inj he];exact NX.le (L:=L) (.inr (hg.lie l hL).1)
   | false =>
    by_cases h1:A.testBit l=true/\¬l=k
    ·rw[ha.a k l hA h1.1 h1.2] at he
     obtain⟨p,s,b1,b2,b3,b4⟩:=hg.envA hl h1.1;rw[<-Option.some.inj he,b4];exact(h0 l p s h1.1 b1 b2).1.own_le b3
    ·rw[ha.no k l hA h1 (by rw[hL];simp)] at he;cases he
 have hT:=jjA hS hg.toGrpY hl ht (λk m=>LowI m/\(k=i->W5 m)) (λk hA=>by
  have h1:=W5.kept (A:=A|||L) (τ:=τ) (v:=v) (i:=k) (K:=K k) (N:=N k) (λl e he=>hle k l e hA he);have h2:=LowI.kept (T:=TA (A|||L) τ) (v:=v) (i:=k) (K:=K k) (N:=N k)
  exact⟨λm q w=>⟨h2.1 m q w.1,λe=>h1.1 m q (w.2 e)⟩,λm q e a b c d f g o r=>⟨h2.2 m q e a b c.1 d f g o r,λy=>h1.2 m q e a b (c.2 y) d f g o r⟩⟩)
  (λk p s hA hp hs=>by
    obtain⟨h1,h2,h3⟩:=h0 k p s hA hp hs
    exact⟨h2,λe=>⟨.inl (h3 e).1,h1.p2 (h3 e).1⟩⟩)
 intro k p2 s2 hA hp hs;obtain⟨s,s',p',m,h⟩:=hT k hA;obtain rfl:=h.same hp hs;obtain⟨hm3,hs3⟩:=h.nofin hA hfin
 by_cases hki:k=i
 ·have w5:=h.pm.2 hki
  have w5':W5 s2.mach:=by
   rcases h.go with h1 | ⟨_,_,q,h2,h3⟩
   ·rw[h1];exact w5
   ·have w6:=W5.rest h2 (show W5 { m with bal:=⟨m.bal.n+1,v⟩ } from w5) (λe he=>hle k _ e hA (.inr (h.hk e he)))
    rw[h3];exact w6
  exact⟨by have:=w5'.1;omega,λ_=>w5'.2⟩
 ·have hkj:k=j:=(hg.all k hA).resolve_left hki
  have hm1:¬m.phase=1:=by
   obtain⟨kk,hu,hr⟩:=h.ar;refine far1 (m:={ m with seq:=kk }) hu hr h.pm.1 hg.b1 hg.gq (jcq.2 (.inl hA)) (λy hy hyq=>?_);rcases jcq.1 hyq with hy1 | hy1
   ·have hyi:y=i:=(hg.all y hy1).resolve_right zo
    obtain⟨p,s,b1,b2,b3,b4⟩:=hg.envA hl hy1;obtain⟨c1,_,c2⟩:=h0 y p s hy1 b1 b2;have hh:=h.hl y _ (ha.a k y hA hy1 hy);rw[b4] at hh;refine⟨_,hh,?_,?_⟩
    ·have:=b3.node
     show s.mach.node.toNat=y;omega
    ·have hph:=(c2 hyi).1
     exact jxh b3.env_ue hph (by rw[UM.eprep c1.p3 b3.ph];exact(c2 hyi).2) (c1.p2 hph).1
   ·obtain⟨e,e1,e2,e3⟩:=h.lies hg.toGrpY ha hA y hy1
    exact⟨e,e1,e2,(e3.big (h.um.hd e e1)).1⟩
  have hs1:¬s2.mach.phase=1:=by
   rcases h.go with h1 | ⟨_,_,q,h2,h3⟩
   ·rw[h1];exact hm1
   ·rw[h3]
    exact jxy h2.inv.inv (show ¬m.phase=1 from hm1)
  refine⟨?_,λe=>qp e hki⟩
  have:s2.mach.phase=1\/s2.mach.phase=2\/s2.mach.phase=3:=by
   rcases h.go with h1 | ⟨_,_,q,h2,h3⟩
   ·rw[h1];exact h.um.ph
   ·rw[h3];exact h2.rest.ph
  omega
theorem Duo.three(hS:S.Ok)(hg:Duo S A L τ v lie i j)(hl:LK S t K N w)(ht:t<100)(ha:Air S A L lie N (λk=>some (envOf w k)))(hK:∀k l e,A.testBit k=true->K k l=some e->LE e)
 (h0:∀k p s,A.testBit k=true->w.nodes[k]?=some p->p.slots=[s]->s.mach.phase=2/\(k=i->s.mach.low=1/\s.mach.high=1)):Fin A (tickD w):=by
 refine zi λhfin=>?_;obtain⟨pj,sj,b1,b2,b3,b4⟩:=hg.envA hl hg.hj;have hj2:=(h0 j pj sj hg.hj b1 b2).1;have hjp:=b3.p2 hj2;have hjh:(envR sj.mach).high=sj.mach.high:=UM.high2 zo
 have hle:∀k l e,A.testBit k=true->k=i->(K k l=some e\/N k l=some e)->¬e.low=0->(e.low=1\/e.low=sj.mach.low\/e.low=sj.mach.high)/\(e.high=1\/e.high=sj.mach.low\/e.high=sj.mach.high):=λk l e hA hki he h3=>by
  rcases he with he | he
  ·have:=hK k l e hA he h3
   exact⟨.inl this.1,.inl this.2⟩
  ·cases hL:L.testBit l with
   | true =>
    rw[ha.l k l hA hL] at he;have:=(hg.lie l hL).1;rw[<-Option.some.inj he];exact⟨.inl this.low,.inl this.high⟩
   | false =>
    by_cases h1:A.testBit l=true/\¬l=k
    ·have hlj:l=j:=(hg.all l h1.1).resolve_left zo
     subst hlj;rw[ha.a k l hA h1.1 h1.2,b4] at he;rw[<-Option.some.inj he];exact⟨.inr (.inl rfl),.inr (.inr hjh)⟩
    ·rw[ha.no k l hA h1 (by rw[hL];simp)] at he;cases he
 have hT:=jjA hS hg.toGrpY hl ht (λk m=>k=i->PH (λn=>n=1\/n=sj.mach.low\/n=sj.mach.high) m) (λk hA=>by
  by_cases hki:k=i
  ·have h1:=PH.kept (X:=λn=>n=1\/n=sj.mach.low\/n=sj.mach.high) (T:=TA (A|||L) τ) (v:=v) (i:=k) (K:=K k) (N:=N k) (λl e he=>hle k l e hA hki he)
   exact⟨λm q w e=>h1.1 m q (w e),λm q e a b c d f g o r y=>h1.2 m q e a b (c y) d f g o r⟩
  ·exact⟨λm q w e=>qp e hki,λm q e a b c d f g o r y=>qp y hki⟩)
  (λk p s hA hp hs e=>by
    obtain⟨h1,h2⟩:=h0 k p s hA hp hs
    exact⟨by omega,λ_=>.inl (h2 e).2⟩)
 obtain⟨s,s',p',m,h⟩:=hT i hg.hi;obtain⟨hm3,_⟩:=h.nofin hg.hi hfin;have hph:=h.pm rfl;have hli:=h.lies hg.toGrpY ha hg.hi;have hjm:=h.hl j _ (ha.a i j hg.hi hg.hj (λe=>hg.ij e.symm));rw[b4] at hjm;have hjn:=b3.node
 have hp2:m.phase=2:=by
  have:=h.um.ph;have:=hph.p1;omega
 have hX:=hph.p2 hp2;have hp:=h.um.p2 hp2;have hud:=h.um.hd;obtain⟨kk,hu,hr⟩:=h.ar
 have hsay:∀pr:Evp->Bool,pr (envR sj.mach)=true->(∀e,UE (TA (A|||L) τ) v e->LI L e->pr e=true)->Said pr (A|||L) i m.heard:=λpr h1 h2 y hy hyq=>by
  rcases jcq.1 hyq with hy1 | hy1
  ·have hyj:y=j:=(hg.all y hy1).resolve_left hy
   exact⟨_,hjm,by show sj.mach.node.toNat=y;omega,h1⟩
  ·obtain⟨e,e1,e2,e3⟩:=hli y hy1
   exact⟨e,e1,e2,h2 e (hud e e1) e3⟩
 have hacj:∀n:Int,sj.mach.low<=n/\n<=sj.mach.high->acR (envR sj.mach) v n n=true:=λn hn=>jv1 b3 hj2 hn;have hiq:(A|||L).testBit i=true:=jcq.2 (.inl hg.hi)
 have hge:sj.mach.high<=m.high:=by
  refine zi λhn=>?_
  have hgr:=hu.great_in (m:={ m with seq:=kk }) (p:=λe=>acR e v sj.mach.high sj.mach.high||vcR e v sj.mach.high sj.mach.high) hg.b1 hg.gq hiq (hu.said (m:={ m with seq:=kk }) (hsay _ (by rw[hacj _ ⟨hjp.2.2.2.1,Int.le_refl _⟩];rfl) (λe he hl=>by rw[(hl.big he).2 _ zo];rfl)) (λ_=>by
   have hk:(envR { m with seq:=kk }).kind=2:=hp2;show (acR (envR { m with seq:=kk }) v sj.mach.high sj.mach.high||vcR (envR { m with seq:=kk }) v sj.mach.high sj.mach.high)=true;unfold vcR;rw[hu.env_ue.ok,qg hu.env_ue.bal,hk];show (acR (envR { m with seq:=kk }) v sj.mach.high sj.mach.high||((true&&(decide (1<=sj.mach.high)&&(decide (sj.mach.high<=sj.mach.high)&&(true&&(!decide (m.low=0)&&decide (m.low<=sj.mach.high))))))&&(!decide ((2:Int)=1)||_)))=true;rw[qg (p:=1<=sj.mach.high) zo,qg (p:=sj.mach.high<=sj.mach.high) zo,qz (p:=m.low=0) zo,qg (p:=m.low<=sj.mach.high) zo]
   simp))
  have hacc:acc26 m.node m.t (allM { m with seq:=kk }) v sj.mach.high sj.mach.high=true:=jkR (jbh _ _) (jbh _ _) (jcJ (λe he=>by rw[he];rfl)) hgr;have hbd:sj.mach.high∈boundsV (allM { m with seq:=kk }) v:=jbI.2 ⟨_,hu.heard_all hjm,b3.env_ue.ok,b3.env_ue.bal,by show ¬sj.mach.low=0;omega,.inr hjh.symm⟩;have h1:=hr.com
  have h2:(comX { m with seq:=kk }).2=m.high:=by
   have h3:(Tq.comM { m with seq:=kk }).high=(comX { m with seq:=kk }).2:=by
    unfold Tq.comM;rw[qe (show ¬m.phase=1 by omega),qf hp2]
   rw[<-h3,h1]
  have e:(comX { m with seq:=kk }).2=(extGo m.node m.t (allM { m with seq:=kk }) m.bal.v (boundsV (allM { m with seq:=kk }) m.bal.v).reverse (m.low,m.high)).2:=rfl;rw[e,hu.balv (m:={ m with seq:=kk })] at h2;have h4:=joC (node:=m.node) (t:=m.t) (l:=allM { m with seq:=kk }) (w:=v) (k:=sj.mach.high) _ (m.low,m.high) (jeO (allM { m with seq:=kk }) v) (List.mem_reverse.2 hbd) (by show m.high<_;omega) hacc;have h4:m.high<_:=h4;omega
 have heq:m.high=sj.mach.high:=by omega
 have hn:m.phase=3:=(jsv (m:={ m with seq:=kk }) hu hr hp2 ⟨hp.2.2.2.1,Int.le_refl _⟩ (hu.high_in hp2) hg.b1 hg.gq hiq (hsay _ (hacj _ zo) (λe he hl=>(hl.big he).2 _ (by show 1<=m.high;omega)))).elim;omega
theorem Duo.decides(hS:S.Ok)(hg:Duo S A L τ v lie i j)(hl:LK S 0 K N w)(ha:Air S A L lie N (λ_=>none))(hK:∀k l,A.testBit k=true->K k l=none)
 (h0:∀k p s,A.testBit k=true->w.nodes[k]?=some p->p.slots=[s]->W7 s.mach/\LowI s.mach) (n:Nat) (hn:3<=n/\n<=100):Fin A (tickI n w):=by
 have hA:∀i,A.testBit i=true->S.on i:=λi hi=>(hg.on i hi).1;obtain⟨m,rfl⟩:∃m,n=m+3:=⟨n - 3,by omega⟩
 have l1:=hl.go hS zo;have l2:=l1.go hS zo;have l3:=l2.go hS zo;have a1:=ha.next hg.toGrpY (tickD w);have a2:=a1.next hg.toGrpY (tickD (tickD w));have h1:=Duo.one hS hg hl zo ha hK h0
 have k1:∀k l e,A.testBit k=true->N k l=some e->LE e:=λk l e hAk he=>by
  cases hL:L.testBit l with
  | true =>
   rw[ha.l k l hAk hL] at he;rw[<-Option.some.inj he];exact NX.le (L:=L) (.inr (hg.lie l hL).1)
  | false =>
   by_cases h1:A.testBit l=true/\¬l=k
   ·rw[ha.a k l hAk h1.1 h1.2] at he;cases he
   ·rw[ha.no k l hAk h1 (by rw[hL];simp)] at he;cases he
 have k2:∀k l e,A.testBit k=true->nxtN S (tickD w) N k l=some e->LE e:=λk l e hAk he=>by
  unfold nxtN at he
  by_cases h3:S.lk k l=true
  ·rw[qf h3,qs] at he
   have h4:=(hg.lk k l hAk).1 h3;obtain⟨p,s,b1,b2,b3,b4⟩:=hg.envA l1 h4.1;rw[<-he,b4];exact(h1 l p s h4.1 b1 b2).1.own_le b3
  ·rw[qe h3] at he
   exact k1 k l e hAk he
 rw[ja5,ja5];rcases Duo.two hS hg l1 zo a1 k1 h1 with f | h2
 ·exact l2.finI hS hA _ zo f
 ·rw[ja5]
  exact l3.finI hS hA _ zo (Duo.three hS hg l2 zo a2 k2 h2)
end
section
variable{q s r:Nat}
end
def lieE(j:Nat)(v:Str):Evp:=⟨j,1,1,.mk 1 [(j:Int)] [],3,⟨1,v⟩,Bal.none,Bal.none,1,1⟩
def lieP(j:Nat)(v:Str):Ltr:=⟨2,1,zNmn,lieE j v⟩
def lieSp(v:Str)(j k:Nat):Sp:=⟨5,j,k,0,0,noS,Trust.none,lieP j v,[]⟩
def partSp(ps:List Int):Sp:=⟨6,0,0,0,0,noS,Trust.none,zLtr,ps⟩
structure Spl(c:List Mem)(s l r:Nat)(a b:Str)(ps:List Int):Prop where
 hc:CfgOk c
 s1:s<2^c.length
 l1:l<1024
 r1:r<1024
 ql:∀i:Nat,l.testBit i=true->i<c.length/\s.testBit i=false/\sat (l|||s:Nat) (tOf c i)=true
 qr:∀i:Nat,r.testBit i=true->i<c.length/\s.testBit i=false/\sat (r|||s:Nat) (tOf c i)=true
 dis:∀i:Nat,l.testBit i=true->r.testBit i=false
 va:1<=a.size/\a.size<=200
 vb:1<=b.size/\b.size<=200
 pv:partsV ps=true
 ap1:∀i j:Nat,i<c.length->s.testBit i=false->l.testBit j=true\/r.testBit j=true->¬j=i->(apN ps j i=false↔(l.testBit j=true/\l.testBit i=true)\/(r.testBit j=true/\r.testBit i=true))
 ap2:∀i j:Nat,s.testBit j=true->l.testBit i=true\/r.testBit i=true->apN ps j i=false
section
variable{c:List Mem}{s l r:Nat}{a b:Str}{ps:List Int}
def grpB(l r i:Nat):Nat:=if l.testBit i=true then l else r
def valB(l:Nat)(a b:Str)(i:Nat):Str:=if l.testBit i=true then a else b
def tauB(c:List Mem)(s j:Nat):Trust:=if s.testBit j=true then .mk 1 [(j:Int)] [] else tOf c j
def onB(l r i:Nat):Bool:=l.testBit i||r.testBit i
def splS(c:List Mem)(s l r:Nat)(a b:Str)(ps:List Int):LS:=⟨c.length,λi=>tOf c i,c.map (λm=>[m.t]),s,onB l r,valB l a b,λi=>TA (grpB l r i|||s) (tauB c s),ps⟩
theorem jbt{i:Nat}:onB l r i=true↔l.testBit i=true\/r.testBit i=true:=by unfold onB;rw[Bool.or_eq_true]
theorem Spl.at(h:Spl c s l r a b ps){i:Nat}(hi:onB l r i=true):i<c.length/\s.testBit i=false/\(grpB l r i).testBit i=true/\sat (grpB l r i|||s:Nat) (tOf c i)=true:=by
 unfold grpB;rcases jbt.1 hi with h1 | h1
 ·obtain⟨x,y,z⟩:=h.ql i h1
  rw[qf h1];exact⟨x,y,h1,z⟩
 ·obtain⟨x,y,z⟩:=h.qr i h1
  have h2:l.testBit i=false:=by
   cases e:l.testBit i with
   | false=>rfl
   | true=>have:=h.dis i e;rw[h1] at this;cases this
  rw[qe (by rw[h2];decide)];exact⟨x,y,h1,z⟩
theorem Spl.on(h:Spl c s l r a b ps){i:Nat}:(splS c s l r a b ps).on i↔onB l r i=true :=
 ⟨λh1=>h1.2.2,λh1=>⟨(h.at h1).1,(h.at h1).2.1,h1⟩⟩
theorem Spl.val(h:Spl c s l r a b ps)(i:Nat):1<=(valB l a b i).size/\(valB l a b i).size<=200:=by
 unfold valB;split
 ·exact h.va
 ·exact h.vb
theorem Spl.grp(h:Spl c s l r a b ps){i j:Nat}(hi:(l.testBit j=true/\l.testBit i=true)\/(r.testBit j=true/\r.testBit i=true)):grpB l r j=grpB l r i/\valB l a b j=valB l a b i:=by
 unfold grpB valB;rcases hi with⟨h1,h2⟩ | ⟨h1,h2⟩
 ·rw[qf h1,qf h1,qf h2,qf h2];exact⟨rfl,rfl⟩
 ·have h3:∀k,r.testBit k=true->¬l.testBit k=true:=λk hk e=>by have:=h.dis k e;rw[hk] at this;cases this
  rw[qe (h3 j h1),qe (h3 j h1),qe (h3 i h2),qe (h3 i h2)];exact⟨rfl,rfl⟩
theorem Spl.lk(h:Spl c s l r a b ps){i j:Nat}(hi:i<c.length)(hs:s.testBit i=false):(splS c s l r a b ps).lk i j=true↔¬j=i/\((l.testBit j=true/\l.testBit i=true)\/(r.testBit j=true/\r.testBit i=true)):=by
 rw[LS.lk_iff,h.on];constructor
 ·rintro⟨x,y,z⟩
  exact⟨y,(h.ap1 i j hi hs (jbt.1 x) y).1 z⟩
 ·rintro⟨x,y⟩
  have:l.testBit j=true\/r.testBit j=true:=y.imp (λz=>z.1) (λz=>z.1);exact⟨jbt.2 this,x,(h.ap1 i j hi hs this x).2 y⟩
theorem Spl.ok(h:Spl c s l r a b ps):(splS c s l r a b ps).Ok:=by
 refine⟨h.hc.len,λi j hi hs hl=>?_⟩;obtain⟨x,y⟩:=(h.lk hi hs).1 hl;obtain⟨z1,z2⟩:=h.grp y;refine⟨jbt.2 (y.imp (λz=>z.2) (λz=>z.2)),z2,?_⟩;show TA (grpB l r j|||s) (tauB c s)=TA (grpB l r i|||s) (tauB c s);rw[z1]
theorem joI(h:Spl c s l r a b ps){i:Nat}(hi:onB l r i=true):tauB c s i=tOf c i:=by
 unfold tauB;rw[qe (by rw[(h.at hi).2.1];decide)]
theorem Spl.ta(h:Spl c s l r a b ps){i:Nat}(hi:onB l r i=true):TA (grpB l r i|||s) (tauB c s) i (tOf c i) :=
 ⟨jcq.2 (.inl (h.at hi).2.2.1),(joI h hi).symm⟩
theorem Spl.s10(h:Spl c s l r a b ps):s<1024:=qA h.s1 (jaC h.hc.len.2)
structure GSx(c:List Mem)(s l r:Nat)(a b:Str)(i:Nat)(x:Slt):Prop where
 us:US (TA (grpB l r i|||s) (tauB c s)) (valB l a b i) i x
 t:x.mach.t=tOf c i
 tm:x.tm=⟨0,-1⟩
 hd:x.mach.heard=[]
 sq:x.mach.seq<=3
 on:onB l r i=true
 m:x.mach=restM (propM (m0 i (tOf c i)) (valB l a b i))
 um:UM (TA (grpB l r i|||s) (tauB c s)) (valB l a b i) i (propM (m0 i (tOf c i)) (valB l a b i))
theorem jhp:GSok c (GSx c s l r a b):=⟨λi x h=>h.us.check,λi x h=>h.us.mach.node,λi x h=>h.t⟩
theorem jsX(h:Spl c s l r a b ps){i:Nat}(hi:onB l r i=true):(newS i 1 (tOf c i) (valB l a b i) 0).2=0/\(prefS' (newS i 1 (tOf c i) (valB l a b i) 0).1 (valB l a b i)).2=0/\GSx c s l r a b i (prefS' (newS i 1 (tOf c i) (valB l a b i) 0).1 (valB l a b i)).1:=by
 have hil:=(h.at hi).1;have hl:=h.hc.len.2;have hm:=ze hil;have ht:tOf c i=c[i].t:=jbp hm;have hvt:validT (tOf c i)=0:=by rw[ht];exact(h.hc.ok i _ hm).2
 have hz:sizeT (tOf c i)<=100000:=by rw[ht];exact h.hc.sz _ (List.getElem_mem hil)
 obtain⟨a1,a2,x,a3,a4,a5,a6,a7,a8,_,a9⟩:=juZ (T:=TA (grpB l r i|||s) (tauB c s)) (by omega:i<10) (h.ta hi) hvt (h.val i) hz;exact⟨a1,a2,by rw[a3];exact⟨a4,a5,a6,a7,a8,hi,a9,joN zo (h.ta hi) hvt (h.val i) hz⟩⟩
structure PX(c:List Mem)(s l r:Nat)(a b:Str)(ps:List Int)(B:Nat->Prop)(w:Wld):Prop where
 fw:FW c s (GSx c s l r a b) w
 net:w.net={ zNtw with parts:=ps }
 lv:∀(i:Nat) p,w.nodes[i]?=some p->p.stopped=false/\(B i->¬p.slots=[])/\(¬B i->p.slots=[])
theorem js2(h:partsV ps=true):checkNt { zNtw with parts:=ps }=true :=
 jfh (by show (0:Nat)<=4000;omega) (by show (0:Int)<=0/\(0:Int)<=1000000000;omega) h rfl rfl
theorem jug(h:Spl c s l r a b ps):(doW (startW c s) (partSp ps)).2=0/\PX c s l r a b ps (λ_=>False) (doW (startW c s) (partSp ps)).1:=by
 have hs1:=h.s1
 have hF:FW c s (GSx c s l r a b) (startW c s):=⟨jg5 h.hc.len.2 h.hc.sz ⟨by omega,by omega⟩,rfl,(show checkNt zNtw=true by decide),rfl,rfl,jcA c 0,λi p hi=>by
  obtain⟨m,h1,rfl⟩:=jdY c 0 i p hi
  exact⟨by rw[Nat.zero_add],by rw[jbp h1],.inl rfl⟩⟩
 have hck:=hF.check h.hc jhp ⟨by omega,by omega⟩
 have hp:partN zNtw ps=({ zNtw with parts:=ps },0):=by
  unfold partN;rw[qe zd,qe (by rw[h.pv];decide)]
 have e:doW (startW c s) (partSp ps)=({ startW c s with net:={ zNtw with parts:=ps } },0):=by
  unfold doW;rw[qe (by rw[hck];decide),qe (by show ¬((6:Int)<1\/(6:Int)>8);omega),qe (λhh=>hh.1.2 rfl),qe (by show ¬(6:Int)=2;omega),qf (show (partSp ps).kind=6 from rfl)];have:partN (startW c s).net (partSp ps).parts=({ zNtw with parts:=ps },0):=hp;rw[this,qe (by simp)]
 rw[e]
 have hni:NtI { zNtw with parts:=ps }:=by
  have:=jnM (n:=zNtw) (l:=ps) hF.wi.net (by rw[hp]);rw[hp] at this;exact this
 refine⟨rfl,⟨jiz hF.wi hni,rfl,js2 h.pv,rfl,rfl,hF.len,hF.nd⟩,rfl,λi p hi=>?_⟩;obtain⟨m,h1,rfl⟩:=jdY c 0 i p hi;exact⟨rfl,λh=>h.elim,λ_=>rfl⟩
theorem PX.pref(hh:Spl c s l r a b ps){B:Nat->Prop}{w:Wld}(h:PX c s l r a b ps B w){i:Nat}(hi:onB l r i=true)(hB:¬B i)(hv:v=valB l a b i):(doW w (prefSp v i)).2=0/\PX c s l r a b ps (λj=>B j\/j=i) (doW w (prefSp v i)).1:=by
 subst hv;have hs1:=hh.s1;have hil:=(hh.at hi).1
 have hsk:sickV w (i:Int)=false:=by
  unfold sickV;rw[h.fw.ill,qq,qq];exact(hh.at hi).2.1
 obtain⟨p,hp,he⟩:=juB hh.hc jhp ⟨by omega,by omega⟩ h.fw hil hsk (valB l a b i);have h1:=h.fw.nd i p hp;have hPI:=(h.fw.wi.nd i p hp).2;have hlt:=(List.getElem?_eq_some_iff.1 hp).1;have hck:=h1.check hh.hc jhp hil;have h2:=h.lv i p hp;obtain⟨f1,f2,f3⟩:=jsX hh hi;have hpp:=juO (v:=valB l a b i) hck h2.1 (h2.2.2 hB) hPI.sz (by rw[h1.node,h1.t];exact f1) (by rw[h1.node,h1.t];exact f2);have hpi:=(jeu (number:=1) (v:=valB l a b i) (now:=0) hPI (by rw[hpp])).1;rw[hpp] at hpi;rw[he,hpp,qe (by simp)];rw[h1.node,h1.t] at hpi ⊢;refine⟨rfl,h.fw.node hp hpi ⟨rfl,rfl,.inr ⟨h2.1,_,rfl,f3⟩⟩,h.net,λj q hq=>?_⟩;rw[jbW (i:=i) rfl hlt] at hq;split at hq
 ·rename_i e;subst e;cases hq
  exact⟨h2.1,λ_ hh=>(by cases hh),λhb=>qp (Or.inr rfl) hb⟩
 ·rename_i hne
  have:=h.lv j q hq;exact⟨this.1,λhb=>this.2.1 (hb.resolve_right (λe=>hne e.symm)),λhb=>this.2.2 (λhb'=>hb (.inl hb'))⟩
theorem jgy(hh:Spl c s l r a b ps){v:Str}:∀(L:List Nat){B:Nat->Prop}{w:Wld}(k:Nat),PX c s l r a b ps B w->(∀i∈L,onB l r i=true/\¬B i/\v=valB l a b i)->L.Nodup ->
 ∃w1,runGo w (L.map λi:Nat=>prefSp v i) k=(w1,k+L.length,0)/\PX c s l r a b ps (λj=>B j\/j∈L) w1
 | [],B,w,k,h,_,_=>⟨w,rfl,h.fw,h.net,λi p hp=>⟨(h.lv i p hp).1,λhb=>(h.lv i p hp).2.1 (hb.resolve_right (by simp)),λhb=>(h.lv i p hp).2.2 (λhb'=>hb (.inl hb'))⟩⟩
 | i::t,B,w,k,h,hl,hnd=>by
  obtain⟨h0,hB,hv⟩:=hl i (za);have h1:=h.pref hh h0 hB hv;have hnd':=List.nodup_cons.1 hnd
  obtain⟨w1,h2,h3⟩:=jgy hh t (k+1) h1.2 (λx hx=>⟨(hl x (qj _ hx)).1,λhb=>by
   rcases hb with hb | rfl
   ·exact(hl x (qj _ hx)).2.1 hb
   ·exact hnd'.1 hx,(hl x (qj _ hx)).2.2⟩) hnd'.2
  refine⟨w1,?_,h3.fw,h3.net,λj p hp=>⟨(h3.lv j p hp).1,λhb=>(h3.lv j p hp).2.1 ?_,λhb=>(h3.lv j p hp).2.2 ?_⟩⟩
  ·rw[List.map_cons,runGo,qe (λhh=>hh h1.1),h2,qi,show k+1+t.length=k+(t.length+1) by omega]
  ·rcases hb with hb | hb
   ·exact .inl (.inl hb)
   ·rcases zf hb with rfl | hb
    ·exact .inl (.inr rfl)
    ·exact .inr hb
  ·intro hb'
   rcases hb' with(hb' | hb') | hb'
   ·exact hb (.inl hb')
   ·exact hb (.inr (by rw[hb'];exact za))
   ·exact hb (.inr (qj _ hb'))
end
section
variable{c:List Mem}{s l r:Nat}{a b:Str}{ps:List Int}
theorem jzN{j:Nat}(hj:j<10)(hv:1<=v.size/\v.size<=200):vE (lieE j v)=true:=by
 have h1:validT (.mk 1 [(j:Int)] [])=0:=jhe (by simp[depthT,Trust.inner,depthL]) (by simp[sizeT,Trust.nodes,Trust.inner,sizeL]) (jfx zo)
 have h2:vB (⟨1,v⟩:Bal)=true:=by
  unfold vB;simp only[qh,Bool.or_eq_true,qo];omega
 unfold vE headE kindE;show ((decide (0<=(j:Int))&&(decide ((j:Int)<10)&&(decide ((1:Int)<=1)&&(decide ((1:Int)<=1000000)&&(decide ((1:Int)<=1)&&(decide ((1:Int)<=1000000)&&decide (validT (.mk 1 [(j:Int)] [])=0)))))))&&(vB (⟨1,v⟩:Bal)&&(zB Bal.none&&(zB Bal.none&&rngE (lieE j v)))))=true;rw[h1,h2,qg (p:=0<=(j:Int)) zo,qg (p:=(j:Int)<10) zo];rfl
theorem Spl.lieU(h:Spl c s l r a b ps){i j:Nat}(hj:s.testBit j=true)(hi:onB l r i=true):UE (TA (grpB l r i|||s) (tauB c s)) (valB l a b i) (lieE j (valB l a b i)):=by
 have hj10:=jbc h.s10 hj;refine⟨jzN hj10 (h.val i),⟨?_,?_⟩,rfl,rfl,.inl rfl,rfl⟩
 ·show (grpB l r i|||s).testBit (j:Int).toNat=true
  rw[qq];exact jcq.2 (.inr hj)
 ·show Trust.mk 1 [(j:Int)] []=tauB c s (j:Int).toNat
  unfold tauB;rw[qq,qf hj]
theorem jwv{j:Nat}(hj:L.testBit j=true):LI L (lieE j v):=⟨rfl,rfl,rfl,by show L.testBit (j:Int).toNat=true;rw[qq];exact hj⟩
def lieF(l:Nat)(a b:Str)(n:Ntw)(x:Nat × Nat):Ntw:=(sendV n x.1 x.2 (lieP x.1 (valB l a b x.2)) 0).1
theorem jui(h:Spl c s l r a b ps){w:Wld}(hw:FW c s (GSx c s l r a b) w)(hd:w.net.dls=[])(hl:w.net.pcs.length<4000)(hx:w.net.next<1000000000){j:Nat}(hj:s.testBit j=true)(hk:onB l r k=true) :
 doW w (lieSp (valB l a b k) j k)=({ w with net:=lieF l a b w.net (j,k) },0)/\FW c s (GSx c s l r a b) { w with net:=lieF l a b w.net (j,k) }/\(lieF l a b w.net (j,k)).dls=[]/\(lieF l a b w.net (j,k)).pcs.length=w.net.pcs.length+1/\(lieF l a b w.net (j,k)).next=w.net.next+1:=by
 have hs1:=h.s1;have hl10:=h.hc.len.2;have hck:=hw.check h.hc jhp ⟨by omega,by omega⟩;have hj10:=jbc h.s10 hj
 have hjl:j<c.length:=by
  refine zi λhn=>?_;have:=Nat.testBit_lt_two_pow (qA hs1 (Nat.pow_le_pow_right zo (show c.length<=j by omega)));rw[hj] at this;cases this
 obtain⟨hkl,hks,_⟩:=h.at hk;have hne:¬j=k:=λe=>by rw[e,hks] at hj;cases hj
 obtain⟨s1,s2,s3,s4,s5,s6,s7⟩:=jmj (l:=lieP j (valB l a b k)) (now:=0) hw.net hd hj10 (by omega:k<10) hne zo hl hx;have hth:∀i,i<c.length->thereW w (i:Int)=true:=λi hi=>jlT (by rw[hw.len];exact hi)
 have hsk:sickV w (j:Int)=true:=by
  unfold sickV;rw[hw.ill,qq,qq];exact hj
 have e:doW w (lieSp (valB l a b k) j k)=({ w with net:=lieF l a b w.net (j,k) },0):=by
  have e1:doW w (lieSp (valB l a b k) j k)=showW w (lieSp (valB l a b k) j k):=by
   unfold doW;rw[qe (by rw[hck];decide),qe (by show ¬((5:Int)<1\/(5:Int)>8);omega),qe (λhh=>by have:=hh.2;rw[show (lieSp (valB l a b k) j k).node=(j:Int) from rfl,hth j hjl] at this;cases this),qe (by show ¬(5:Int)=2;omega),qe (by show ¬(5:Int)=6;omega),qe (by show ¬(5:Int)=7;omega),qf (show (lieSp (valB l a b k) j k).kind=5 from rfl)]
  rw[e1];unfold showW
  rw[qe (λhh=>by
   rcases hh with(hh | hh) | hh
   ·rw[show (lieSp (valB l a b k) j k).node=(j:Int) from rfl,hsk] at hh;cases hh
   ·rw[show (lieSp (valB l a b k) j k).to=(k:Int) from rfl,hth k hkl] at hh;cases hh
   ·exact hne (by have hh:(k:Int)=j:=hh;omega)),qe (λhh=>by
   rcases hh with hh | hh
   ·exact qp (show (2:Int)=1 from hh.1) zo
   ·exact hh.2 rfl),qe (λhh=>hh.2 rfl)]
  have:sendV w.net (lieSp (valB l a b k) j k).node (lieSp (valB l a b k) j k).to (lieSp (valB l a b k) j k).l w.time=sendV w.net j k (lieP j (valB l a b k)) 0:=by rw[hw.time];rfl
  rw[this,qe (λhh=>hh s1)];rfl
 have hni:NtI (lieF l a b w.net (j,k)):=jgo hw.wi.net ⟨jjX,by show sizeT (.mk 1 [(j:Int)] [])<=100000;rw[jjQ];simp[sizeL]⟩ s1;exact⟨e,⟨jiz hw.wi hni,hw.time,s2,hw.ill,hw.trs,hw.len,hw.nd⟩,s3,s5,s6⟩
theorem joX(h:Spl c s l r a b ps):∀(L:List (Nat × Nat))(w:Wld)(k:Nat),FW c s (GSx c s l r a b) w->w.net.dls=[]->w.net.pcs.length+L.length<=3000->w.net.next+L.length<=100000->(∀x∈L,s.testBit x.1=true/\onB l r x.2=true) ->
 runGo w (L.map λx=>lieSp (valB l a b x.2) x.1 x.2) k=({ w with net:=L.foldl (lieF l a b) w.net },k+L.length,0)/\FW c s (GSx c s l r a b) { w with net:=L.foldl (lieF l a b) w.net }
 | [],w,k,hw,_,_,_,_=>⟨rfl,hw⟩
 | x::t,w,k,hw,hd,hl,hx,hL=>by
  rw[qi] at hl hx;obtain⟨h1,h2⟩:=hL x (za);obtain⟨e1,e2,e3,e4,e5⟩:=jui h hw hd zo zo h1 h2;obtain⟨i1,i2⟩:=joX h t { w with net:=lieF l a b w.net x } (k+1) e2 e3 (by show (lieF l a b w.net (x.1,x.2)).pcs.length+_<=_;omega) (by show (lieF l a b w.net (x.1,x.2)).next+_<=_;omega) (λy hy=>hL y (qj _ hy));refine⟨?_,i2⟩;rw[List.map_cons,runGo,e1,qe (by simp)];show runGo { w with net:=lieF l a b w.net x } _ (k+1)=_;rw[i1,qi,show k+1+t.length=k+(t.length+1) by omega];rfl
theorem jvQ(h:Spl c s l r a b ps)(L:List (Nat × Nat))(n:Ntw)(hc:checkNt n=true)(hd:n.dls=[])(hl:n.pcs.length+L.length<=3000)(hx:n.next+L.length<=100000)(hL:∀x∈L,s.testBit x.1=true/\onB l r x.2=true) :
 Snt 0 (λi k y=>∃x∈L,i=x.1/\k=x.2/\y=lieP x.1 (valB l a b x.2)) n (L.foldl (lieF l a b) n) (1 * L.length):=by
 refine Snt.fold (now:=0) (f:=lieF l a b) (Q:=λx i k y=>i=x.1/\k=x.2/\y=lieP x.1 (valB l a b x.2)) (c:=1) L n (λm x hxL hcm hdm h1 h2=>?_) hc hd zo zo;obtain⟨p1,p2⟩:=hL x hxL;have hj10:=jbc h.s10 p1;obtain⟨hkl,hks,_⟩:=h.at p2;have hl10:=h.hc.len.2;have hne:¬x.1=x.2:=λe=>by rw[e,hks] at p1;cases p1
 obtain⟨s1,s2,s3,s4,s5,s6,s7⟩:=jmj (l:=lieP x.1 (valB l a b x.2)) (now:=0) hcm hdm hj10 (by omega:x.2<10) hne zo zo zo;refine⟨s2,s3,s4,by unfold lieF;omega,by unfold lieF;omega,λy hy=>(s7 y).2 (.inr hy),λy hy=>?_,λi k y hq=>?_⟩
 ·rcases(s7 y).1 hy with rfl | hy
  ·exact .inr ⟨rfl,x.1,x.2,rfl,rfl,rfl,rfl,rfl⟩
  ·exact .inl hy
 ·obtain⟨rfl,rfl,rfl⟩:=hq
  exact⟨_,(s7 _).2 (.inl rfl),rfl,rfl,rfl⟩
def airB(s l r:Nat)(a b:Str)(i j:Nat):Option Evp:=if s.testBit j=true/\onB l r i=true then some (lieE j (valB l a b i)) else none
theorem jrk(h:Spl c s l r a b ps)(la lb:List Nat)(ll:List (Nat × Nat))(hla:∀i,i∈la↔l.testBit i=true)(hlb:∀i,i∈lb↔r.testBit i=true)(hll:∀x,x∈ll↔s.testBit x.1=true/\onB l r x.2=true)(n1:la.Nodup)(n2:lb.Nodup)(h200:ll.length<=500) :
 ∃w,runGo (startW c s) (partSp ps::((la.map λi:Nat=>prefSp a i)++((lb.map λi:Nat=>prefSp b i)++(ll.map λx=>lieSp (valB l a b x.2) x.1 x.2)))) 0=(w,1+la.length+lb.length+ll.length,0)
  /\ checkW w=true/\LK (splS c s l r a b ps) 0 (λ_ _=>none) (airB s l r a b) w
  /\ (∀(i:Nat) p x,onB l r i=true->w.nodes[i]?=some p->p.slots=[x]->GSx c s l r a b i x)
  /\ (∀(i:Nat),i<c.length->∃p,w.nodes[i]?=some p/\p.node=(i:Int)/\checkP p=true/\p.t=tOf c i)
  /\ (∀(i:Nat) p,i<c.length->w.nodes[i]?=some p->p.stopped=false):=by
 have hs1:=h.s1;have hl10:=h.hc.len.2;have hnl:∀i,r.testBit i=true->¬l.testBit i=true:=λi hi e=>by have:=h.dis i e;rw[hi] at this;cases this
 obtain⟨p0,p1⟩:=jug h;obtain⟨w2,r2,p2⟩:=jgy h (v:=a) la 1 p1 (λi hi=>⟨jbt.2 (.inl ((hla i).1 hi)),λh=>h,by unfold valB;rw[qf ((hla i).1 hi)]⟩) n1;obtain⟨w3,r3,p3⟩:=jgy h (v:=b) lb (1+la.length) p2 (λi hi=>⟨jbt.2 (.inr ((hlb i).1 hi)),λhb=>hnl i ((hlb i).1 hi) ((hla i).1 (hb.resolve_left (λh=>h))),by unfold valB;rw[qe (hnl i ((hlb i).1 hi))]⟩) n2;have hnet:=p3.net;have hpcs:w3.net.pcs=[]:=by rw[hnet];rfl
 have hnx:w3.net.next=0:=by rw[hnet];rfl
 have hdl:w3.net.dls=[]:=by rw[hnet];rfl
 have hLx:∀x∈ll,s.testBit x.1=true/\onB l r x.2=true:=λx hx=>(hll x).1 hx;obtain⟨r4,p4⟩:=joX h ll w3 (1+la.length+lb.length) p3.fw hdl (by rw[hpcs];simp;omega) (by rw[hnx];omega) hLx;have hsn:=jvQ h ll w3.net p3.fw.net hdl (by rw[hpcs];simp;omega) (by rw[hnx];omega) hLx;have hck:=p4.check h.hc jhp ⟨by omega,by omega⟩
 have hnode:∀(i:Nat),i<c.length->∃p,w3.nodes[i]?=some p/\p.node=(i:Int)/\checkP p=true/\p.t=tOf c i:=λi hi=>by
  have hp:=ze (show i<w3.nodes.length by rw[p3.fw.len];exact hi);have h1:=p3.fw.nd i _ hp;exact⟨_,hp,h1.node,h1.check h.hc jhp hi,h1.t⟩
 have hnd:∀i,onB l r i=true->∃p x,w3.nodes[i]?=some p/\p.node=(i:Int)/\p.stopped=false/\p.t=tOf c i/\p.slots=[x]/\GSx c s l r a b i x:=λi hi=>by
  have hp:=ze (show i<w3.nodes.length by rw[p3.fw.len];exact(h.at hi).1);have h1:=p3.fw.nd i _ hp;have h2:=p3.lv i _ hp;rcases h1.slots with h3 | ⟨h3,x,h4,h5⟩
  ·refine qp h3 (h2.2.1 ?_)
   rcases jbt.1 hi with h6 | h6
   ·exact .inl (.inr ((hla i).2 h6))
   ·exact .inr ((hlb i).2 h6)
  ·exact⟨_,x,hp,h1.node,h3,h1.t,h4,h5⟩
 have hap:∀x∈(ll.foldl (lieF l a b) w3.net).pcs,∃j k:Nat,x.src=(j:Int)/\x.dst=(k:Int)/\s.testBit j=true/\onB l r k=true/\x.l=lieP j (valB l a b k)/\x.due=1:=λx hx=>by
  rcases hsn.only x hx with h1 | ⟨h1,i,k,h2,h3,y,h4,rfl,rfl,h5⟩
  ·rw[hpcs] at h1;cases h1
  ·exact⟨y.1,y.2,h2,h3,(hLx y h4).1,(hLx y h4).2,h5,by omega⟩
 have hps:(ll.foldl (lieF l a b) w3.net).parts=ps:=by rw[hsn.parts,hnet]
 refine⟨{ w3 with net:=ll.foldl (lieF l a b) w3.net },?_,hck,?_,λi p x hi hp hx=>?_,hnode,λi p _ hp=>(p3.lv i p hp).1⟩
 ·rw[runGo,qe (λhh=>hh p0),je4 _ _ _ w2 1 (by rw[r2,qw]),qw,je4 _ _ _ w3 (1+la.length) (by rw[r3,qw]),qw,r4]
 ·refine⟨p4.wi,p4.time,p4.ill,p4.trs,p4.len,p4.net,hsn.dls,hps,?_,λi hi=>?_,λi hi hs hact=>?_,λi hi=>⟨λj e he=>?_,λj x hx=>by cases hx⟩,λx hx=>?_,λx hx i hxi hi hs=>?_,λi j e hi he=>?_,λi j hi hlk=>.inl ?_⟩
  ·have:=hsn.next
   show (ll.foldl (lieF l a b) w3.net).next<=_;omega
  ·have hi':=h.on.1 hi
   obtain⟨p,x,h1,h2,h3,h4,h5,h6⟩:=hnd i hi';refine⟨p,x,h1,⟨⟨h2,h3,h4,?_,h5,h6.us,h6.t⟩,?_,?_,λy hy=>?_,λj e he=>by cases he⟩⟩
   ·have hm:=ze (h.at hi').1
    show validT (tOf c i)=0;rw[jbp hm];exact(h.hc.ok i _ hm).2
   ·have hu:=h6.um
    rw[h6.m];exact AR.of hu.rest (jti hu.inv.inv)
   ·have:=h6.sq
    show x.mach.seq<=5000 * (((0:Nat):Int)+1);omega
   ·rw[h6.hd] at hy;cases hy
  ·have hp:=ze (show i<w3.nodes.length by rw[p3.fw.len];exact hi)
   have h1:=p3.fw.nd i _ hp;have h2:=p3.lv i _ hp;have hact:onB l r i=false:=hact;refine⟨_,hp,⟨h1.node,h2.1,h1.t⟩,h2.2.2 (λhb=>?_),h1.check h.hc jhp hi⟩;rcases hb with(hb | hb) | hb
   ·exact hb
   ·rw[jbt.2 (.inl ((hla i).1 hb))] at hact;cases hact
   ·rw[jbt.2 (.inr ((hlb i).1 hb))] at hact;cases hact
  ·have hi':=h.on.1 hi
   unfold airB at he;split at he
   ·rename_i hh
    rw[<-Option.some.inj he];refine⟨λe=>?_,rfl,h.lieU hh.1 hi',by show sizeT (.mk 1 [(j:Int)] [])<=100000;rw[jjQ];simp[sizeL]⟩;have:=(h.at hi').2.1;rw[<-e,hh.1] at this;cases this
   ·cases he
  ·obtain⟨j,k,_,_,_,_,_,hdue⟩:=hap x hx
   rw[hdue];show (1:Int)<=((0:Nat):Int)+1;omega
  ·obtain⟨j,k,q1,q2,q3,q4,q5,q6⟩:=hap x (List.mem_filter.1 hx).1
   have hki:k=i:=by omega
   subst hki;refine⟨q4,λ_=>?_⟩;rw[q5];refine⟨rfl,.inr ⟨rfl,?_⟩⟩;show airB s l r a b k (j:Int).toNat=some (lieE j (valB l a b k));unfold airB;rw[qq,qf ⟨q3,q4⟩]
  ·unfold airB at he
   split at he
   ·rename_i hh
    obtain⟨x,x1,x2,x3,x4⟩:=hsn.all j i (lieP j (valB l a b i)) ⟨(j,i),(hll (j,i)).2 hh,rfl,rfl,rfl⟩;refine .inr ⟨x,List.mem_filter.2 ⟨x1,?_⟩,x3,by rw[x4];rfl,by rw[x4];rfl⟩;have hn:apN ps j i=false:=h.ap2 i j hh.1 (jbt.1 hh.2)
    have e:apartV (ll.foldl (lieF l a b) w3.net) x.src x.dst=apN ps j i:=by
     unfold apN apartV partV;rw[hps,x2,x3]
    show (!apartV (ll.foldl (lieF l a b) w3.net) x.src x.dst)=true;rw[e,hn];rfl
   ·cases he
  ·unfold airB
   rw[qe (λhh=>?_)];have:=(h.at (h.on.1 (LS.lk_iff.1 hlk).1)).2.1;rw[hh.1] at this;cases this
 ·obtain⟨p',x',h1,_,_,_,h5,h6⟩:=hnd i hi
  have hp:w3.nodes[i]?=some p:=hp;rw[hp] at h1;cases h1;rw[hx,List.cons.injEq] at h5;rw[h5.1];exact h6
end
section
variable{c:List Mem}{s l r:Nat}{a b:Str}{ps:List Int}
theorem W7.of_fresh(h1:m.phase=1)(h2:m.conf=Bal.none)(h3:m.low=0):W7 m:=⟨λ_=>⟨h2,h3⟩,λh=>by omega,by omega⟩
theorem jx7{τ:Nat->Trust}{i:Nat}(h:∀q,q<1024->Qt τ q->q.testBit i=true->(∀l,¬l=i->q.testBit l=true->False)->False):NoQ τ i []:=λq h1 h2 h3 h4=>h q h1 h2 h3 (λx hx hq=>by obtain⟨e,he,_⟩:=h4 x hx hq;cases he)
theorem Spl.qt(h:Spl c s l r a b ps)(hA:∀i:Nat,A.testBit i=true->onB l r i=true/\grpB l r i=A):Qt (tauB c s) (A|||s):=by
 intro k hk;cases hs:s.testBit k with
 | true =>
  unfold tauB;rw[qf hs];unfold sat
  have hA1:A|||s<1024:=by
   refine Nat.or_lt_two_pow (n:=10) ?_ h.s10;refine Nat.lt_of_not_le λhn=>?_;obtain⟨i,hi,hb⟩:=Nat.exists_ge_and_testBit_of_ge_two_pow (n:=10) hn;have:=(h.at (hA i hb).1).1;have:=h.hc.len.2;omega
  have hk10:=jbc h.s10 hs;rw[jfp hA1,qx];refine qg ?_;show (1:Int)<=cnt (Tq.has (A|||s:Nat)) [(k:Int)]+cntI (A|||s:Nat) [];rw[jcZ,(jaX hA1).2 ⟨by omega,by omega,by rw[qq];exact hk⟩];simp[cnt,cntI]
 | false =>
  have hb:A.testBit k=true:=by
   rcases jcq.1 hk with h1 | h1
   ·exact h1
   ·rw[hs] at h1;cases h1
  obtain⟨h1,h2⟩:=hA k hb;rw[joI h h1,<-h2];exact(h.at h1).2.2.2
theorem Spl.decides(h:Spl c s l r a b ps)(hn4:c.length<=4){w:Wld}(hlk:LK (splS c s l r a b ps) 0 (λ_ _=>none) (airB s l r a b) w)
 (hg:∀(i:Nat) p x,onB l r i=true->w.nodes[i]?=some p->p.slots=[x]->GSx c s l r a b i x) (hA:∀i:Nat,A.testBit i=true->onB l r i=true/\grpB l r i=A/\valB l a b i=v) (hlink:∀i j:Nat,A.testBit i=true->((l.testBit j=true/\l.testBit i=true)\/(r.testBit j=true/\r.testBit i=true)↔A.testBit j=true))
 (hne:∃i,A.testBit i=true) (hot:∃y,onB l r y=true/\A.testBit y=false) (n:Nat) (hn:5<=n/\n<=100):Fin A (tickI n w):=by
 have hS:=h.ok;have hl10:=h.hc.len.2;have hAS:∀i,A.testBit i=true->(splS c s l r a b ps).on i:=λi hi=>h.on.2 (hA i hi).1
 have hA1:A<1024:=by
  refine Nat.lt_of_not_le λhn=>?_;obtain⟨i,hi,hb⟩:=Nat.exists_ge_and_testBit_of_ge_two_pow (n:=10) hn;have:=(h.at (hA i hb).1).1;omega
 have hdis:∀i,A.testBit i=true->s.testBit i=false:=λi hi=>(h.at (hA i hi).1).2.1;have hB1:A|||s<1024:=Nat.or_lt_two_pow (n:=10) hA1 h.s10
 have hqt:=h.qt (A:=A) (λi hi=>⟨(hA i hi).1,(hA i hi).2.1⟩)
 have hon:∀i,A.testBit i=true->(splS c s l r a b ps).on i/\(splS c s l r a b ps).T i=TA (A|||s) (tauB c s)/\(splS c s l r a b ps).vv i=v:=λi hi=>by
  obtain⟨h1,h2,h3⟩:=hA i hi;refine⟨hAS i hi,?_,h3⟩;show TA (grpB l r i|||s) (tauB c s)=_;rw[h2]
 have hlkA:∀i j,A.testBit i=true->((splS c s l r a b ps).lk i j=true↔A.testBit j=true/\¬j=i):=λi j hi=>by
  obtain⟨h1,_⟩:=h.at (hA i hi).1;rw[h.lk h1 (hdis i hi),hlink i j hi,and_comm]
 have hlie:∀j,s.testBit j=true->LI s (lieE j v)/\(lieE j v).node=(j:Int)/\UE (TA (A|||s) (tauB c s)) v (lieE j v):=λj hj=>by
  obtain⟨i,hi⟩:=hne;obtain⟨h1,h2,h3⟩:=hA i hi;have:=h.lieU (i:=i) hj h1;rw[h2,h3] at this;exact⟨jwv hj,rfl,this⟩
 have hair:Air (splS c s l r a b ps) A s (λj=>lieE j v) (airB s l r a b) (λ_=>none):=by
  refine⟨λi j hi hj=>?_,λi j hi hj _=>?_,λi j hi _ hj=>?_⟩
  ·unfold airB
   rw[qf ⟨hj,(hA i hi).1⟩,(hA i hi).2.2]
  ·unfold airB
   rw[qe (λhh=>by have:=hdis j hj;rw[hh.1] at this;cases this)]
  ·unfold airB
   rw[qe (λhh=>hj hh.1)]
 have hfirst:∀k p x,A.testBit k=true->w.nodes[k]?=some p->p.slots=[x]->UM (TA (A|||s) (tauB c s)) v k (propM (m0 k (tOf c k)) v)/\x.mach=restM (propM (m0 k (tOf c k)) v)/\x.tm=⟨0,-1⟩:=λk p x hk hp hx=>by
  obtain⟨h1,h2,h3⟩:=hA k hk;have g:=hg k p x h1 hp hx;have g1:=g.um;have g2:=g.m;rw[h2,h3] at g1;rw[h3] at g2;exact⟨g1,g2,g.tm⟩
 have hlow:∀k p x,A.testBit k=true->w.nodes[k]?=some p->p.slots=[x]->LowI x.mach:=λk p x hk hp hx=>by
  obtain⟨g1,g2,_⟩:=hfirst k p x hk hp hx;have e:=jeg (v:=v) (k:=k) (t:=tOf c k) g1.vsz.1;rw[g2];refine LowI.rest g1 (λ_=>.inr ?_);rw[e];show (0:Int)<1;omega
 by_cases hsolo:∃i q,A.testBit i=true/\q<1024/\Qt (tauB c s) q/\q.testBit i=true/\∀j,¬j=i->q.testBit j=true->s.testBit j=true
 ·obtain⟨i,q,h1,h2,h3,h4,h5⟩:=hsolo
  obtain⟨m,rfl⟩:∃m,n=m+1:=⟨n - 1,by omega⟩
  rw[ja5];refine(hlk.go hS zo).finI hS hAS m zo (juG (L:=s) (lie:=λj=>lieE j v) hS hlk zo h1 (hon i h1) h2 h3 h4 h5 (λj hj=>?_) (λp x hp hx=>hlow i p x h1 hp hx));exact⟨hair.l i j h1 hj,(hlie j hj).1,(hlie j hj).2.1⟩
 ·have alone:∀k q,A.testBit k=true->q<1024->Qt (tauB c s) q->q.testBit k=true->(∀j,¬j=k->q.testBit j=true->s.testBit j=true)->False:=λk q h1 h2 h3 h4 h5=>hsolo ⟨k,q,h1,h2,h3,h4,h5⟩
  by_cases hblk:∃i,A.testBit i=true/\sat (others s i:Nat) (tauB c s i)=false
  ·obtain⟨i,hi,hb⟩:=hblk
   have hsne:∃x,s.testBit x=true:=by
    refine zi λhno=>?_
    have h0:s=0:=by
     apply Nat.eq_of_testBit_eq;intro x;rw[Nat.zero_testBit];cases e:s.testBit x with
     | false=>rfl
     | true=>exact qp ⟨x,e⟩ hno
    have hil:=(h.at (hA i hi).1).1;have hm:=ze hil;rw[joI h (hA i hi).1,jbp hm,h0] at hb;have hall:=js0 _ (jbA (h.hc.ok i _ hm).2)
    have ho:others 0 i=1023:=by
     have:∀k,k<10->others 0 k=1023:=by decide
     exact this i zo
    rw[ho] at hb;rw[show ((1023:Nat):Int)=1023 from rfl,hall] at hb;cases hb
   by_cases hj:∃j,A.testBit j=true/\¬j=i
   ·obtain⟨j,hj,hji⟩:=hj
    have hd:Duo (splS c s l r a b ps) A s (tauB c s) v (λj=>lieE j v) i j:=by
     refine { on:=hon,lk:=hlkA,dis:=hdis,a1:=hA1,l1:=h.s10,gq:=hqt,lie:=hlie,hi:=hi,hj:=hj,ij:=λe=>hji e.symm,all:=λk hk=>?_,bl:=hb,ne:=hsne,alone:=alone };obtain⟨x,hx⟩:=hsne;obtain⟨y,hy,hyA⟩:=hot;have lt:∀z,A.testBit z=true->z<4:=λz hz=>by have:=(h.at (hA z hz).1).1;omega
     have x4:x<4:=by
      refine zi λhn=>?_;have:=Nat.testBit_lt_two_pow (qA h.s1 (Nat.pow_le_pow_right zo (show c.length<=x by omega)));rw[hx] at this;cases this
     have y4:y<4:=by have:=(h.at hy).1;omega
     have ne1:∀z,A.testBit z=true->¬z=x/\¬z=y:=λz hz=>⟨λe=>(by have:=hdis z hz;rw[e,hx] at this;cases this),λe=>by rw[e,hyA] at hz;cases hz⟩
     have hxy:¬x=y:=λe=>by have:=(h.at hy).2.1;rw[<-e,hx] at this;cases this
     have:=lt i hi;have:=lt j hj;have:=lt k hk;have:=ne1 i hi;have:=ne1 j hj;have:=ne1 k hk;omega
    refine Duo.decides hS hd hlk hair (λ_ _ _=>rfl) (λk p x hk hp hx=>⟨?_,hlow k p x hk hp hx⟩) n zo;obtain⟨g1,g2,_⟩:=hfirst k p x hk hp hx;have e:=jeg (v:=v) (k:=k) (t:=tOf c k) g1.vsz.1;rw[g2]
    have hw:W7 (propM (m0 k (tOf c k)) v):=by
     rw[e];exact W7.of_fresh rfl rfl rfl
    have hnil:(propM (m0 k (tOf c k)) v).heard=[]:=by rw[e];rfl
    exact hw.rest g1 (by rw[hnil];exact jx7 (λq q1 q2 q3 q4=>alone k q hk q1 q2 q3 (λz hz hzq=>(q4 z hz hzq).elim))) (λe he=>by rw[hnil] at he;cases he)
   ·refine(alone i (A|||s) hi hB1 hqt (jcq.2 (.inl hi)) (λj hji hjq=>?_)).elim
    rcases jcq.1 hjq with h1 | h1
    ·exact qp ⟨j,h1,hji⟩ hj
    ·exact h1
  ·by_cases hf:Fin A w
   ·exact hlk.finI hS hAS n zo hf
   ·have hsure:∀i,A.testBit i=true->Sure (A|||s) s (tauB c s) i:=λi hi=>⟨h.s10,hdis i hi,by
     cases e:sat (others s i:Nat) (tauB c s i) with
     | true=>rfl
     | false=>exact qp ⟨i,hi,e⟩ hblk⟩
    have hgx:GrpX (splS c s l r a b ps) A s (tauB c s) v (λj=>lieE j v):=⟨hon,hlkA,hsure,hA1,h.s10,hqt,hlie,λi q h1 h2 h3 h4 h5=>alone i q h1 h2 h3 h4 (λj hj hq=>(h5 j hq).resolve_left hj)⟩
    have hvt:∀j,(A|||s).testBit j=true->validT (tauB c s j)=0:=λj hj=>by
     cases e:s.testBit j with
     | true =>
      have hj10:=jbc h.s10 e;unfold tauB;rw[qf e];exact jhe (by simp[depthT,Trust.inner,depthL]) (by simp[sizeT,Trust.nodes,Trust.inner,sizeL]) (jfx zo)
     | false =>
      have h1:A.testBit j=true:=by
       rcases jcq.1 hj with h1 | h1
       ·exact h1
       ·rw[e] at h1;cases h1
      have hjl:=(h.at (hA j h1).1).1;have hm:=ze hjl;rw[joI h (hA j h1).1,jbp hm];exact(h.hc.ok j _ hm).2
    refine GX.decides hS hgx ⟨hlk,λi j e hi he=>?_,λ_ i j hi hj=>?_,λi j hi hj h1=>qp h1 zo,hair.l,λi j hi hj hs=>hair.no i j hi (λhh=>hj hh.1) hs,λi p x hi hp hx=>?_⟩ hne n hn
    ·rcases he with he | he
     ·cases he
     ·unfold airB at he
      split at he
      ·rename_i hh
       rw[<-Option.some.inj he];exact .inr (jwv hh.1)
      ·cases he
    ·unfold airB
     rw[qe (λhh=>by have:=hdis j hj;rw[hh.1] at this;cases this)]
    ·obtain⟨g1,g2,g3⟩:=hfirst i p x hi hp hx
     have e:=jeg (v:=v) (k:=i) (t:=tOf c i) g1.vsz.1
     have hw:W1 (tauB c s) v i (propM (m0 i (tOf c i)) v):=by
      rw[e];exact⟨λ_=>⟨rfl,by show (0:Int)<=1;omega,by show (0:Int)<=1;omega,rfl⟩,λh=>qp (show (1:Int)=2 from h) zo,λh=>qp (show (1:Int)=3 from h) zo⟩
     have hw2:=hw.rest g1 hvt (λy hy=>by rw[e] at hy;cases hy);rw[<-g2] at hw2;exact⟨⟨hw2,λ_ h=>qp h zo,λ_ h=>qp h zo,λ_ h=>qp h zo⟩,λh3=>hf ⟨i,p,x,hi,hp,hx,h3⟩,.inl (by rw[g3])⟩
end
def Hit(set:Int)(q:List Otc):Prop:=∃x y,q=[x,y]/\divB set x y=true/\x.slot=1
theorem jdE{set:Int}{a:Otc}{q:List Otc}(hq:Hit set q)(ha:a.slot=1):∀l:List Otc,divIn set a l q=q
 | []=>rfl
 | b::r=>by
  obtain⟨x,y,rfl,h1,h2⟩:=hq;unfold divIn;rw[qe (λh=>by have h3:decide (a.slot<x.slot)=true:=h.2;have:=qc h3;omega)];exact jdE ⟨x,y,rfl,h1,h2⟩ ha r
theorem jih{set:Int}{q:List Otc}(hq:Hit set q):∀l:List Otc,(∀o∈l,o.slot=1)->divGo set l q=q
 | [],_=>rfl
 | a::r,h=>by
  unfold divGo;rw[jdE hq (h a (za)) r];exact jih hq r λo ho=>h o (qj _ ho)
theorem jku{set:Int}{a:Otc}(ha:a.slot=1):∀l:List Otc,divIn set a l []=[]\/Hit set (divIn set a l [])
 | []=>.inl rfl
 | b::r=>by
  unfold divIn
  by_cases h:divB set a b=true
  ·rw[qf ⟨h,rfl⟩]
   have hh:Hit set [a,b]:=⟨a,b,rfl,h,ha⟩
   rw[jdE hh ha r];exact .inr hh
  ·rw[qe (λh'=>h h'.1)]
   exact jku ha r
theorem jop{set:Int}{a b:Otc}(ha:a.slot=1)(hd:divB set a b=true):∀l:List Otc,b∈l->Hit set (divIn set a l [])
 | c::r,hb=>by
  unfold divIn
  by_cases h:divB set a c=true
  ·rw[qf ⟨h,rfl⟩]
   have hh:Hit set [a,c]:=⟨a,c,rfl,h,ha⟩
   rw[jdE hh ha r];exact hh
  ·rw[qe (λh'=>h h'.1)]
   rcases zf hb with rfl | hb
   ·exact qp hd h
   ·exact jop ha hd r hb
theorem jrz{set:Int}{a b:Otc}(h:divB set a b=true):divB set b a=true:=by
 unfold divB at h ⊢;simp only[qh,qo,Bool.not_eq_true',decide_eq_false_iff_not] at h ⊢;exact⟨⟨⟨h.1.1.1.symm,λe=>h.1.1.2 e.symm⟩,h.2⟩,h.1.2⟩
theorem jne{set:Int}{a b:Otc}(hd:divB set a b=true):∀l:List Otc,(∀o∈l,o.slot=1)->a∈l->b∈l->Hit set (divGo set l [])
 | c::r,h,ha,hb=>by
  have hc:=h c (za);have hr:=λo ho=>h o (qj _ ho);unfold divGo;rcases jku (set:=set) hc r with h1 | h1
  ·have hno:∀x y,divB set x y=true->x=c->y∈r->False:=λx y hxy e hy=>by
    subst e;obtain⟨_,_,h2,_⟩:=jop hc hxy r hy;rw[h1] at h2;cases h2
   have hne:¬a=b:=λe=>by
    rw[e] at hd;unfold divB at hd;simp at hd
   rw[h1];rcases zf ha with e1 | ha
   ·rcases zf hb with e2 | hb
    ·exact qp (e1.trans e2.symm) hne
    ·exact(hno a b hd e1 hb).elim
   ·rcases zf hb with e2 | hb
    ·exact(hno b a (jrz hd) e2 ha).elim
    ·exact jne hd r hr ha hb
  ·rw[jih h1 r hr];exact h1
section
variable{c:List Mem}{s l r:Nat}{a b:Str}{ps:List Int}
theorem LK.sickI{S:LS}(hS:S.Ok){i:Nat}(hi:S.ill.testBit i=true):∀(n:Nat){t:Nat}{K N:Nat->Nat->Option Evp}{w:Wld},LK S t K N w->t+n<=150->(tickI n w).nodes[i]?=w.nodes[i]?
 | 0,t,K,N,w,h,ht=>rfl
 | n+1,t,K,N,w,h,ht=>by
  rw[ja5,LK.sickI hS hi n (h.go hS zo) zo];exact jqH h.wi (by rw[h.time];omega) (by rw[h.sick];exact hi)
theorem jxT(h:Spl c s l r a b ps)(hn4:c.length<=4)(hab:¬a=b)(hl:∃i,l.testBit i=true)(hr:∃i,r.testBit i=true)(la lb:List Nat)(ll:List (Nat × Nat))(hla:∀i,i∈la↔l.testBit i=true)(hlb:∀i,i∈lb↔r.testBit i=true)(hll:∀x,x∈ll↔s.testBit x.1=true/\onB l r x.2=true)(n1:la.Nodup)(n2:lb.Nodup)(h200:2+la.length+lb.length+ll.length<=300) :
 ∃w,runV (startW c s) (partSp ps::((la.map λi:Nat=>prefSp a i)++((lb.map λi:Nat=>prefSp b i)++(ll.map λx=>lieSp (valB l a b x.2) x.1 x.2)))++[tickSp])=(w,2+la.length+lb.length+ll.length,0)
  /\ checkW w=true/\w.trs=c.map (λm=>[m.t])/\w.ill=(s:Int)/\w.nodes.length=c.length/\(∀(i:Nat) p,w.nodes[i]?=some p->p.stopped=false)/\∃x y,divV w 1023=[x,y]/\¬x.val=y.val:=by
 have hS:=h.ok;have hl10:=h.hc.len.2;have hnl:∀i,r.testBit i=true->¬l.testBit i=true:=λi hi e=>by have:=h.dis i e;rw[hi] at this;cases this
 obtain⟨w,r1,hck,hlk,hg,hnode,hst⟩:=jrk h la lb ll hla hlb hll n1 n2 zo;have hd:doW w tickSp=ticksW 12 w:=jAm hck rfl (by show (1:Int)<=12/\(12:Int)<=200;omega);have hti:=jni 12 w (by rw[hlk.time];omega);obtain⟨K,N,h12⟩:=hlk.goI hS 12 zo
 have hlen:(partSp ps::((la.map λi:Nat=>prefSp a i)++((lb.map λi:Nat=>prefSp b i)++(ll.map λx=>lieSp (valB l a b x.2) x.1 x.2)))).length=1+la.length+lb.length+ll.length:=by
  simp only[qi,qm,qw];omega
 have hsk:∀i,i<c.length->s.testBit i=true->(tickI 12 w).nodes[i]?=w.nodes[i]?:=λi hi hs=>LK.sickI hS hs 12 hlk zo
 have hck12:checkW (tickI 12 w)=true:=h12.check hS zo h.s1 (jzK c) (λi hi hs=>by
  obtain⟨p,q1,q2,q3,q4⟩:=hnode i hi
  exact⟨p,by rw[hsk i hi hs];exact q1,q2,q3,q4⟩)
 have fl:Fin l (tickI 12 w):=h.decides hn4 hlk hg (A:=l) (v:=a) (λi hi=>⟨jbt.2 (.inl hi),by unfold grpB;rw[qf hi],by unfold valB;rw[qf hi]⟩) (λi j hi=>⟨λhh=>hh.elim (λe=>e.1) (λe=>qp hi (hnl i e.2)),λhj=>.inl ⟨hj,hi⟩⟩) hl (by
  obtain⟨y,hy⟩:=hr
  exact⟨y,jbt.2 (.inr hy),by
   cases e:l.testBit y with
   | false=>rfl
   | true=>exact qp e (hnl y hy)⟩) 12 zo
 have fr:Fin r (tickI 12 w):=h.decides hn4 hlk hg (A:=r) (v:=b) (λi hi=>⟨jbt.2 (.inr hi),by unfold grpB;rw[qe (hnl i hi)],by unfold valB;rw[qe (hnl i hi)]⟩) (λi j hi=>⟨λhh=>hh.elim (λe=>qp e.2 (hnl i hi)) (λe=>e.1),λhj=>.inr ⟨hj,hi⟩⟩) hr (by
  obtain⟨y,hy⟩:=hl
  exact⟨y,jbt.2 (.inl hy),h.dis y hy⟩) 12 zo
 obtain⟨i,hi,oi⟩:=h12.out_fin hck12 (λi hi=>h.on.2 (jbt.2 (.inl hi))) fl;obtain⟨j,hj,oj⟩:=h12.out_fin hck12 (λi hi=>h.on.2 (jbt.2 (.inr hi))) fr;have hvi:(splS c s l r a b ps).vv i=a:=by show valB l a b i=a;unfold valB;rw[qf hi]
 have hvj:(splS c s l r a b ps).vv j=b:=by show valB l a b j=b;unfold valB;rw[qe (hnl j hj)]
 rw[hvi] at oi;rw[hvj] at oj;have hi10:=(h.ql i hi).1;have hj10:=(h.qr j hj).1;have hbit:∀k:Nat,k<10->(1023:Int).toNat.testBit k=true:=by decide
 have hdv:divB 1023 ⟨(i:Int),1,a⟩ ⟨(j:Int),1,b⟩=true:=by
  unfold divB;show (((decide ((1:Int)=1)&&!decide (a=b))&&(1023:Int).toNat.testBit (i:Int).toNat)&&(1023:Int).toNat.testBit (j:Int).toNat)=true;rw[qz hab,qq,qq,hbit i zo,hbit j zo];rfl
 obtain⟨x,y,e1,e2,_⟩:=jne hdv (outcomes (tickI 12 w)) (λo ho=>by
  obtain⟨_,_,_,h2,_⟩:=h12.outs o ho
  exact h2) oi oj
 refine⟨tickI 12 w,?_,hck12,h12.trs,h12.il,h12.len,λk p hp=>?_,x,y,e1,?_⟩
 ·unfold runV
  rw[qe (by rw[qm,hlen,List.length_singleton];omega),je4 _ _ _ w 0 (by rw[r1,hlen,Nat.zero_add]),hlen,runGo,hd,hti,qe (by simp),runGo,show 0+(1+la.length+lb.length+ll.length)+1=2+la.length+lb.length+ll.length by omega]
 ·have hk:k<c.length:=by have:=(List.getElem?_eq_some_iff.1 hp).1;rw[h12.len] at this;exact this
  cases hs:s.testBit k with
  | true =>
   rw[hsk k hk hs] at hp;exact hst k p hk hp
  | false =>
   cases hac:(splS c s l r a b ps).act k with
   | true =>
    obtain⟨q,x,hq,z⟩:=h12.nd k ⟨hk,hs,hac⟩;rw[hp] at hq;cases hq;exact z.nl.stop
   | false =>
    obtain⟨q,hq,z,_⟩:=h12.no k hk hs hac;rw[hp] at hq;cases hq;exact z.2.1
 ·unfold divB at e2
  simp only[qh,qo,Bool.not_eq_true',decide_eq_false_iff_not] at e2;exact e2.1.1.2
end
end Go.Tq
