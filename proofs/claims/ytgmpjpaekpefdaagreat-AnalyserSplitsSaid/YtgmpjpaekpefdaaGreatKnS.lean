/- A machine with goroutines that own blocks: a starter, workers that each send one value, and what is held of them in whatever order they run. No condition beyond what each theorem says. -/
import Derived.Conc.Beside
import Derived.Conc.CrowdComm
import Derived.Conc.LeavingOf
/- A machine with goroutines that own blocks: a starter, workers that each send one value, and what is held of them in whatever order they run. No condition beyond what each theorem says. -/
namespace Go
theorem zo{p:Prop}(h:p:=by omega):p:=h
theorem zO{p:Prop}(h:p:=by with_reducible assumption):p:=h
theorem zd{p:Prop}(h:p:=by decide):p:=h
theorem za{α:Type}{a:α}{l:List α}:a∈a::l:=List.mem_cons_self ..
theorem ze{α:Type}{l:List α}{i:Nat}(h:i<l.length):l[i]?=some l[i]:=List.getElem?_eq_getElem h
theorem zf{α:Type}{a b:α}{l:List α}(h:a∈b::l):a=b∨a∈l:=List.mem_cons.1 h
theorem zg{α:Type}{l:Array α}{i:Nat}{a:α}(h:i<l.size):(l.setIfInBounds i a)[i]?=some a:=Array.getElem?_setIfInBounds_self_of_lt h
theorem zh{α:Type}{l:Array α}{i j:Nat}(h:i≠j){a:α}:(l.setIfInBounds i a)[j]?=l[j]?:=Array.getElem?_setIfInBounds_ne h
theorem zi{p:Prop}(h:¬p->False):p:=Classical.byContradiction h
theorem zk{α:Type}{a:α}{s t:List α}(h:a∈s++t):a∈s∨a∈t:=List.mem_append.1 h
theorem zl{α:Type}{a b:α}(h:a∈[b]):a=b:=List.mem_singleton.1 h
end Go
namespace Go
theorem qc{p:Prop}[Decidable p](h:decide p=true):p:=of_decide_eq_true h
theorem qd{p:Prop}[Decidable p](h:decide p=false):¬p:=of_decide_eq_false h
theorem qe{c:Prop}{h:Decidable c}(n:¬c){α:Type}{t e:α}:ite c t e=e:=if_neg n
theorem qf{c:Prop}{h:Decidable c}(n:c){α:Type}{t e:α}:ite c t e=t:=if_pos n
theorem qg{p:Prop}[h:Decidable p](n:p):decide p=true:=decide_eq_true n
theorem qh(a b:Bool):((a&&b)=true)=(a=true/\b=true):=Bool.and_eq_true a b
theorem qi{α:Type}{a:α}{l:List α}:(a::l).length=l.length+1:=List.length_cons
theorem qj{α:Type}(y:α){a:α}{l:List α}(h:a∈l):a∈y::l:=List.mem_cons_of_mem y h
theorem qk{α:Type}{l:List α}{i:Nat}{a:α}(h:l[i]?=some a):a∈l:=List.mem_of_getElem? h
theorem qm{α:Type}{a l:List α}:(a++l).length=a.length+l.length:=List.length_append
theorem qo{p:Prop}[Decidable p]:(decide p=true)=p:=decide_eq_true_eq
theorem qp{a b:Prop}(h:a)(n:¬a):b:=absurd h n
theorem qq(n:Nat):(n:Int).toNat=n:=Int.toNat_natCast n
theorem qs{α:Type}(a b:α):(some a=some b)=(a=b):=Option.some.injEq a b
theorem qu{α:Type}:([]:List α).length=0:=List.length_nil
theorem qv{α:Type}{a:α}:¬a∈([]:List α):=List.not_mem_nil
theorem qw{α β:Type}{l:List α}(f:α->β):(l.map f).length=l.length:=List.length_map f
theorem qx(b:Bool):(true&&b)=b:=Bool.true_and b
theorem qy(b:Bool):(false&&b)=false:=Bool.false_and b
theorem qz{p:Prop}[h:Decidable p](n:¬p):decide p=false:=decide_eq_false n
theorem qA{a b c:Nat}(h:a<b)(k:b<=c):a<c:=Nat.lt_of_lt_of_le h k
theorem qB(b:Bool):(b&&false)=false:=Bool.and_false b
theorem qC{α:Type}{i:Nat}{l:List α}(h:l.length<=i):l.take i=l:=List.take_of_length_le h
theorem qD{a:Int}(h:0<=a):∃n:Nat,a=n:=Int.eq_ofNat_of_zero_le h
end Go
namespace Go.Fan
open Go.Conc
set_option linter.unusedVariables false
set_option linter.unusedSimpArgs false
variable{g g' g0:Goroutine}{es:Array Event}{c j k n:Nat}{Xi Oi O0 X0:Nat->Prop}{fn fa fb:FuncId}{pos pa pb:String}{w w0:World}{t u:Trace}{v:Value}{pd:List Value}
structure Rely(X:Nat->Prop)(w:World)(X₁:Nat->Prop)(w₁:World):Prop where
 tape:w₁.tape=w.tape
 os:w₁.os=w.os
 output:w₁.output=w.output
 size:w.heap.size<=w₁.heap.size
 block:∀b,b<w.heap.size->¬X b->w₁.heap[b]?=w.heap[b]?
 iff:∀b,X₁ b↔X b\/(w.heap.size<=b/\b<w₁.heap.size)
theorem Rely.refl(X:Nat->Prop)(w:World):Rely X w X w:=⟨rfl,rfl,rfl,Nat.le_refl _,λ_ _ _=>rfl,λb=>⟨.inl,λh=>h.elim id (λh=>by omega)⟩⟩
theorem Rely.trans{X X₁ X₂:Nat->Prop}{w w₁ w₂:World}(h:Rely X w X₁ w₁)(k:Rely X₁ w₁ X₂ w₂):Rely X w X₂ w₂:=by
 refine⟨k.tape.trans h.tape,k.os.trans h.os,k.output.trans h.output,Nat.le_trans h.size k.size,λb hb hx=>?_,λb=>?_⟩
 ·refine(k.block b (qA hb h.size) (λhx1=>?_)).trans (h.block b hb hx)
  rcases(h.iff b).1 hx1 with h' | h'
  ·exact hx h'
  ·omega
 ·have:=h.size;have:=k.size
  rw[k.iff,h.iff];constructor
  ·rintro((h' | h') | h')
   ·exact .inl h'
   ·exact .inr ⟨h'.1,by omega⟩
   ·exact .inr ⟨by omega,h'.2⟩
  ·rintro(h' | h')
   ·exact .inl (.inl h')
   ·by_cases h1:b<w₁.heap.size
    ·exact .inl (.inr ⟨h'.1,h1⟩)
    ·exact .inr ⟨by omega,h'.2⟩
theorem Rely.at(X:Nat->Prop)(w:World)(d:Nat):Rely X w X (w.at d) :=
 ⟨rfl,rfl,rfl,Nat.le_refl _,λ_ _ _=>rfl,λb=>⟨.inl,λh=>h.elim id (λh=>by have e:(w.at d).heap.size=w.heap.size:=rfl;omega)⟩⟩
def Ok(O X:Nat->Prop)(s s':Nat)(e:Event):Prop :=
 (∃a,e.loc=.cell a/\a.block<s'/\¬X a.block/\(e.write=true->O a.block\/s<=a.block))\/∃m,e=⟨.mark m,false,true⟩/\Neutral m
structure Guar(O X:Nat->Prop)(w w':World)(es:Array Event):Prop where
 tape:w'.tape=w.tape
 os:w'.os=w.os
 output:w'.output=w.output
 size:w.heap.size<=w'.heap.size
 block:∀b,b<w.heap.size->¬O b->w'.heap[b]?=w.heap[b]?
 evs:∀e∈es,Ok O X w.heap.size w'.heap.size e
def grow(O:Nat->Prop)(s s':Nat):Nat->Prop:=λb=>O b\/(s<=b/\b<s')
theorem Guar.idle(O X:Nat->Prop)(w:World):Guar O X w w #[]:=⟨rfl,rfl,rfl,Nat.le_refl _,λ_ _ _=>rfl,by simp⟩
theorem jbm(O:Nat->Prop)(s:Nat):grow O s s=O:=by
 funext b;simp only[grow,eq_iff_iff];exact⟨λh=>h.elim id (λh=>by omega),.inl⟩
inductive GoW(P:Program)(c:Nat)(v:Value):(Nat->Prop)->(Nat->Prop)->Goroutine->World->Prop
 | step {O X:Nat->Prop} {g:Goroutine} {w:World} (hs:g.status=.running)
  (hgo:∀X₁ w₁,Rely X w X₁ w₁->∃g' w' es,stepG P false g w₁=.go g' w' es/\Guar O X₁ w₁ w' es)
  (h:∀X₁ w₁ g' w' es,Rely X w X₁ w₁->stepG P false g w₁=.go g' w' es->GoW P c v (grow O w₁.heap.size w'.heap.size) X₁ g' w'):GoW P c v O X g w
 | send {O X:Nat->Prop} {g:Goroutine} {w:World} (hs:g.status=.running)
  (h:∀X₁ w₁,Rely X w X₁ w₁->∃g₂ z es,stepG P false g w₁=.comm g₂ #[scase c v z] true .send w₁ es/\(∀e∈es,Ok O X₁ w₁.heap.size w₁.heap.size e)/\∃q,QuitsIn P q (Go.Conc.served g₂ undef)):GoW P c v O X g w
inductive GoM(P:Program)(Post:Value->World->Prop):Option (Nat × List Value)->(Nat->Prop)->(Nat->Prop)->Goroutine->World->Prop
 | step {s:Option (Nat × List Value)} {O X:Nat->Prop} {g:Goroutine} {w:World} (hs:g.status=.running)
  (hgo:∀X₁ w₁,Rely X w X₁ w₁->∃g' w' es,stepG P true g w₁=.go g' w' es/\Guar O X₁ w₁ w' es)
  (h:∀X₁ w₁ g' w' es,Rely X w X₁ w₁->stepG P true g w₁=.go g' w' es->GoM P Post s (grow O w₁.heap.size w'.heap.size) X₁ g' w'):GoM P Post s O X g w
 | done {O X:Nat->Prop} {g:Goroutine} {w:World} (hs:g.status=.running)
  (h:∀X₁ w₁,Rely X w X₁ w₁->∃v es,stepG P true g w₁=.ended (.done v) w₁ es/\(∀e∈es,Ok O X₁ w₁.heap.size w₁.heap.size e)/\Post v w₁):GoM P Post none O X g w
 | chan {O X:Nat->Prop} {g:Goroutine} {w:World} (c:Nat) (hc:O c) (hX:¬X c) (hch:w.heap[c]?=some (.chan 0 #[] false 0 0 false))
  (h:GoM P Post (some (c,[])) (λb=>O b/\b≠c) (λb=>X b\/b=c) g w):GoM P Post none O X g w
 | close {O X:Nat->Prop} {g:Goroutine} {w:World} {c:Nat} (h:GoM P Post none O X g w):GoM P Post (some (c,[])) O X g w
 | spawn {O X:Nat->Prop} {g:Goroutine} {w:World} {c:Nat} {pd:List Value} (v:Value) (O':Nat->Prop) (hO:∀b,O' b->O b) (hs:g.status=.running)
  (hgo:∀X₁ w₁,Rely X w X₁ w₁->∃g' child es,stepG P true g w₁=.spawn g' child w₁ es/\(∀e∈es,Ok O X₁ w₁.heap.size w₁.heap.size e)/\GoW P c v (λ_=>False) (λb=>O' b\/X₁ b) child w₁)
  (h:∀X₁ w₁ g' child es,Rely X w X₁ w₁->stepG P true g w₁=.spawn g' child w₁ es->GoM P Post (some (c,v::pd)) O' X₁ g' w₁):GoM P Post (some (c,pd)) O X g w
 | recv {O X:Nat->Prop} {g:Goroutine} {w:World} {c:Nat} {pd:List Value} (hne:pd≠[]) (hs:g.status=.running)
  (hgo:∀X₁ w₁,Rely X w X₁ w₁->∃g₂ z es,stepG P true g w₁=.comm g₂ #[rcase c z] true (.recv false) w₁ es/\(∀e∈es,Ok O X₁ w₁.heap.size w₁.heap.size e))
  (h:∀X₁ w₁ g₂ z es l₁ v l₂,Rely X w X₁ w₁->stepG P true g w₁=.comm g₂ #[rcase c z] true (.recv false) w₁ es->pd=l₁++v::l₂->GoM P Post (some (c,l₁++l₂)) O X₁ (Go.Conc.served g₂ v) w₁):GoM P Post (some (c,pd)) O X g w
variable{P:Program}{c:Nat}{v:Value}
theorem GoW.rely{O X X₁:Nat->Prop}{w w₁:World}(h:GoW P c v O X g w)(hr:Rely X w X₁ w₁):GoW P c v O X₁ g w₁:=by
 cases h with
 | step hs hgo h=>exact .step hs (λX₂ w₂ h₂=>hgo X₂ w₂ (hr.trans h₂)) (λX₂ w₂ g' w' es h₂=>h X₂ w₂ g' w' es (hr.trans h₂))
 | send hs h=>exact .send hs (λX₂ w₂ h₂=>h X₂ w₂ (hr.trans h₂))
structure St where
 O:Nat->Prop
 X:Nat->Prop
 g:Goroutine
 w:World
def Succ(P:Program)(s' s:St):Prop :=
 ∃X₁ w₁ es,Rely s.X s.w X₁ w₁/\stepG P false s.g w₁=.go s'.g s'.w es/\s'.X=X₁/\s'.O=grow s.O w₁.heap.size s'.w.heap.size
theorem GoW.acc{O X:Nat->Prop}(h:GoW P c v O X g w):Acc (Succ P) ⟨O,X,g,w⟩:=by
 induction h with
 | step hs hgo h ih =>
  refine⟨_,λs' ⟨X₁,w₁,es,h1,h2,h3,h4⟩=>?_⟩;have:=ih X₁ w₁ s'.g s'.w es h1 h2;rw[<-h3,<-h4] at this;exact this
 | send hs h =>
  refine⟨_,λs' ⟨X₁,w₁,es,h1,h2,h3,h4⟩=>?_⟩;obtain⟨g₂,z,es',k,_⟩:=h X₁ w₁ h1;simp only at h2;rw[k] at h2;cases h2
inductive Rk where
 | work (s:St)
 | park
 | left (q:Nat)
inductive RLt(P:Program):Rk->Rk->Prop
 | work {s' s} (h:Succ P s' s):RLt P (.work s') (.work s)
 | parkw {s}:RLt P .park (.work s)
 | leftw {q s}:RLt P (.left q) (.work s)
 | leftp {q}:RLt P (.left q) .park
 | left {q q'} (h:q<q'):RLt P (.left q) (.left q')
theorem jgr(P:Program)(q:Nat):Acc (RLt P) (.left q):=by
 induction q using Nat.strongRecOn with
 | _ q ih=>exact⟨_,λy hy=>by cases hy with | left h=>exact ih _ h⟩
theorem jnt(P:Program):Acc (RLt P) .park:=⟨_,λy hy=>by cases hy with | leftp=>exact jgr P _⟩
theorem juo{s:St}(h:Acc (Succ P) s):Acc (RLt P) (.work s):=by
 induction h with
 | intro s _ ih =>
  refine⟨_,λy hy=>?_⟩;cases hy with
  | work h=>exact ih _ h
  | parkw=>exact jnt P
  | leftw=>exact jgr P _
inductive One{α:Type}(r:α->α->Prop):List α->List α->Prop
 | head {x y l} (h:r y x):One r (y::l) (x::l)
 | tail {x l' l} (h:One r l' l):One r (x::l') (x::l)
theorem ju9{α:Type}{r:α->α->Prop}{x:α}(hx:Acc r x):∀{l:List α},Acc (One r) l->Acc (One r) (x::l):=by
 induction hx with
 | intro x hx ihx =>
  intro l hl
  induction hl with
  | intro l hl ihl =>
   refine⟨_,λy hy=>?_⟩;cases hy with
   | head h=>exact ihx _ h ⟨l,hl⟩
   | tail h=>exact ihl _ h
theorem jnL{α:Type}{r:α->α->Prop}:∀{l:List α},(∀x∈l,Acc r x)->Acc (One r) l
 | [],_=>⟨_,λy hy=>by cases hy⟩
 | x::l,h=>ju9 (h x (by simp)) (jnL λy hy=>h y (by simp[hy]))
theorem One.set{α:Type}{r:α->α->Prop}:∀{l:List α}{i:Nat}{x y:α},l[i]?=some x->r y x->One r (l.set i y) l
 | [],i,x,y,h,_=>by simp at h
 | a::l,0,x,y,h,hr=>by simp only[List.getElem?_cons_zero,qs] at h;subst h;exact .head hr
 | a::l,i+1,x,y,h,hr=>by simp only[List.getElem?_cons_succ] at h;exact .tail (One.set h hr)
structure Tr(act:Nat->Prop)(O X:Nat->Nat->Prop)(s:Nat)(t:Trace):Prop where
 dis:∀i b,act i->O i b->¬X i b
 olt:∀i b,act i->O i b->b<s
 xlt:∀i b,act i->X i b->b<s
 cross:∀i j b,act i->act j->i≠j->O i b->X j b
 clean:∀said,¬Race said t
 wordless:Wordless t
 low:∀k x,touchAt t k=some x->∃a,x.loc=.cell a/\a.block<s
 knowO:∀i b,act i->O i b->∀k x a,touchAt t k=some x->x.loc=.cell a->a.block=b->Knows t i k
 knowX:∀i b,act i->¬X i b->∀k x a,touchAt t k=some x->x.write=true->x.loc=.cell a->a.block=b->Knows t i k
theorem ja9{x:Touch}(h:touchAt (t++u) k=some x):touchAt t k=some x\/∃op,(t++u)[k]?=some op/\op∈u/\op.act.touch?=some x:=by
 obtain⟨op,ho,hx⟩:=touch_of h;rcases getElem?_append_cases ho with⟨_,h'⟩ | ⟨_,h'⟩
 ·exact .inl (by rw[touchAt_of h'];exact hx)
 ·exact .inr ⟨op,ho,h',hx⟩
theorem jmz{said:Bool}(h:¬Race said t)(hu:∀op∈u,op.act.touch?=none):¬Race said (t++u):=by
 rintro⟨i,j,hij,⟨a,b,ha,hb,hc⟩,n1,n2⟩
 have h1:touchAt t i=some a:=by
  rcases ja9 (u:=u) ha with h' | ⟨op,_,hm,hx⟩
  ·exact h'
  ·rw[hu op hm] at hx;cases hx
 have h2:touchAt t j=some b:=by
  rcases ja9 (u:=u) hb with h' | ⟨op,_,hm,hx⟩
  ·exact h'
  ·rw[hu op hm] at hx;cases hx
 exact h ⟨i,j,hij,⟨a,b,h1,h2,hc⟩,λe=>n1 (hb_app u e),λe=>n2 (hb_app u e)⟩
variable{act:Nat->Prop}{O X:Nat->Nat->Prop}{s:Nat}{t u:Trace}
theorem Tr.mute(h:Tr act O X s t)(hu:∀op∈u,op.act.touch?=none)(hw:Wordless u):Tr act O X s (t++u):=by
 have old:∀k x,touchAt (t++u) k=some x->touchAt t k=some x:=λk x hx=>by
  rcases ja9 hx with h' | ⟨op,_,hm,hx⟩
  ·exact h'
  ·rw[hu op hm] at hx;cases hx
 exact⟨h.dis,h.olt,h.xlt,h.cross,λsaid=>jmz (h.clean said) hu,h.wordless.append hw,λk x hx=>h.low k x (old k x hx),
  λi b hi hb k x a hx hl e=>(h.knowO i b hi hb k x a (old k x hx) hl e).app u,λi b hi hb k x a hx hwr hl e=>(h.knowX i b hi hb k x a (old k x hx) hwr hl e).app u⟩
theorem Tr.fewer{act':Nat->Prop}(h:Tr act O X s t)(ha:∀i,act' i->act i):Tr act' O X s t :=
 ⟨λi b hi=>h.dis i b (ha i hi),λi b hi=>h.olt i b (ha i hi),λi b hi=>h.xlt i b (ha i hi),λi j b hi hj=>h.cross i j b (ha i hi) (ha j hj),h.clean,h.wordless,h.low,
  λi b hi=>h.knowO i b (ha i hi),λi b hi=>h.knowX i b (ha i hi)⟩
theorem jjk{m:Mark}(h:Neutral m):(MemAct.ofEvent ⟨.mark m,false,true⟩).touch?=none:=h.touch
theorem jn3{s s':Nat}(hes:∀e∈es,Ok Oi Xi s s' e){g:Nat}{op:MemOp}(hop:op∈MemOp.ofEvents g fn pos es) :
 op.g=g/\∀x,op.act.touch?=some x->∃a,x.loc=.cell a/\a.block<s'/\¬Xi a.block/\(x.write=true->Oi a.block\/s<=a.block):=by
 obtain⟨e,he,rfl⟩:=Go.Conc.mem_ofEvents hop;rcases hes e he with⟨a,hl,h1,h2,h3⟩ | ⟨m,rfl,hm⟩
 ·obtain⟨l,wr,sy⟩:=e
  simp only at hl;subst hl;exact⟨rfl,λx hx=>by rw[ofEvent_cell0] at hx;simp only[MemAct.touch?,qs] at hx;subst hx;exact⟨a,rfl,h1,h2,h3⟩⟩
 ·exact⟨rfl,λx hx=>by rw[jjk hm] at hx;cases hx⟩
theorem jml{s s':Nat}(hes:∀e∈es,Ok Oi Xi s s' e){g:Nat}:Wordless (MemOp.ofEvents g fn pos es):=by
 intro op hop m hm;obtain⟨e,he,rfl⟩:=Go.Conc.mem_ofEvents hop;rcases hes e he with⟨a',hl,_⟩ | ⟨m',rfl,hm'⟩
 ·obtain⟨l,wr,sy⟩:=e
  simp only at hl;subst hl;simp only[ofEvent_cell0] at hm;cases hm
 ·have:MemAct.mark m'=MemAct.mark m:=hm
  injection this with this;exact this ▸ hm'
open Classical in
theorem Tr.own{i:Nat}(h:Tr act O X s t)(hi:act i){s':Nat}(hs:s<=s')(hes:∀e∈es,Ok (O i) (X i) s s' e) :
 Tr act (λj=>if j=i then grow (O i) s s' else O j) (λj=>if j=i then X i else grow (X j) s s') s' (t++MemOp.ofEvents i fn pos es):=by
 have tch:=λ(op:MemOp)(hop:op∈MemOp.ofEvents i fn pos es)=>jn3 hes hop
 have own:∀(k:Nat)(op:MemOp),(t++MemOp.ofEvents i fn pos es)[k]?=some op->op∈MemOp.ofEvents i fn pos es->Knows (t++MemOp.ofEvents i fn pos es) i k:=λk op ho hop=>by
  have:=knows_own ho
  rwa [(tch op hop).1] at this
 refine⟨λj b hj hb=>?_,λj b hj hb=>?_,λj b hj hb=>?_,λj l b hj hl hne hb=>?_,λsaid=>?_,h.wordless.append (jml hes),λk x hx=>?_,λj b hj hb k x a hx hl e=>?_,λj b hj hb k x a hx hwr hl e=>?_⟩
 ·by_cases e:j=i
  ·subst e
   simp only[if_true] at hb ⊢;rcases hb with hb | hb
   ·exact h.dis j b hj hb
   ·intro hx;have:=h.xlt j b hj hx;omega
  ·simp only[qe e] at hb ⊢
   rintro(hx | hx)
   ·exact h.dis j b hj hb hx
   ·have:=h.olt j b hj hb;omega
 ·by_cases e:j=i
  ·subst e
   simp only[if_true] at hb;rcases hb with hb | hb
   ·exact qA (h.olt j b hj hb) hs
   ·exact hb.2
  ·simp only[qe e] at hb
   exact qA (h.olt j b hj hb) hs
 ·by_cases e:j=i
  ·subst e
   simp only[if_true] at hb;exact qA (h.xlt j b hj hb) hs
  ·simp only[qe e] at hb
   rcases hb with hb | hb
   ·exact qA (h.xlt j b hj hb) hs
   ·exact hb.2
 ·by_cases e:j=i
  ·subst e
   have e2:¬l=j:=λe=>hne e.symm;simp only[if_true] at hb;simp only[qe e2];rcases hb with hb | hb
   ·exact .inl (h.cross j l b hj hl hne hb)
   ·exact .inr hb
  ·simp only[qe e] at hb
   by_cases e2:l=i
   ·subst e2;simp only[if_true];exact h.cross j l b hj hl hne hb
   ·simp only[qe e2];exact .inl (h.cross j l b hj hl hne hb)
 ·refine noRace_append (h.clean said) (λop hop=>(tch op hop).1) λk a ha op hop b hb hc=>?_
  obtain⟨ad,h1,h2,h3,h4⟩:=(tch op hop).2 _ hb;obtain⟨hloc,_,hw,_⟩:=hc;rw[h1] at hloc
  by_cases hw1:a.write=true
  ·exact h.knowX i ad.block hi h3 k a ad ha hw1 hloc rfl
  ·have hwr:b.write=true:=hw.elim (λx=>qp x hw1) id
   rcases h4 hwr with ho | ho
   ·exact h.knowO i ad.block hi ho k a ad ha hloc rfl
   ·obtain⟨a',e1,e2⟩:=h.low k a ha
    rw[hloc] at e1;cases e1;omega
 ·rcases ja9 hx with h' | ⟨op,_,hm,hx⟩
  ·obtain⟨a,e1,e2⟩:=h.low k x h'
   exact⟨a,e1,qA e2 hs⟩
  ·obtain⟨ad,h1,h2,_⟩:=(tch op hm).2 _ hx
   exact⟨ad,h1,h2⟩
 ·rcases ja9 hx with h' | ⟨op,ho,hm,hx⟩
  ·by_cases ej:j=i
   ·subst ej
    simp only[if_true] at hb;rcases hb with hb | hb
    ·exact(h.knowO j b hj hb k x a h' hl e).app _
    ·obtain⟨a',e1,e2⟩:=h.low k x h'
     rw[hl] at e1;cases e1;omega
   ·simp only[qe ej] at hb
    exact(h.knowO j b hj hb k x a h' hl e).app _
  ·obtain⟨ad,h1,h2,h3,h4⟩:=(tch op hm).2 _ hx
   rw[h1] at hl;cases hl
   by_cases ej:j=i
   ·subst ej;exact own k op ho hm
   ·simp only[qe ej] at hb
    subst e;exact qp (h.cross j i _ hj hi ej hb) h3
 ·rcases ja9 hx with h' | ⟨op,ho,hm,hx⟩
  ·obtain⟨a',e1,e2⟩:=h.low k x h'
   rw[hl] at e1;cases e1
   by_cases ej:j=i
   ·subst ej
    simp only[if_true] at hb;exact(h.knowX j b hj hb k x a h' hwr hl e).app _
   ·simp only[qe ej] at hb
    exact(h.knowX j b hj (λhx=>hb (.inl hx)) k x a h' hwr hl e).app _
  ·obtain⟨ad,h1,h2,h3,h4⟩:=(tch op hm).2 _ hx
   rw[h1] at hl;cases hl;subst e
   by_cases ej:j=i
   ·subst ej;exact own k op ho hm
   ·simp only[qe ej] at hb
    exfalso;apply hb;rcases h4 hwr with ho' | ho'
    ·exact .inl (h.cross i j _ hi hj (λe=>ej e.symm) ho')
    ·exact .inr ⟨ho',h2⟩
theorem jhP{i g g':Nat}{y z:MemOp}{p q:Nat}(h:Knows t g i)(hp:t.size<=p)(hy:(t++u)[p]?=some y)(hg:y.g=g)(hz:(t++u)[q]?=some z)(hg':z.g=g')(hn:HappensBefore (t++u) p q):Knows (t++u) g' i :=
 ⟨q,z,hz,hg',.inr ((h.hb_new hp hy hg).trans hn)⟩
open Go.ConcN (upd upd_ne upd_same)
inductive Wk where
 | work (v:Value) (s:St)
 | park (v:Value)
 | gone (q:Nat)
variable{wk':Nat->Wk}
def Wk.val:Wk->Value
 | .work v _=>v
 | .park v=>v
 | .gone _=>undef
def Wk.rk:Wk->Rk
 | .work _ s=>.work s
 | .park _=>.park
 | .gone q=>.left q
abbrev Wk.Gone(x:Wk):Prop:=∃q,x=.gone q
abbrev Wk.Work(x:Wk):Prop:=∃v s,x=.work v s
def WkOk(P:Program)(c:Nat)(w:World)(O X:Nat->Prop)(g:Goroutine):Wk->Prop
 | .work v s=>s.g=g/\s.O=O/\Rely s.X s.w X w/\GoW P c v s.O s.X s.g s.w
 | .park v=>∃g₂ z q,g=parked g₂ #[scase c v z] .send/\QuitsIn P q (Go.Conc.served g₂ undef)
 | .gone q=>QuitsIn P q g
def cOf:Option (Nat × List Value)->Nat
 | none=>0
 | some (c,_)=>c
def pdOf:Option (Nat × List Value)->List Value
 | none=>[]
 | some (_,pd)=>pd
def Act(gs:Array Goroutine)(wk:Nat->Wk)(i:Nat):Prop:=i=0\/(i<gs.size/\(wk i).Work)
structure Conf(P:Program)(s:Option (Nat × List Value))(gs:Array Goroutine)(w:World)(t:Trace)(O X:Nat->Nat->Prop)(wk:Nat->Wk):Prop where
 tr:Tr (Act gs wk) O X w.heap.size t
 wok:∀i g,0<i->gs[i]?=some g->WkOk P (cOf s) w (O i) (X i) g (wk i)
 pend:∃live:List Nat,live.Nodup/\(∀i,i∈live↔0<i/\i<gs.size/\¬(wk i).Gone)/\pdOf s=live.map (λi=>(wk i).val)
 chan:∀c pd,s=some (c,pd)->(∃k,w.heap[c]?=some (.chan 0 #[] false k k false))/\∀i,Act gs wk i->X i c
 handed:∀k x op,touchAt t k=some x->t[k]?=some op->op.g≠0->(op.g<gs.size/\¬(wk op.g).Gone)\/Knows t 0 k
def MainAt(s:Option (Nat × List Value))(g:Goroutine):Prop :=
 g.status=.running\/∃g₂ z c pd,s=some (c,pd)/\g=parked g₂ #[rcase c z] (.recv false)
variable{P:Program}{s:Option (Nat × List Value)}{gs:Array Goroutine}{w w':World}{t:Trace}{O X:Nat->Nat->Prop}{wk:Nat->Wk}
theorem jdu{Xj:Nat->Prop}(h:Guar Oi Xi w w' es)(hc:∀b,Oi b->Xj b):Rely Xj w (grow Xj w.heap.size w'.heap.size) w' :=
 ⟨h.tape,h.os,h.output,h.size,λb hb hx=>h.block b hb (λho=>hx (hc b ho)),λb=>Iff.rfl⟩
theorem GoW.run{O X:Nat->Prop}(h:GoW P c v O X g w):g.status=.running:=by cases h<;>assumption
theorem WkOk.still{x:Goroutine}{k:Wk}(h:WkOk P c w Oi Xi x k)(hc:(∃k,w'.heap[c]?=some (.chan 0 #[] false k k false))\/k.Gone):woken P g g' w' x=x:=by
 cases k with
 | work v s =>
  obtain⟨rfl,_,_,h⟩:=h;exact woken_run h.run
 | park v =>
  obtain⟨g₂,z,q,rfl,_⟩:=h;rcases hc with⟨k,hk⟩ | ⟨q,hq⟩
  ·exact woken_send_open _ _ hk
  ·cases hq
 | gone q=>exact woken_quits h
theorem Conf.gone_of_none(C:Conf P none gs w t O X wk){i:Nat}(hi:0<i)(hlt:i<gs.size):(wk i).Gone:=by
 obtain⟨live,_,h2,h3⟩:=C.pend;have:live=[]:=by simpa[pdOf] using h3.symm
 apply zi;intro hn;have:=(h2 i).2 ⟨hi,hlt,hn⟩;subst ‹live=[]›;cases this
theorem Conf.still(C:Conf P s gs w t O X wk)(h0:gs[0]?=some g0)(hm:MainAt s g0)(hc:∀c pd,s=some (c,pd)->∃k,w'.heap[c]?=some (.chan 0 #[] false k k false)){x:Goroutine}(hx:gs[j]?=some x):woken P g g' w' x=x:=by
 rcases Nat.eq_zero_or_pos j with rfl | hj
 ·rw[h0] at hx
  cases hx;rcases hm with h | ⟨g₂,z,c,pd,hs,rfl⟩
  ·exact woken_run h
  ·obtain⟨k,hk⟩:=hc c pd hs
   exact woken_recv_open _ _ hk
 ·have hlt:=(Array.getElem?_eq_some_iff.1 hx).1
  cases s with
  | none=>exact(C.wok j x hj hx).still (.inr (C.gone_of_none hj hlt))
  | some cp=>exact(C.wok j x hj hx).still (.inl (hc cp.1 cp.2 rfl))
theorem Conf.gs_go(C:Conf P s gs w t O X wk)(h0:gs[0]?=some g0)(hm:MainAt s g0)(hc:∀c pd,s=some (c,pd)->∃k,w'.heap[c]?=some (.chan 0 #[] false k k false))(i:Nat) :
 (gs.map (woken P g g' w')).setIfInBounds i g'=gs.setIfInBounds i g':=by
 apply Array.ext_getElem?;intro j
 by_cases hj:i=j
 ·subst hj
  by_cases hlt:i<gs.size
  ·rw[zg (by simpa using hlt),zg hlt]
  ·rw[Array.getElem?_eq_none (by simpa using hlt),Array.getElem?_eq_none (by simpa using hlt)]
 ·rw[zh hj,zh hj,Array.getElem?_map]
  cases hx:gs[j]? with
  | none=>rfl
  | some x=>simp[C.still h0 hm hc hx]
theorem Conf.chan_of(C:Conf P s gs w t O X wk){i:Nat}(hi:Act gs wk i)(hG:Guar (O i) (X i) w w' es):∀c pd,s=some (c,pd)->∃k,w'.heap[c]?=some (.chan 0 #[] false k k false):=by
 intro c pd hs;obtain⟨⟨k,hk⟩,hx⟩:=C.chan c pd hs;have hlt:c<w.heap.size:=(Array.getElem?_eq_some_iff.1 hk).1;exact⟨k,by rw[hG.block c hlt (λho=>C.tr.dis i c hi ho (hx i hi))];exact hk⟩
theorem mem_getElem?{α:Type}{a:Array α}{x:α}(h:x∈a):∃i:Nat,a[i]?=some x:=by
 obtain⟨i,hi,rfl⟩:=Array.mem_iff_getElem.1 h;exact⟨i,Array.getElem?_eq_getElem hi⟩
theorem Conf.awake(C:Conf P s gs w t O X wk)(h0:gs[0]?=some g0)(hm:MainAt s g0):∀g∈gs,awake g:=by
 intro g hg;obtain⟨i,hi⟩:=mem_getElem? hg;rcases Nat.eq_zero_or_pos i with rfl | hpos
 ·rw[h0] at hi;cases hi
  rcases hm with h | ⟨g₂,z,c,pd,hs,rfl⟩
  ·exact awake_of (.inl h)
  ·exact awake_of (.inr (.inl rfl))
 ·have h:=C.wok i g hpos hi
  cases hk:wk i with
  | work v s=>rw[hk] at h;obtain⟨rfl,_,_,h⟩:=h;exact awake_of (.inl h.run)
  | park v=>rw[hk] at h;obtain⟨g₂,z,q,rfl,_⟩:=h;exact awake_of (.inr (.inl rfl))
  | gone q=>rw[hk] at h;exact awake_of (h.status.elim .inl λx=>.inr (.inr x))
theorem Conf.goStep(C:Conf P s gs w t O X wk)(h0:gs[0]?=some g0)(hm:MainAt s g0){i:Nat}{g:Goroutine}(hi:Act gs wk i)(hlt:i<gs.size)(hG:Guar (O i) (X i) w w' es) 
 (f1:∀j,j≠i->wk' j=wk j) (f2:(wk' i).Work->(wk i).Work) (f3:(wk' i).Gone↔(wk i).Gone) (f5:(wk' i).val=(wk i).val) (f4:0<i->WkOk P (cOf s) w' (grow (O i) w.heap.size w'.heap.size) (X i) g' (wk' i)) :
 Conf P s (gs.setIfInBounds i g') w' (t++MemOp.ofEvents i fn pos es) (λj=>if j=i then grow (O i) w.heap.size w'.heap.size else O j) (λj=>if j=i then X i else grow (X j) w.heap.size w'.heap.size) wk':=by
 have hsz:(gs.setIfInBounds i g').size=gs.size:=by simp
 have eAct:∀j,Act (gs.setIfInBounds i g') wk' j->Act gs wk j:=by
  intro j;unfold Act;rw[hsz]
  by_cases e:j=i
  ·subst e;exact λh=>h.imp id (λh=>⟨h.1,f2 h.2⟩)
  ·rw[f1 j e];exact id
 have eGone:∀j,(wk' j).Gone↔(wk j).Gone:=λj=>by
  by_cases e:j=i
  ·subst e;exact f3
  ·rw[f1 j e]
 have eVal:∀j,(wk' j).val=(wk j).val:=λj=>by
  by_cases e:j=i
  ·subst e;exact f5
  ·rw[f1 j e]
 have hT:=C.tr.own hi hG.size (fn:=fn) (pos:=pos) hG.evs;refine⟨hT.fewer (λj hj=>eAct j hj),λj x hj hx=>?_,?_,λc pd hs=>⟨C.chan_of hi hG c pd hs,λj hj=>?_⟩,λk x op hx ho hg=>?_⟩
 ·by_cases e:j=i
  ·subst e
   rw[zg hlt] at hx;cases hx;simp only[if_true];exact f4 hj
  ·rw[zh (λh=>e h.symm)] at hx
   simp only[qe e];rw[f1 j e];have hw:=C.wok j x hj hx;cases hk:wk j with
   | work v sa =>
    rw[hk] at hw;obtain⟨h1,h2,h3,h4⟩:=hw;have hjl:=(Array.getElem?_eq_some_iff.1 hx).1;exact⟨h1,h2,h3.trans (jdu hG (λb hb=>C.tr.cross i j b hi (.inr ⟨hjl,v,sa,hk⟩) (λh=>e h.symm) hb)),h4⟩
   | park v=>rw[hk] at hw;exact hw
   | gone q=>rw[hk] at hw;exact hw
 ·obtain⟨live,h1,h2,h3⟩:=C.pend
  exact⟨live,h1,λj=>by rw[h2 j,hsz,eGone],by rw[h3];exact List.map_congr_left λj _=>(eVal j).symm⟩
 ·have:=(C.chan c pd hs).2 j (eAct j hj)
  by_cases e:j=i
  ·subst e;simp only[if_true];exact this
  ·simp only[qe e];exact .inl this
 ·rw[hsz,eGone]
  rcases ja9 hx with h' | ⟨op',ho',hm',hx'⟩
  ·have hk:k<t.size:=by
    obtain⟨o,h1,_⟩:=touch_of h';exact lt_size_of_getElem? h1
   rw[getElem?_append_old hk] at ho;exact(C.handed k x op h' ho hg).imp id (·.app _)
  ·rw[ho'] at ho;cases ho
   have e:=(jn3 hG.evs hm').1;rw[e] at hg ⊢;rcases hi with hi | ⟨h1,v,sa,h2⟩
   ·exact qp hi hg
   ·exact .inl ⟨h1,λ⟨q,hq⟩=>by rw[h2] at hq;cases hq⟩
def EndsM(P:Program)(Post:Value->World->Prop)(m:Machine)(t:Trace):Prop :=
 ∃N last o w' t',runNT P (N+1) m t=(.ended o w',t')/\runN P N m=.next last/\step P last=.ended o w'/\Go.Conc.Good P Post last o w' t'
theorem jbz{Post:Value->World->Prop}{m m':Machine}{ops:Array MemOp}(hs:stepT P m=(.next m',ops))(h:EndsM P Post m' (t++ops)):EndsM P Post m t:=by
 obtain⟨n,last,o,w,t',h1,h2,h3,h4⟩:=h;exact⟨n+1,last,o,w,t',by rw[runNT_succ_next hs];exact h1,by rw[runN_succ_next hs];exact h2,h3,h4⟩
theorem juX{Post:Value->World->Prop}{m:Machine}{ops:Array MemOp}{o:Outcome}(hs:stepT P m=(.ended o w,ops))(h:Go.Conc.Good P Post m o w (t++ops)):EndsM P Post m t :=
 ⟨0,m,o,w,t++ops,by simp[runNT,hs],rfl,by simp[step,hs],h⟩
theorem jia{cs cs':Array CommCase}{sh sh':CommShape}(h:parked g cs sh=parked g' cs' sh'):cs=cs'/\sh=sh'/\(∀v,Go.Conc.served g v=Go.Conc.served g' v):=by
 unfold parked at h;injection h with h1 h2 h3 h4 h5;injection h5 with h5;injection h5 with h5 h6;refine⟨h5,h6,λv=>?_⟩;unfold Go.Conc.served
 simp_all
variable{P:Program}{Post:Value->World->Prop}{s:Option (Nat × List Value)}{gs:Array Goroutine}{w w':World}{t:Trace}{O X:Nat->Nat->Prop}{wk:Nat->Wk}
def rks(n:Nat)(wk:Nat->Wk):List Rk:=(List.range n).map λi=>(wk i).rk
theorem jhi{i:Nat}(h:i<n):(rks n wk)[i]?=some (wk i).rk:=by simp[rks,h]
theorem jgI{i:Nat}(h:i<n)(x:Wk):rks n (upd wk i x)=(rks n wk).set i x.rk:=by
 apply List.ext_getElem?;intro j
 by_cases hj:i=j
 ·subst hj;simp[rks,h,upd]
 ·have:¬j=i:=λe=>hj e.symm
  rw[List.getElem?_set_ne hj];simp only[rks,List.getElem?_map]
  by_cases hn:j<n
  ·simp[hn,upd,this]
  ·simp[hn]
theorem Conf.at(C:Conf P s gs w t O X wk)(d:Nat):Conf P s gs (w.at d) t O X wk:=by
 refine⟨C.tr,λi g hi hg=>?_,C.pend,C.chan,C.handed⟩;have h:=C.wok i g hi hg;cases hk:wk i with
 | work v sa=>rw[hk] at h;exact⟨h.1,h.2.1,h.2.2.1.trans (Rely.at _ _ _),h.2.2.2⟩
 | park v=>rw[hk] at h;exact h
 | gone q=>rw[hk] at h;exact h
theorem Conf.acc(C:Conf P s gs w t O X wk)(hz:wk 0=.gone 0):Acc (One (RLt P)) (rks gs.size wk):=by
 refine jnL λx hx=>?_;obtain⟨i,hi,rfl⟩:=List.mem_map.1 hx;have hlt:i<gs.size:=List.mem_range.1 hi;rcases Nat.eq_zero_or_pos i with rfl | hpos
 ·rw[hz];exact jgr P 0
 ·have h:=C.wok i _ hpos (Array.getElem?_eq_getElem hlt)
  cases hk:wk i with
  | work v sa=>rw[hk] at h;exact juo h.2.2.2.acc
  | park v=>exact jnt P
  | gone q=>exact jgr P q
theorem ji1(h:∀e∈es,Ok Oi Xi w.heap.size w.heap.size e):Guar Oi Xi w w es:=⟨rfl,rfl,rfl,Nat.le_refl _,λ_ _ _=>rfl,h⟩
theorem jvi{O:Nat->Nat->Prop}{i:Nat}[inst:∀j,Decidable (j=i)]:(λj=>if j=i then grow (O i) n n else O j)=O:=by
 funext j
 by_cases e:j=i
 ·subst e;rw[qf rfl,jbm]
 ·rw[qe e]
theorem jsV{X:Nat->Nat->Prop}{i:Nat}[inst:∀j,Decidable (j=i)]:(λj=>if j=i then X i else grow (X j) n n)=X:=by
 funext j
 by_cases e:j=i
 ·subst e;rw[qf rfl]
 ·rw[qe e,jbm]
theorem Conf.stay(C:Conf P s gs w t O X wk)(h0:gs[0]?=some g0)(hm:MainAt s g0){i:Nat}(hi:Act gs wk i)(hlt:i<gs.size)(hes:∀e∈es,Ok (O i) (X i) w.heap.size w.heap.size e) 
 (f1:∀j,j≠i->wk' j=wk j) (f2:(wk' i).Work->(wk i).Work) (f3:(wk' i).Gone↔(wk i).Gone) (f5:(wk' i).val=(wk i).val) (f4:0<i->WkOk P (cOf s) w (O i) (X i) g' (wk' i)) :
 Conf P s (gs.setIfInBounds i g') w (t++MemOp.ofEvents i fn pos es) O X wk':=by
 classical
 have:=C.goStep h0 hm (g:=g0) (g':=g') hi hlt (ji1 hes) (wk':=wk') f1 f2 f3 f5 (λh=>by rw[jbm];exact f4 h) (fn:=fn) (pos:=pos)
 rwa [jvi,jsV] at this
theorem jb7{gs:Array Goroutine}{i:Nat}{x:Goroutine}(h:(gs.setIfInBounds i g)[j]?=some x):(j=i/\x=g)\/(j≠i/\gs[j]?=some x):=by
 by_cases e:i=j
 ·subst e
  by_cases hlt:i<gs.size
  ·rw[zg hlt] at h;cases h;exact .inl ⟨rfl,rfl⟩
  ·rw[Array.getElem?_eq_none (by simpa using hlt)] at h;cases h
 ·rw[zh e] at h;exact .inr ⟨λh=>e h.symm,h⟩
theorem Conf.offers(C:Conf P s gs w t O X wk){x:Goroutine}(hj:0<j)(hx:gs[j]?=some x)(r:Nat):offersAt x r false=[]:=by
 have h:=C.wok j x hj hx;cases hk:wk j with
 | work v sa=>rw[hk] at h;obtain⟨rfl,_,_,h⟩:=h;exact offersAt_of_not_blocked (by rw[h.run];decide) _ _
 | park v=>rw[hk] at h;obtain⟨g₂,z,q,rfl,_⟩:=h;exact offersAt_parked_send' ..
 | gone q=>rw[hk] at h;exact offersAt_of_not_blocked (by rcases QuitsIn.status h with e | e<;>rw[e]<;>decide) _ _
theorem Conf.slip(C:Conf P s gs w t O X wk){i:Nat}(hi:gs[i]?=some g){q q0:Nat}(hk:wk i=.gone q0)(hq':QuitsIn P q g'):Conf P s (gs.setIfInBounds i g') w t O X (upd wk i (.gone q)):=by
 have eA:∀j,Act (gs.setIfInBounds i g') (upd wk i (.gone q)) j->Act gs wk j:=by
  rintro j (h | ⟨h,v,sa,h'⟩)
  ·exact .inl h
  ·by_cases e:j=i
   ·subst e;rw[upd_same] at h';cases h'
   ·rw[upd_ne _ _ e] at h';exact .inr ⟨by simpa using h,v,sa,h'⟩
 have eG:∀j,(upd wk i (.gone q) j).Gone↔(wk j).Gone:=λj=>by
  by_cases e:j=i
  ·subst e;rw[upd_same,hk];exact⟨λ_=>⟨_,rfl⟩,λ_=>⟨_,rfl⟩⟩
  ·rw[upd_ne _ _ e]
 refine⟨C.tr.fewer eA,λj x hj hx=>?_,?_,λc pd hs=>⟨(C.chan c pd hs).1,λj hj=>(C.chan c pd hs).2 j (eA j hj)⟩,λk x op h1 h2 h3=>?_⟩
 ·rcases jb7 hx with⟨rfl,rfl⟩ | ⟨hne,hx⟩
  ·rw[upd_same];exact hq'
  ·rw[upd_ne _ _ hne];exact C.wok j x hj hx
 ·obtain⟨live,l1,l2,l3⟩:=C.pend
  refine⟨live,l1,λj=>by rw[l2 j,eG];simp,?_⟩;rw[l3];refine List.map_congr_left λj hj=>?_;have:j≠i:=λe=>((l2 j).1 hj).2.2 (by rw[e,hk];exact⟨_,rfl⟩);rw[upd_ne _ _ this]
 ·rw[eG]
  simpa using C.handed k x op h1 h2 h3
theorem jc6(hg0:g0.status=.running)
 (H:∀gs w sl d sl' t O X wk,Conf P s gs (w.at d) t O X wk->wk 0=.gone 0->O 0=O0->Rely X0 w0 (X 0) (w.at d)->gs[0]?=some g0->stepT P (crowd gs w sl)=runT P (crowd gs (w.at d) sl') 0->EndsM P Post (crowd gs w sl) t) :
 ∀gs w sl t O X wk,Conf P s gs w t O X wk->wk 0=.gone 0->O 0=O0->Rely X0 w0 (X 0) w->gs[0]?=some g0->EndsM P Post (crowd gs w sl) t:=by
 classical
 intro gs w sl t O X wk C hz hO hR h0;have hA:=C.acc hz
 generalize hl:rks gs.size wk=l at hA
 induction hA generalizing gs w sl t O X wk with
 | intro l _ ih =>
  subst hl;have hm:MainAt s g0:=.inl hg0;obtain⟨i,g,d,sl',hi,hg,hst⟩:=crowd_pick (P:=P) (w:=w) (sl:=sl) (C.awake h0 hm) ⟨0,g0,h0,hg0⟩;have Cd:=C.at d;have hRd:Rely X0 w0 (X 0) (w.at d):=hR.trans (Rely.at _ _ _);rcases Nat.eq_zero_or_pos i with rfl | hpos
  ·exact H gs w sl d sl' t O X wk Cd hz hO hRd h0 hst
  have hlt:i<gs.size:=(Array.getElem?_eq_some_iff.1 hi).1;have hi0:(i == 0)=false:=by simp;omega
  have h0i:¬ 0=i:=by omega
  have h0':∀y,(gs.setIfInBounds i y)[0]?=some g0:=λy=>by rw[zh (λh=>h0i h.symm)];exact h0
  have hok:=Cd.wok i g hpos hi;cases hk:wk i with
  | work v sa =>
   have hact:Act gs wk i:=.inr ⟨hlt,v,sa,hk⟩;rw[hk] at hok;obtain⟨rfl,e2,h3,h4⟩:=hok;cases h4 with
   | step hs hgo hh =>
    obtain⟨g',w',es,k1,k2⟩:=hgo (X i) (w.at d) h3;have hrun:=runT_crowd_go (P:=P) (sl:=sl') (i:=i) hi (by rw[hi0];exact k1);have hG:Guar (O i) (X i) (w.at d) w' es:=by rw[<-e2];exact k2
    rw[Cd.gs_go h0 hm (Cd.chan_of hact hG)] at hrun
    have C':=Cd.goStep h0 hm (g:=sa.g) (g':=g') hact hlt hG (wk':=upd wk i (.work v ⟨grow sa.O (w.at d).heap.size w'.heap.size,X i,g',w'⟩)) (λj hj=>upd_ne _ _ hj) (by rw[upd_same,hk];exact λ_=>⟨_,_,rfl⟩) (by rw[upd_same,hk];exact⟨λ⟨q,hq⟩=>(by cases hq),λ⟨q,hq⟩=>(by cases hq)⟩) (by rw[upd_same,hk];rfl)
     (λ_=>by rw[upd_same];exact⟨rfl,by rw[e2],Rely.refl _ _,hh _ _ _ _ _ h3 k1⟩) (fn:=sa.g.frame.fn) (pos:=sa.g.frame.place)
    refine jbz (hst.trans hrun) (ih _ (?_:One (RLt P) _ _) _ w' sl' _ _ _ _ C' (by rw[upd_ne _ _ h0i];exact hz) ?_ ?_ (h0' _) rfl)
    ·rw[Array.size_setIfInBounds,jgI hlt]
     refine One.set (jhi hlt) ?_;rw[hk];exact .work ⟨X i,w.at d,es,h3,k1,rfl,rfl⟩
    ·rw[qe h0i];exact hO
    ·rw[qe h0i]
     exact hRd.trans (jdu hG (λb hb=>Cd.tr.cross i 0 b hact (.inl rfl) zo hb))
   | send hs hh =>
    obtain⟨g₂,z,es,k1,k2,q,k3⟩:=hh (X i) (w.at d) h3;cases s with
    | none=>exact qp (C.gone_of_none hpos hlt) (by rw[hk];rintro⟨q,hq⟩;cases hq)
    | some cp =>
     obtain⟨c,pd⟩:=cp;obtain⟨⟨k,hch⟩,_⟩:=Cd.chan c pd rfl
     have hp:partners (gs.setIfInBounds i ph) c false=[]:=partners_nil λj x hx=>by
      rcases jb7 hx with⟨_,rfl⟩ | ⟨_,hx⟩
      ·exact offersAt_ph ..
      ·rcases Nat.eq_zero_or_pos j with rfl | hj
       ·rw[h0] at hx;cases hx;exact offersAt_of_not_blocked (by rw[hg0];decide) _ _
       ·exact Cd.offers hj hx _
     have hrun:=crowd_waits (P:=P) (gs:=gs) (sl:=sl') (i:=i) hi (by rw[hi0];exact k1) (λcc hcc=>by
      simp only[List.mem_toArray,List.mem_singleton] at hcc;subst hcc
      exact ways_send_none hch (Nat.zero_le _) hp)
     have C':=Cd.stay h0 hm (g':=parked g₂ #[scase c v z] .send) hact hlt (by rw[<-e2];exact k2) (wk':=upd wk i (.park v)) (λj hj=>upd_ne _ _ hj) (by rw[upd_same];rintro⟨_,_,h⟩;cases h) (by rw[upd_same,hk];exact⟨λ⟨q,hq⟩=>(by cases hq),λ⟨q,hq⟩=>(by cases hq)⟩) (by rw[upd_same,hk];rfl)
      (λ_=>by rw[upd_same];exact⟨g₂,z,q,rfl,k3⟩) (fn:=sa.g.frame.fn) (pos:=sa.g.frame.place)
     refine jbz (hst.trans hrun) (ih _ (?_:One (RLt P) _ _) _ (w.at d) sl' _ _ _ _ C' (by rw[upd_ne _ _ h0i];exact hz) hO hRd (h0' _) rfl);rw[Array.size_setIfInBounds,jgI hlt];refine One.set (jhi hlt) ?_;rw[hk];exact .parkw
  | park v =>
   rw[hk] at hok;obtain⟨g₂,z,q,rfl,_⟩:=hok;cases hg
  | gone q =>
   rw[hk] at hok;cases q with
   | zero=>rw[show g.status=.finished from hok] at hg;cases hg
   | succ q =>
    rcases hok with hf | ⟨_,g',hstp,hq'⟩
    ·rw[hf] at hg;cases hg
    have hrun:=runT_crowd_go (P:=P) (sl:=sl') (i:=i) hi (by rw[hi0];exact hstp (w.at d));rw[Cd.gs_go h0 hm (λc pd hs=>(Cd.chan c pd hs).1)] at hrun
    have C':Conf P s (gs.setIfInBounds i g') (w.at d) (t++MemOp.ofEvents i g.frame.fn g.frame.place #[]) O X (upd wk i (.gone q)):=by
     have et:t++MemOp.ofEvents i g.frame.fn g.frame.place #[]=t:=by rw[ofEvents_none];simp
     rw[et];exact Cd.slip hi hk hq'
    refine jbz (hst.trans hrun) (ih _ (?_:One (RLt P) _ _) _ (w.at d) sl' _ _ _ _ C' (by rw[upd_ne _ _ h0i];exact hz) hO hRd (h0' _) rfl);rw[Array.size_setIfInBounds,jgI hlt];refine One.set (jhi hlt) ?_;rw[hk];exact .left zo
variable{P:Program}{Post:Value->World->Prop}{s:Option (Nat × List Value)}{gs:Array Goroutine}{w w':World}{t:Trace}{O X:Nat->Nat->Prop}{wk:Nat->Wk}
theorem jho{cap a b:Nat}{buf:Array Value}{cl tm:Bool}(h:Xi c)(d:Nat):Rely Xi w Xi ((w.at d).setChan c cap buf cl a b tm):=by
 have e:((w.at d).setChan c cap buf cl a b tm).heap.size=w.heap.size:=by simp[World.setChan,World.at]
 refine⟨rfl,rfl,rfl,by rw[e];exact Nat.le_refl _,λx hx hX=>?_,λx=>⟨.inl,λh=>h.elim id (λh=>by rw[e] at h;omega)⟩⟩;have:¬c=x:=λe=>hX (e ▸ h);simp[World.setChan,World.at,zh this]
def metOps(j c k:Nat)(fa fb:FuncId)(pa pb:String):Trace :=
 #[{ g:=j,fn:=fa,pos:=pa,act:=.send c k },{ g:=0,fn:=fb,pos:=pb,act:=.recv c k 0 },{ g:=j,fn:=fa,pos:=pa,act:=.sendDone c k },{ g:=0,fn:=fb,pos:=pb,act:=.recvDone c k }]
theorem jhj:∀op∈metOps j c k fa fb pa pb,op.act.touch?=none:=by
 intro op hop;simp only[metOps,List.mem_toArray,List.mem_cons,qv,or_false] at hop;rcases hop with rfl | rfl | rfl | rfl<;>rfl
theorem jdq:Wordless (metOps j c k fa fb pa pb):=by
 intro op hop m hm;simp only[metOps,List.mem_toArray,List.mem_cons,qv,or_false] at hop;rcases hop with rfl | rfl | rfl | rfl<;>cases hm
theorem jjy(i:Nat){op:MemOp}(h:u[i]?=some op):(t++u)[t.size+i]?=some op:=by
 rw[Array.getElem?_append_right zo,Nat.add_sub_cancel_left];exact h
theorem Conf.meet{g₂ g₃:Goroutine}{z z':Value}(C:Conf P (some (c,pd)) gs w t O X wk)(hj:0<j)(hgj:gs[j]?=some (parked g₃ #[scase c v z'] .send))(hlt0:0<gs.size)
 (hch:w.heap[c]?=some (.chan 0 #[] false k k false)) (d:Nat) :
 ∃l₁ l₂ q,pd=l₁++v::l₂/\Conf P (some (c,l₁++l₂)) ((gs.setIfInBounds 0 (Go.Conc.served g₂ v)).setIfInBounds j (Go.Conc.served g₃ undef)) ((w.at d).setChan c 0 #[] false (k+1) (k+1) false) (t++metOps j c k fa fb pa pb) O X (upd wk j (.gone q)):=by
 have hlt:j<gs.size:=(Array.getElem?_eq_some_iff.1 hgj).1;have hwj:=C.wok j _ hj hgj;have hs:=C.chan c pd rfl
 obtain⟨v',hk⟩:∃v',wk j=.park v':=by
  cases hk:wk j with
  | work v sa=>rw[hk] at hwj;obtain⟨h1,_,_,h4⟩:=hwj;have:=h4.run;rw[h1] at this;cases this
  | park v'=>exact⟨v',rfl⟩
  | gone q=>rw[hk] at hwj;rcases QuitsIn.status hwj with e | e<;>cases e
 rw[hk] at hwj;obtain⟨g₄,z₂,q,e1,hq⟩:=hwj;obtain⟨e2,_,e3⟩:=jia e1
 have ev:v'=v:=by
  have:scase c v z'=scase (cOf (some (c,pd))) v' z₂:=by simpa using e2
  unfold scase at this;injection this with _ h _;injection h with h;exact h.symm
 subst ev;obtain⟨live,l1,l2,l3⟩:=C.pend;have hmem:j∈live:=(l2 j).2 ⟨hj,hlt,by rw[hk];rintro⟨q,hq⟩;cases hq⟩;obtain⟨A,B,rfl⟩:=List.append_of_mem hmem;have hnd:=List.nodup_append.1 l1;have hnB:j∉B:=(List.nodup_cons.1 hnd.2.1).1;have hnA:j∉A:=λh=>hnd.2.2 j h j (by simp) rfl;have esz:((w.at d).setChan c 0 #[] false (k+1) (k+1) false).heap.size=w.heap.size:=by simp[World.setChan,World.at]
 have eA:∀i,Act ((gs.setIfInBounds 0 (Go.Conc.served g₂ v')).setIfInBounds j (Go.Conc.served g₃ undef)) (upd wk j (.gone q)) i->Act gs wk i:=by
  rintro i (h | ⟨h,v,sa,h'⟩)
  ·exact .inl h
  ·by_cases e:i=j
   ·subst e;rw[upd_same] at h';cases h'
   ·rw[upd_ne _ _ e] at h';exact .inr ⟨by simpa using h,v,sa,h'⟩
 refine⟨A.map (λi=>(wk i).val),B.map (λi=>(wk i).val),q,?_,?_,λi x hi hx=>?_,?_,λc' pd' hs'=>?_,λi x op hx ho hg=>?_⟩
 ·have:pd=(A++j::B).map (λi=>(wk i).val):=l3
  rw[this,List.map_append,List.map_cons,hk];rfl
 ·rw[esz]
  exact(C.tr.mute jhj jdq).fewer eA
 ·rcases jb7 hx with⟨rfl,rfl⟩ | ⟨hne,hx⟩
  ·rw[upd_same,e3];exact hq
  ·rcases jb7 hx with⟨rfl,_⟩ | ⟨_,hx⟩
   ·omega
   ·rw[upd_ne _ _ hne]
    have h:=C.wok i x hi hx;cases hki:wk i with
    | work v sa =>
     rw[hki] at h;have hX:X i c:=hs.2 i (.inr ⟨(Array.getElem?_eq_some_iff.1 hx).1,v,sa,hki⟩);exact⟨h.1,h.2.1,h.2.2.1.trans (jho hX d),h.2.2.2⟩
    | park v=>rw[hki] at h;exact h
    | gone q=>rw[hki] at h;exact h
 ·refine⟨A++B,?_,λi=>?_,?_⟩
  ·exact List.nodup_append.2 ⟨hnd.1,(List.nodup_cons.1 hnd.2.1).2,λx hx y hy=>hnd.2.2 x hx y (by simp[hy])⟩
  ·have:=l2 i
   simp only[List.mem_append,List.mem_cons,Array.size_setIfInBounds] at this ⊢
   by_cases e:i=j
   ·subst e
    rw[upd_same];constructor
    ·rintro(h | h)
     ·exact qp h hnA
     ·exact qp h hnB
    ·rintro⟨_,_,h⟩;exact qp ⟨q,rfl⟩ h
   ·rw[upd_ne _ _ e,<-this]
    constructor
    ·rintro(h | h)
     ·exact .inl h
     ·exact .inr (.inr h)
    ·rintro(h | h | h)
     ·exact .inl h
     ·exact qp h e
     ·exact .inr h
  ·show A.map (λi=>(wk i).val)++B.map (λi=>(wk i).val)=_
   rw[List.map_append]
   congr 1
   ·exact List.map_congr_left λi hi=>by rw[upd_ne _ _ (show i≠j from λe=>hnA (e ▸ hi))]
   ·exact List.map_congr_left λi hi=>by rw[upd_ne _ _ (show i≠j from λe=>hnB (e ▸ hi))]
 ·cases hs'
  refine⟨⟨k+1,?_⟩,λi hi=>hs.2 i (eA i hi)⟩;have hlt:c<w.heap.size:=(Array.getElem?_eq_some_iff.1 hch).1;simp[World.setChan,World.at,hlt]
 ·rcases ja9 hx with h' | ⟨op',ho',hm',hx'⟩
  ·have hk':i<t.size:=by
    obtain⟨o,h1,_⟩:=touch_of h';exact lt_size_of_getElem? h1
   rw[getElem?_append_old hk'] at ho;simp only[Array.size_setIfInBounds];rcases C.handed i x op h' ho hg with⟨h1,h2⟩ | h1
   ·by_cases e:op.g=j
    ·right
     have hW:Wordless (t++metOps j c k fa fb pa pb):=C.tr.wordless.append jdq;have y1:(t++metOps j c k fa fb pa pb)[t.size+0]?=some { g:=j,fn:=fa,pos:=pa,act:=.send c k }:=jjy 0 rfl;have y2:(t++metOps j c k fa fb pa pb)[t.size+3]?=some { g:=0,fn:=fb,pos:=pb,act:=.recvDone c k }:=jjy 3 rfl;have kn:Knows t j i:=by have:=knows_own ho;rwa [e] at this
     exact jhP kn zo y1 rfl y2 rfl (.single (.inr ⟨.handOver (c:=c) (k:=k) (act?_of y1) (act?_of y2),hW.heard y1,hW.heard y2⟩))
    ·rw[upd_ne _ _ e];exact .inl ⟨h1,h2⟩
   ·exact .inr (h1.app _)
  ·rw[jhj op' hm'] at hx';cases hx'
theorem jpG{g₂:Goroutine}{z:Value}(hne:pd≠[])
 (H:∀v l₁ l₂ gs w sl t O X wk,pd=l₁++v::l₂->Conf P (some (c,l₁++l₂)) gs w t O X wk->wk 0=.gone 0->O 0=O0->Rely X0 w0 (X 0) w->gs[0]?=some (Go.Conc.served g₂ v)->EndsM P Post (crowd gs w sl) t) :
 ∀gs w sl t O X wk,Conf P (some (c,pd)) gs w t O X wk->wk 0=.gone 0->O 0=O0->Rely X0 w0 (X 0) w->gs[0]?=some (parked g₂ #[rcase c z] (.recv false))->(∀i v,0<i->i<gs.size->wk i≠.park v)->EndsM P Post (crowd gs w sl) t:=by
 classical
 intro gs w sl t O X wk C hz hO hR h0 hpk;have hA:=C.acc hz
 generalize hl:rks gs.size wk=l at hA
 induction hA generalizing gs w sl t O X wk with
 | intro l _ ih =>
  subst hl;have hm:MainAt (some (c,pd)) (parked g₂ #[rcase c z] (.recv false)):=.inr ⟨g₂,z,c,pd,rfl,rfl⟩
  obtain⟨j,g1,hj1,hj2,hj3⟩:∃(i:Nat) (g:Goroutine),0<i/\gs[i]?=some g/\g.status=.running:=by
   obtain⟨live,l1,l2,l3⟩:=C.pend
   have hlne:live≠[]:=by
    rintro rfl;exact hne (by simpa[pdOf] using l3)
   obtain⟨i,rest,rfl⟩:=List.exists_cons_of_ne_nil hlne;obtain⟨h1,h2,h3⟩:=(l2 i).1 (by simp);refine⟨i,gs[i],h1,Array.getElem?_eq_getElem h2,?_⟩;have h:=C.wok i _ h1 (Array.getElem?_eq_getElem h2);cases hk:wk i with
   | work v sa=>rw[hk] at h;rw[<-h.1];exact h.2.2.2.run
   | park v=>exact qp hk (hpk i v h1 h2)
   | gone q=>exact qp ⟨q,hk⟩ h3
  obtain⟨i,g,d,sl',hi,hg,hst⟩:=crowd_pick (P:=P) (w:=w) (sl:=sl) (C.awake h0 hm) ⟨j,g1,hj2,hj3⟩;have Cd:=C.at d;have hRd:Rely X0 w0 (X 0) (w.at d):=hR.trans (Rely.at _ _ _);have hlt:i<gs.size:=(Array.getElem?_eq_some_iff.1 hi).1;have hlt0:0<gs.size:=by omega
  rcases Nat.eq_zero_or_pos i with rfl | hpos
  ·rw[h0] at hi;cases hi;cases hg
  have hi0:(i == 0)=false:=by simp;omega
  have h0i:¬ 0=i:=by omega
  have h0':∀y,(gs.setIfInBounds i y)[0]?=some (parked g₂ #[rcase c z] (.recv false)):=λy=>by rw[zh (λh=>h0i h.symm)];exact h0
  have hok:=Cd.wok i g hpos hi;obtain⟨⟨k,hch⟩,hXc⟩:=Cd.chan c pd rfl;cases hk:wk i with
  | work v sa =>
   have hact:Act gs wk i:=.inr ⟨hlt,v,sa,hk⟩;rw[hk] at hok;obtain⟨rfl,e2,h3,h4⟩:=hok;cases h4 with
   | step hs hgo hh =>
    obtain⟨g',w',es,k1,k2⟩:=hgo (X i) (w.at d) h3;have hrun:=runT_crowd_go (P:=P) (sl:=sl') (i:=i) hi (by rw[hi0];exact k1);have hG:Guar (O i) (X i) (w.at d) w' es:=by rw[<-e2];exact k2
    rw[Cd.gs_go h0 hm (Cd.chan_of hact hG)] at hrun
    have C':=Cd.goStep h0 hm (g:=sa.g) (g':=g') hact hlt hG (wk':=upd wk i (.work v ⟨grow sa.O (w.at d).heap.size w'.heap.size,X i,g',w'⟩)) (λj hj=>upd_ne _ _ hj) (by rw[upd_same,hk];exact λ_=>⟨_,_,rfl⟩) (by rw[upd_same,hk];exact⟨λ⟨q,hq⟩=>(by cases hq),λ⟨q,hq⟩=>(by cases hq)⟩) (by rw[upd_same,hk];rfl)
     (λ_=>by rw[upd_same];exact⟨rfl,by rw[e2],Rely.refl _ _,hh _ _ _ _ _ h3 k1⟩) (fn:=sa.g.frame.fn) (pos:=sa.g.frame.place)
    refine jbz (hst.trans hrun) (ih _ (?_:One (RLt P) _ _) _ w' sl' _ _ _ _ C' (by rw[upd_ne _ _ h0i];exact hz) ?_ ?_ (h0' _) (λl v' hl1 hl2=>?_) rfl)
    ·rw[Array.size_setIfInBounds,jgI hlt]
     refine One.set (jhi hlt) ?_;rw[hk];exact .work ⟨X i,w.at d,es,h3,k1,rfl,rfl⟩
    ·rw[qe h0i];exact hO
    ·rw[qe h0i]
     exact hRd.trans (jdu hG (λb hb=>Cd.tr.cross i 0 b hact (.inl rfl) zo hb))
    ·by_cases e:l=i
     ·subst e;rw[upd_same];intro h;cases h
     ·rw[upd_ne _ _ e];exact hpk l v' hl1 (by simpa using hl2)
   | send hs hh =>
    obtain⟨g₃,z',es,k1,k2,q,k3⟩:=hh (X i) (w.at d) h3
    have hp:partners (gs.setIfInBounds i ph) c false=[(0,0)]:=by
     have h00:(gs.setIfInBounds i ph)[0]?=some (parked g₂ #[rcase c z] (.recv false)):=h0' _;rw[partners_one h00 (λl x hl hx=>?_)]
     ·rw[offersAt_parked_recv];simp
     ·rcases jb7 hx with⟨_,rfl⟩ | ⟨_,hx⟩
      ·exact offersAt_ph ..
      ·exact Cd.offers zo hx _
    have hrun:=crowd_send_meets (P:=P) (gs:=gs) (sl:=sl') (i:=i) (j:=0) hi (by rw[hi0];exact k1) hch (λe=>h0i e) h0 hp;rw[finishComm_recv,finishComm_send] at hrun
    have C':=Cd.stay h0 hm (g':=parked g₃ #[scase c v z'] .send) hact hlt (by rw[<-e2];exact k2) (wk':=upd wk i (.park v)) (λj hj=>upd_ne _ _ hj) (by rw[upd_same];rintro⟨_,_,h⟩;cases h) (by rw[upd_same,hk];exact⟨λ⟨q,hq⟩=>(by cases hq),λ⟨q,hq⟩=>(by cases hq)⟩) (by rw[upd_same,hk];rfl)
     (λ_=>by rw[upd_same];exact⟨g₃,z',q,rfl,k3⟩) (fn:=sa.g.frame.fn) (pos:=sa.g.frame.place)
    obtain⟨l₁,l₂,q',hpd,C2⟩:=C'.meet (g₂:=g₂) (v:=v) (z:=z) hpos (by rw[zg hlt]) (by simpa using hlt0) hch (w.at d).drawn (fa:=g₃.frame.fn) (fb:=g₂.frame.fn) (pa:=g₃.frame.place) (pb:=g₂.frame.place)
    have egs:((gs.setIfInBounds i (parked g₃ #[scase c v z'] .send)).setIfInBounds 0 (Go.Conc.served g₂ v)).setIfInBounds i (Go.Conc.served g₃ undef)=(gs.setIfInBounds 0 (Go.Conc.served g₂ v)).setIfInBounds i (Go.Conc.served g₃ undef):=by
     apply Array.ext_getElem?;intro l
     by_cases hl:i=l
     ·subst hl
      rw[zg (by simpa using hlt),zg (by simpa using hlt)]
     ·rw[zh hl,zh hl]
      by_cases hl0:0=l
      ·subst hl0
       rw[zg (by simpa using hlt0),zg hlt0]
      ·rw[zh hl0,zh hl0,zh hl]
    rw[egs] at C2;refine jbz (hst.trans hrun) ?_;rw[<-Array.append_assoc];exact H v l₁ l₂ _ _ sl' _ O X _ hpd C2 (by rw[upd_ne _ _ h0i,upd_ne _ _ h0i];exact hz) hO (hRd.trans (jho (hXc 0 (.inl rfl)) _)) (by rw[zh (λh=>h0i h.symm),zg hlt0];rfl)
  | park v=>exact qp hk (hpk i v hpos hlt)
  | gone q =>
   rw[hk] at hok;cases q with
   | zero=>rw[show g.status=.finished from hok] at hg;cases hg
   | succ q =>
    rcases hok with hf | ⟨_,g',hstp,hq'⟩
    ·rw[hf] at hg;cases hg
    have hrun:=runT_crowd_go (P:=P) (sl:=sl') (i:=i) hi (by rw[hi0];exact hstp (w.at d));rw[Cd.gs_go h0 hm (λc pd hs=>(Cd.chan c pd hs).1)] at hrun
    have C':Conf P (some (c,pd)) (gs.setIfInBounds i g') (w.at d) (t++MemOp.ofEvents i g.frame.fn g.frame.place #[]) O X (upd wk i (.gone q)):=by
     have et:t++MemOp.ofEvents i g.frame.fn g.frame.place #[]=t:=by rw[ofEvents_none];simp
     rw[et];exact Cd.slip hi hk hq'
    refine jbz (hst.trans hrun) (ih _ (?_:One (RLt P) _ _) _ (w.at d) sl' _ _ _ _ C' (by rw[upd_ne _ _ h0i];exact hz) hO hRd (h0' _) (λl v' hl1 hl2=>?_) rfl)
    ·rw[Array.size_setIfInBounds,jgI hlt]
     refine One.set (jhi hlt) ?_;rw[hk];exact .left zo
    ·by_cases e:l=i
     ·subst e;rw[upd_same];intro h;cases h
     ·rw[upd_ne _ _ e];exact hpk l v' hl1 (by simpa using hl2)
variable{P:Program}{Post:Value->World->Prop}{s:Option (Nat × List Value)}{gs:Array Goroutine}{w w':World}{t:Trace}{O X:Nat->Nat->Prop}{wk:Nat->Wk}
theorem Conf.birth(C:Conf P (some (c,pd)) gs w t O X wk)(hlt0:0<gs.size){O':Nat->Prop}(hO:∀b,O' b->O 0 b){child:Goroutine}(hW:GoW P c v (λ_=>False) (λb=>O' b\/X 0 b) child w){fa fb:FuncId}{pa pb:String} :
 Conf P (some (c,v::pd)) (gs.push child) w (t++#[{ g:=0,fn:=fa,pos:=pa,act:=.go gs.size },{ g:=gs.size,fn:=fb,pos:=pb,act:=.start }])
  (λj=>if j=0 then O' else if j=gs.size then (λ_=>False) else O j) (λj=>if j=gs.size then (λb=>O' b\/X 0 b) else X j)
  (upd wk gs.size (.work v ⟨λ_=>False,λb=>O' b\/X 0 b,child,w⟩)):=by
 have hn0:¬ 0=gs.size:=by omega
 have hn0':¬gs.size=0:=by omega
 have T:=C.tr
 let u:Trace:=#[{ g:=0,fn:=fa,pos:=pa,act:=.go gs.size },{ g:=gs.size,fn:=fb,pos:=pb,act:=.start }]
 have hum:∀op∈u,op.act.touch?=none:=by
  intro op hop;simp only[u,List.mem_toArray,List.mem_cons,qv,or_false] at hop;rcases hop with rfl | rfl<;>rfl
 have huw:Wordless u:=by
  intro op hop m hm;simp only[u,List.mem_toArray,List.mem_cons,qv,or_false] at hop;rcases hop with rfl | rfl<;>cases hm
 have T2:Tr (Act gs wk) O X w.heap.size (t++u):=T.mute hum huw
 have old:∀k x,touchAt (t++u) k=some x->touchAt t k=some x:=λk x hx=>by
  rcases ja9 hx with h' | ⟨op,_,hm,hx⟩
  ·exact h'
  ·rw[hum op hm] at hx;cases hx
 have hact:∀i,Act (gs.push child) (upd wk gs.size (.work v ⟨λ_=>False,λb=>O' b\/X 0 b,child,w⟩)) i->i≠gs.size->Act gs wk i:=by
  rintro i (h | ⟨h,hw⟩) hne
  ·exact .inl h
  ·rw[upd_ne _ _ hne] at hw
   rw[Array.size_push] at h;exact .inr ⟨by omega,hw⟩
 have y1:(t++u)[t.size+0]?=some { g:=0,fn:=fa,pos:=pa,act:=.go gs.size }:=jjy 0 rfl;have y2:(t++u)[t.size+1]?=some { g:=gs.size,fn:=fb,pos:=pb,act:=.start }:=jjy 1 rfl;have hgs:(t++u).g? (t.size+1)=some gs.size:=by unfold Trace.g?;rw[y2];rfl
 have kn:∀k,Knows t 0 k->Knows (t++u) gs.size k:=λk hk =>
  jhP hk zo y1 rfl y2 rfl (.single (.inr ⟨.spawn (child:=gs.size) (act?_of y1) (act?_of y2) hgs,T2.wordless.heard y1,T2.wordless.heard y2⟩))
 refine⟨⟨λi b hi hb=>?_,λi b hi hb=>?_,λi b hi hb=>?_,λi j b hi hj hne hb=>?_,T2.clean,T2.wordless,T2.low,λi b hi hb k x a hx hl e=>?_,λi b hi hb k x a hx hwr hl e=>?_⟩,λi x hi hx=>?_,?_,λc' pd' hs'=>?_,λk x op hx ho hg=>?_⟩
 ·by_cases e0:i=0
  ·subst e0
   simp only[if_true] at hb;simp only[qe hn0];exact T.dis 0 b (.inl rfl) (hO b hb)
  ·by_cases es:i=gs.size
   ·simp only[qe e0,qf es] at hb
   ·simp only[qe e0,qe es] at hb
    simp only[qe es];exact T.dis i b (hact i hi es) hb
 ·by_cases e0:i=0
  ·subst e0
   simp only[if_true] at hb;exact T.olt 0 b (.inl rfl) (hO b hb)
  ·by_cases es:i=gs.size
   ·simp only[qe e0,qf es] at hb
   ·simp only[qe e0,qe es] at hb
    exact T.olt i b (hact i hi es) hb
 ·by_cases es:i=gs.size
  ·simp only[qf es] at hb
   rcases hb with hb | hb
   ·exact T.olt 0 b (.inl rfl) (hO b hb)
   ·exact T.xlt 0 b (.inl rfl) hb
  ·simp only[qe es] at hb
   exact T.xlt i b (hact i hi es) hb
 ·by_cases e0:i=0
  ·subst e0
   simp only[if_true] at hb
   by_cases ej:j=gs.size
   ·simp only[qf ej];exact .inl hb
   ·simp only[qe ej];exact T.cross 0 j b (.inl rfl) (hact j hj ej) hne (hO b hb)
  ·by_cases es:i=gs.size
   ·simp only[qe e0,qf es] at hb
   ·simp only[qe e0,qe es] at hb
    by_cases ej:j=gs.size
    ·simp only[qf ej];exact .inr (T.cross i 0 b (hact i hi es) (.inl rfl) e0 hb)
    ·simp only[qe ej];exact T.cross i j b (hact i hi es) (hact j hj ej) hne hb
 ·by_cases e0:i=0
  ·subst e0
   simp only[if_true] at hb;exact T2.knowO 0 b (.inl rfl) (hO b hb) k x a hx hl e
  ·by_cases es:i=gs.size
   ·simp only[qe e0,qf es] at hb
   ·simp only[qe e0,qe es] at hb
    exact T2.knowO i b (hact i hi es) hb k x a hx hl e
 ·by_cases es:i=gs.size
  ·simp only[qf es] at hb
   rw[es];exact kn k (T.knowX 0 b (.inl rfl) (λh=>hb (.inr h)) k x a (old k x hx) hwr hl e)
  ·simp only[qe es] at hb
   exact T2.knowX i b (hact i hi es) hb k x a hx hwr hl e
 ·by_cases es:i=gs.size
  ·subst es
   rw[Array.getElem?_push_size] at hx;cases hx;rw[upd_same];simp only[qe hn0',if_true];exact⟨rfl,rfl,Rely.refl _ _,hW⟩
  ·have hx':gs[i]?=some x:=by
    rw[Array.getElem?_push,qe es] at hx;exact hx
   have e0:¬i=0:=by omega
   rw[upd_ne _ _ es];simp only[qe e0,qe es];exact C.wok i x hi hx'
 ·obtain⟨live,l1,l2,l3⟩:=C.pend
  refine⟨gs.size::live,List.nodup_cons.2 ⟨λh=>by have:=((l2 _).1 h).2.1;omega,l1⟩,λi=>?_,?_⟩
  ·rw[List.mem_cons,l2 i,Array.size_push]
   by_cases es:i=gs.size
   ·subst es
    rw[upd_same];exact⟨λ_=>⟨hlt0,by omega,λ⟨q,hq⟩=>(by cases hq)⟩,λ_=>.inl rfl⟩
   ·rw[upd_ne _ _ es]
    constructor
    ·rintro(h | ⟨h1,h2,h3⟩)
     ·exact qp h es
     ·exact⟨h1,by omega,h3⟩
    ·rintro⟨h1,h2,h3⟩;exact .inr ⟨h1,by omega,h3⟩
  ·show v::pd=_
   rw[List.map_cons,upd_same]
   congr 1
   rw[show pd=live.map (λi=>(wk i).val) from l3]
   exact List.map_congr_left λi hi=>by
    have:=((l2 i).1 hi).2.1;rw[upd_ne _ _ (show i≠gs.size by omega)]
 ·cases hs'
  refine⟨(C.chan c pd rfl).1,λi hi=>?_⟩
  by_cases es:i=gs.size
  ·simp only[qf es];exact .inr ((C.chan c pd rfl).2 0 (.inl rfl))
  ·simp only[qe es];exact(C.chan c pd rfl).2 i (hact i hi es)
 ·have h':=old k x hx
  have hk':k<t.size:=by
   obtain⟨o,h1,_⟩:=touch_of h';exact lt_size_of_getElem? h1
  rw[getElem?_append_old hk'] at ho;rw[Array.size_push];rcases C.handed k x op h' ho hg with⟨h1,h2⟩ | h1
  ·exact .inl ⟨by omega,by rw[upd_ne _ _ (show op.g≠gs.size by omega)];exact h2⟩
  ·exact .inr (h1.app _)
theorem Conf.good{gs:Array Goroutine}{t':Trace}(C:Conf P none gs w t O X wk){gs':Array Goroutine}{O' X':Nat->Nat->Prop}{w₁:World}(C':Conf P none gs' w₁ t' O' X' wk'){w₀ w₂:World}{sl:Option (Nat × Nat)}(hp:Post v w₂) :
 Go.Conc.Good P Post (crowd gs w₀ sl) (.done v) w₂ t':=by
 refine⟨v,rfl,hp,C'.tr.clean,λi g hg hne hc=>?_,⟨λx hx=>?_,rfl⟩,λj x hx hj=>?_⟩
 ·obtain⟨x,hx,_,_⟩:=hc
  obtain⟨op,ho,hox⟩:=touch_of hx;have hgo:op.g=g:=by simpa[Trace.g?,ho] using hg
  rcases C'.handed i x op hx ho (by rw[hgo];exact hne) with⟨h1,h2⟩ | ⟨q,z,h1,h2,h3⟩
  ·exact qp (C'.gone_of_none zo h1) h2
  ·rcases h3 with rfl | h3
   ·rw[ho] at h1;cases h1;exact qp (hgo.symm.trans h2) hne
   ·exact⟨q,by simp[Trace.g?,h1,h2],h3⟩
 ·obtain⟨j,hj⟩:=List.mem_iff_getElem?.1 hx
  rw[List.getElem?_drop] at hj;have hj':gs[1+j]?=some x:=by simpa[crowd] using hj
  have hlt:=(Array.getElem?_eq_some_iff.1 hj').1;obtain⟨q,hq⟩:=C.gone_of_none (show 0<1+j by omega) hlt;have h:=C.wok (1+j) x zo hj';rw[hq] at h;exact⟨q,QuitsIn.leaves h⟩
 ·have hx':gs[j]?=some x:=hx
  have hlt:=(Array.getElem?_eq_some_iff.1 hx').1;obtain⟨q,hq⟩:=C.gone_of_none (show 0<j by omega) hlt;have h:=C.wok j x zo hx';rw[hq] at h;exact⟨q,by rw[C'.tr.wordless.deaf];exact QuitsIn.hears _ 0 h⟩
theorem GoM.ends(h:GoM P Post s O0 X0 g0 w0) :
 ∀gs w sl t O X wk,Conf P s gs w t O X wk->wk 0=.gone 0->O 0=O0->Rely X0 w0 (X 0) w->gs[0]?=some g0->EndsM P Post (crowd gs w sl) t:=by
 induction h with
 | @step s O0 X0 g0 w0 hs hgo h ih =>
  refine jc6 hs λgs w sl d sl' t O X wk C hz hO hR h0 hst=>?_;have hm:MainAt s g0:=.inl hs;have hlt:0<gs.size:=(Array.getElem?_eq_some_iff.1 h0).1;obtain⟨g',w',es,k1,k2⟩:=hgo (X 0) (w.at d) hR;have hG:Guar (O 0) (X 0) (w.at d) w' es:=by rw[hO];exact k2
  have hrun:=runT_crowd_go (P:=P) (sl:=sl') (i:=0) h0 (show stepG P (0 == 0) g0 (w.at d)=_ from k1);rw[C.gs_go h0 hm (C.chan_of (.inl rfl) hG)] at hrun;have C':=C.goStep h0 hm (g:=g0) (g':=g') (.inl rfl) hlt hG (wk':=wk) (λ_ _=>rfl) id Iff.rfl rfl (λh=>by omega) (fn:=g0.frame.fn) (pos:=g0.frame.place);refine jbz (hst.trans hrun) (ih (X 0) (w.at d) g' w' es hR k1 _ w' sl' _ _ _ wk C' hz (by rw[qf rfl,hO]) (by rw[qf rfl];exact Rely.refl _ _) (by rw[zg hlt]))
 | @done O0 X0 g0 w0 hs h =>
  refine jc6 hs λgs w sl d sl' t O X wk C hz hO hR h0 hst=>?_;have hm:MainAt none g0:=.inl hs;have hlt:0<gs.size:=(Array.getElem?_eq_some_iff.1 h0).1;obtain⟨v,es,k1,k2,k3⟩:=h (X 0) (w.at d) hR;have hrun:=runT_many_ended (P:=P) (sl:=sl') (i:=0) h0 (show stepG P (0 == 0) g0 (w.at d)=_ from k1);have C':=C.stay h0 hm (g':=g0) (.inl rfl) hlt (by rw[hO];exact k2) (wk':=wk) (λ_ _=>rfl) id Iff.rfl rfl (λh=>by omega) (fn:=g0.frame.fn) (pos:=g0.frame.place);exact juX (hst.trans hrun) (C.good C' k3)
 | @chan O0 X0 g0 w0 c hc hX0c hch h ih =>
  intro gs w sl t O X wk C hz hO hR h0;have hOc:O 0 c:=by rw[hO];exact hc
  have hXc:¬X 0 c:=C.tr.dis 0 c (.inl rfl) hOc;have hlt0:c<w0.heap.size:=(Array.getElem?_eq_some_iff.1 hch).1;have hch':w.heap[c]?=some (.chan 0 #[] false 0 0 false):=by rw[hR.block c hlt0 hX0c];exact hch
  have only:∀i,Act gs wk i->i=0:=by
   rintro i (h | ⟨h1,v,sa,h2⟩)
   ·exact h
   ·rcases Nat.eq_zero_or_pos i with rfl | hi
    ·rfl
    ·obtain⟨q,hq⟩:=C.gone_of_none hi h1
     rw[hq] at h2;cases h2
  refine ih gs w sl t (upd O 0 (λb=>O0 b/\b≠c)) (upd X 0 (λb=>X 0 b\/b=c)) wk ⟨⟨?_,?_,?_,?_,C.tr.clean,C.tr.wordless,C.tr.low,?_,?_⟩,?_,C.pend,?_,C.handed⟩ hz (upd_same _ _ _) ?_ h0
  ·intro i b hi hb
   obtain rfl:=only i hi;rw[upd_same] at hb ⊢;rintro(h | h)
   ·exact C.tr.dis 0 b (.inl rfl) (by rw[hO];exact hb.1) h
   ·exact hb.2 h
  ·intro i b hi hb
   obtain rfl:=only i hi;rw[upd_same] at hb;exact C.tr.olt 0 b (.inl rfl) (by rw[hO];exact hb.1)
  ·intro i b hi hb
   obtain rfl:=only i hi;rw[upd_same] at hb;rcases hb with hb | rfl
   ·exact C.tr.xlt 0 b (.inl rfl) hb
   ·exact C.tr.olt 0 _ (.inl rfl) hOc
  ·intro i j b hi hj hne hb
   exact qp ((only i hi).trans (only j hj).symm) hne
  ·intro i b hi hb
   obtain rfl:=only i hi;rw[upd_same] at hb;exact C.tr.knowO 0 b (.inl rfl) (by rw[hO];exact hb.1)
  ·intro i b hi hb
   obtain rfl:=only i hi;rw[upd_same] at hb;exact C.tr.knowX 0 b (.inl rfl) (λh=>hb (.inl h))
  ·intro i g hi hg
   obtain⟨q,hq⟩:=C.gone_of_none hi (Array.getElem?_eq_some_iff.1 hg).1;have:=C.wok i g hi hg;rw[hq] at this ⊢;exact this
  ·intro c' pd' e
   cases e;exact⟨⟨0,hch'⟩,λi hi=>by obtain rfl:=only i hi;rw[upd_same];exact .inr rfl⟩
  ·rw[upd_same]
   refine⟨hR.tape,hR.os,hR.output,hR.size,λb hb hx=>hR.block b hb (λh=>hx (.inl h)),λb=>?_⟩;rw[hR.iff b];constructor
   ·rintro((h | h) | h)
    ·exact .inl (.inl h)
    ·exact .inr h
    ·exact .inl (.inr h)
   ·rintro((h | h) | h)
    ·exact .inl (.inl h)
    ·exact .inr h
    ·exact .inl (.inr h)
 | @close O0 X0 g0 w0 c h ih =>
  intro gs w sl t O X wk C hz hO hR h0
  have allGone:∀i,0<i->i<gs.size->(wk i).Gone:=λi hi hlt=>by
   obtain⟨live,_,h2,h3⟩:=C.pend;have:live=[]:=by simpa[pdOf] using h3.symm
   apply zi;intro hn;have:=(h2 i).2 ⟨hi,hlt,hn⟩;subst ‹live=[]›;cases this
  refine ih gs w sl t O X wk ⟨C.tr,λi g hi hg=>?_,C.pend,λ_ _ e=>(by cases e),C.handed⟩ hz hO hR h0;obtain⟨q,hq⟩:=allGone i hi (Array.getElem?_eq_some_iff.1 hg).1;have:=C.wok i g hi hg;rw[hq] at this ⊢;exact this
 | @spawn O0 X0 g0 w0 c pd v O' hO' hs hgo h ih =>
  refine jc6 hs λgs w sl d sl' t O X wk C hz hO hR h0 hst=>?_;have hm:MainAt (some (c,pd)) g0:=.inl hs;have hlt:0<gs.size:=(Array.getElem?_eq_some_iff.1 h0).1;obtain⟨g',child,es,k1,k2,k3⟩:=hgo (X 0) (w.at d) hR;have hrun:=runT_crowd_spawn (P:=P) (sl:=sl') (i:=0) h0 (show stepG P (0 == 0) g0 (w.at d)=_ from k1);have C':=C.stay h0 hm (g':=g') (.inl rfl) hlt (by rw[hO];exact k2) (wk':=wk) (λ_ _=>rfl) id Iff.rfl rfl (λh=>by omega) (fn:=g0.frame.fn) (pos:=g0.frame.place);have C2:=C'.birth (by simpa using hlt) (O':=O') (λb hb=>by rw[hO];exact hO' b hb) k3 (fa:=g0.frame.fn) (fb:=child.frame.fn) (pa:=g0.frame.place) (pb:=g0.frame.place);rw[show (gs.setIfInBounds 0 g').size=gs.size by simp] at C2;refine jbz (hst.trans hrun) ?_
  rw[show t++((MemOp.ofEvents 0 g0.frame.fn g0.frame.place es).push { g:=0,fn:=g0.frame.fn,pos:=g0.frame.place,act:=.go gs.size } |>.push { g:=gs.size,fn:=child.frame.fn,pos:=g0.frame.place,act:=.start }) =
   t++MemOp.ofEvents 0 g0.frame.fn g0.frame.place es++#[{ g:=0,fn:=g0.frame.fn,pos:=g0.frame.place,act:=.go gs.size },{ g:=gs.size,fn:=child.frame.fn,pos:=g0.frame.place,act:=.start }] by
    apply Array.ext';simp]
  have hn:¬ 0=gs.size:=by omega
  exact ih (X 0) (w.at d) g' child es hR k1 _ (w.at d) sl' _ _ _ _ C2 (by rw[upd_ne _ _ hn];exact hz) (by rw[qf rfl]) (by rw[qe hn];exact Rely.refl _ _) (by
   rw[Array.getElem?_push,qe (by simpa using hn),zg hlt])
 | @recv O0 X0 g0 w0 c pd hne hs hgo h ih =>
  refine jc6 hs λgs w sl d sl' t O X wk C hz hO hR h0 hst=>?_;have hm:MainAt (some (c,pd)) g0:=.inl hs;have hlt:0<gs.size:=(Array.getElem?_eq_some_iff.1 h0).1;obtain⟨g₂,z,es,k1,k2⟩:=hgo (X 0) (w.at d) hR;obtain⟨⟨k,hch⟩,hXc⟩:=C.chan c pd rfl;have C':=C.stay h0 hm (g':=parked g₂ #[rcase c z] (.recv false)) (.inl rfl) hlt (by rw[hO];exact k2) (wk':=wk) (λ_ _=>rfl) id Iff.rfl rfl (λh=>by omega) (fn:=g0.frame.fn) (pos:=g0.frame.place);have h0':(gs.setIfInBounds 0 (parked g₂ #[rcase c z] (.recv false)))[0]?=some (parked g₂ #[rcase c z] (.recv false)):=by rw[zg hlt]
  by_cases hp:partners (gs.setIfInBounds 0 ph) c true=[]
  ·have hrun:=crowd_waits (P:=P) (gs:=gs) (sl:=sl') (i:=0) h0 (show stepG P (0 == 0) g0 (w.at d)=_ from k1) (λcc hcc=>by
    simp only[List.mem_toArray,List.mem_singleton] at hcc;subst hcc
    exact ways_recv_none hch hp)
   refine jbz (hst.trans hrun) (jpG (g₂:=g₂) (z:=z) hne (O0:=O0) (X0:=X 0) (w0:=w.at d) (λv l₁ l₂ gs w sl t O X wk hpd C hz hO hR' h0=>?_) _ (w.at d) sl' _ O X wk C' hz hO (Rely.refl _ _) h0' (λi v hi hlt hk=>?_))
   ·exact ih _ _ g₂ z es l₁ v l₂ hR k1 hpd gs w sl t O X wk C hz hO hR' h0
   ·have hlt':i<gs.size:=by simpa using hlt
    have hgi:gs[i]?=some gs[i]:=Array.getElem?_eq_getElem hlt';have hw:=C.wok i _ hi hgi;rw[hk] at hw;obtain⟨g₄,z₂,q,e1,_⟩:=hw
    have hmem:(i,0)∈partners (gs.setIfInBounds 0 ph) c true:=by
     rw[mem_partners];refine⟨gs[i],by rw[zh zo];exact hgi,?_⟩;rw[e1];show 0∈offersAt (parked g₄ #[scase c v z₂] .send) c true;rw[offersAt_parked_send];simp
    rw[hp] at hmem;cases hmem
  ·obtain⟨j,gj,vj,zj,shj,d',hj0,hgj,hrun⟩:=crowd_recv_meets_some (P:=P) (gs:=gs) (sl:=sl') (i:=0) h0 (show stepG P (0 == 0) g0 (w.at d)=_ from k1) hch hp (λj k' hjk=>by
    obtain⟨x,hx,hk'⟩:=mem_partners.1 hjk;rcases jb7 hx with⟨_,rfl⟩ | ⟨hj,hx⟩
    ·rw[offersAt_ph] at hk';cases hk'
    ·have hw:=C.wok j x zo hx
     cases hk:wk j with
     | work v sa=>rw[hk] at hw;obtain⟨rfl,_,_,hw⟩:=hw;rw[offersAt_of_not_blocked (by rw[hw.run];decide)] at hk';cases hk'
     | park v =>
      rw[hk] at hw;obtain⟨g₄,z₂,q,rfl,_⟩:=hw;have hk'':k'∈offersAt (parked g₄ #[scase c v z₂] .send) c true:=hk';rw[offersAt_parked_send,qf rfl] at hk'';exact⟨by simpa using hk'',hj,g₄,v,z₂,.send,hx⟩
     | gone q=>rw[hk] at hw;rw[offersAt_of_not_blocked (by rcases QuitsIn.status hw with e | e<;>rw[e]<;>decide)] at hk';cases hk')
   have hsh:shj=.send:=by
    have hw:=C.wok j _ zo hgj;cases hk:wk j with
    | work v sa=>rw[hk] at hw;obtain⟨h1,_,_,h4⟩:=hw;have:=h4.run;rw[h1] at this;cases this
    | park v=>rw[hk] at hw;obtain⟨_,_,_,e,_⟩:=hw;exact(jia e).2.1
    | gone q=>rw[hk] at hw;rcases QuitsIn.status hw with e | e<;>cases e
   subst hsh;rw[finishComm_recv,finishComm_send] at hrun;obtain⟨l₁,l₂,q',hpd,C2⟩:=C'.meet (g₂:=g₂) (v:=vj) (z:=z) (j:=j) zo (by rw[zh (λe=>hj0 e.symm)];exact hgj) (by simpa using hlt) hch d' (fa:=gj.frame.fn) (fb:=g₂.frame.fn) (pa:=gj.frame.place) (pb:=g₂.frame.place);have hj0':¬ 0=j:=λe=>hj0 e.symm
   have egs:((gs.setIfInBounds 0 (parked g₂ #[rcase c z] (.recv false))).setIfInBounds 0 (Go.Conc.served g₂ vj)).setIfInBounds j (Go.Conc.served gj undef)=(gs.setIfInBounds j (Go.Conc.served gj undef)).setIfInBounds 0 (Go.Conc.served g₂ vj):=by
    apply Array.ext_getElem?;intro l
    by_cases hl:j=l
    ·subst hl
     have hltj:j<gs.size:=(Array.getElem?_eq_some_iff.1 hgj).1;rw[zg (by simpa using hltj),zh hj0',zg hltj]
    ·rw[zh hl]
     by_cases hl0:0=l
     ·subst hl0
      rw[zg (by simpa using hlt),zg (by simpa using hlt)]
     ·rw[zh hl0,zh hl0,zh hl0,zh hl]
   rw[egs] at C2;refine jbz (hst.trans hrun) ?_;rw[<-Array.append_assoc];exact ih _ _ g₂ z es l₁ vj l₂ hR k1 hpd _ _ sl' _ O X _ C2 (by rw[upd_ne _ _ hj0'];exact hz) hO (jho (hXc 0 (.inl rfl)) _) (by rw[zg (by simpa using hlt)];rfl)
theorem GoM.run(h:GoM P Post none O0 X0 g0 w0)(hd:∀b,O0 b->¬X0 b)(ho:∀b,O0 b->b<w0.heap.size)(hx:∀b,X0 b->b<w0.heap.size):EndsM P Post (solo g0 w0) #[]:=by
 rw[solo_eq_crowd]
 have h1:∀i,Act #[g0] (λ_=>Wk.gone 0) i->i=0:=by
  rintro i (h | ⟨_,v,sa,h⟩)
  ·exact h
  ·cases h
 have nt:∀k x,¬touchAt #[] k=some x:=λk x hx=>by simp[touchAt,Trace.act?] at hx
 refine h.ends #[g0] w0 none #[] (λ_=>O0) (λ_=>X0) (λ_=>.gone 0) ⟨⟨λi b _=>hd b,λi b _=>ho b,λi b _=>hx b,λi j b hi hj hne=>qp ((h1 i hi).trans (h1 j hj).symm) hne,λsaid=>?_,λop hop=>by simp at hop,λk x hx=>qp hx (nt k x),λi b _ _ k x a hx=>qp hx (nt k x),λi b _ _ k x a hx=>qp hx (nt k x)⟩,λi g hi hg=>?_,⟨[],by simp,λi=>?_,rfl⟩,λc pd e=>(by cases e),λk x op hx=>qp hx (nt k x)⟩ rfl rfl (Rely.refl _ _) rfl
 ·rintro⟨i,j,_,⟨a,b,ha,_⟩,_⟩
  exact nt i a ha
 ·have:i<1:=by simpa using (Array.getElem?_eq_some_iff.1 hg).1
  omega
 ·constructor
  ·intro h;cases h
  ·rintro⟨_,_,h⟩;exact qp ⟨0,rfl⟩ h
structure Closed(P:Program)(main:Bool)(T:(Nat->Prop)->(Nat->Prop)->Goroutine->World->Prop):Prop where
 step:∀O X g w,g.status=.running->(∀X₁ w₁,Rely X w X₁ w₁->∃g' w' es,stepG P main g w₁=.go g' w' es/\Guar O X₁ w₁ w' es/\T (grow O w₁.heap.size w'.heap.size) X₁ g' w')->T O X g w
 rely:∀O X g w X₁ w₁,T O X g w->Rely X w X₁ w₁->T O X₁ g w₁
variable{P:Program}{c:Nat}{v:Value}{Post:Value->World->Prop}
theorem jdB:Closed P false (GoW P c v) :=
 ⟨λO X g w hs h=>.step hs (λX₁ w₁ hr=>let ⟨g',w',es,h1,h2,_⟩:=h X₁ w₁ hr;⟨g',w',es,h1,h2⟩)
  (λX₁ w₁ g' w' es hr hst=>by
    obtain⟨g2,w2,es2,h1,_,h3⟩:=h X₁ w₁ hr
    rw[h1] at hst;cases hst;exact h3),
  λO X g w X₁ w₁ h hr=>h.rely hr⟩
theorem Rely.off{X X₁:Nat->Prop}{w w₁:World}(h:Rely X w X₁ w₁)(c:Nat):Rely (λb=>X b\/b=c) w (λb=>X₁ b\/b=c) w₁:=by
 refine⟨h.tape,h.os,h.output,h.size,λb hb hx=>h.block b hb (λhX=>hx (.inl hX)),λb=>?_⟩;rw[h.iff b];constructor
 ·rintro((h | h) | h)
  ·exact .inl (.inl h)
  ·exact .inr h
  ·exact .inl (.inr h)
 ·rintro((h | h) | h)
  ·exact .inl (.inl h)
  ·exact .inr h
  ·exact .inl (.inr h)
theorem GoM.rely{s:Option (Nat × List Value)}{O X:Nat->Prop}(h:GoM P Post s O X g w):∀{X₁:Nat->Prop}{w₁:World},Rely X w X₁ w₁->GoM P Post s O X₁ g w₁:=by
 induction h with
 | step hs hgo h ih=>exact λhr=>.step hs (λX₂ w₂ h₂=>hgo X₂ w₂ (hr.trans h₂)) (λX₂ w₂ g' w' es h₂=>h X₂ w₂ g' w' es (hr.trans h₂))
 | done hs h=>exact λhr=>.done hs (λX₂ w₂ h₂=>h X₂ w₂ (hr.trans h₂))
 | @chan O X g w c hc hX hch h ih =>
  intro X₁ w₁ hr;have hlt:c<w.heap.size:=(Array.getElem?_eq_some_iff.1 hch).1;exact .chan c hc (λhx=>by rcases(hr.iff c).1 hx with h' | h';exact hX h';omega) (by rw[hr.block c hlt hX];exact hch) (ih (hr.off c))
 | close h ih=>exact λhr=>.close (ih hr)
 | spawn v O' hO hs hgo h ih=>exact λhr=>.spawn v O' hO hs (λX₂ w₂ h₂=>hgo X₂ w₂ (hr.trans h₂)) (λX₂ w₂ g' child es h₂=>h X₂ w₂ g' child es (hr.trans h₂))
 | recv hne hs hgo h ih=>exact λhr=>.recv hne hs (λX₂ w₂ h₂=>hgo X₂ w₂ (hr.trans h₂)) (λX₂ w₂ g₂ z es l₁ v l₂ h₂=>h X₂ w₂ g₂ z es l₁ v l₂ (hr.trans h₂))
theorem jbQ(s:Option (Nat × List Value)):Closed P true (GoM P Post s) :=
 ⟨λO X g w hs h=>.step hs (λX₁ w₁ hr=>let ⟨g',w',es,h1,h2,_⟩:=h X₁ w₁ hr;⟨g',w',es,h1,h2⟩)
  (λX₁ w₁ g' w' es hr hst=>by
    obtain⟨g2,w2,es2,h1,_,h3⟩:=h X₁ w₁ hr
    rw[h1] at hst;cases hst;exact h3),
  λO X g w X₁ w₁ h hr=>h.rely hr⟩
theorem Closed.idle{main:Bool}{T:(Nat->Prop)->(Nat->Prop)->Goroutine->World->Prop}(hT:Closed P main T){O X:Nat->Prop}(hs:g.status=.running)(h:∀w,stepG P main g w=.go g' w)(k:T O X g' w):T O X g w :=
 hT.step O X g w hs λX₁ w₁ hr=>⟨g',w₁,#[],h w₁,Guar.idle _ _ _,by rw[jbm];exact hT.rely _ _ _ _ _ _ k hr⟩
end Go.Fan
