/- Rules for walking through the model's code over a symbolic state: what a function is called with, what it owns, what it answers. No condition beyond what each rule says. -/
import Derived.OrdersHeld
import Derived.Laws.AppendOwn
import Derived.Laws.Rows
import Derived.Laws.Build
import Derived.Test.YtgmpjpaekpefdaaGreatKnS
import Derived.Conc.CompanyDraw
import Derived.Conc.AppendEvents3
import Derived.Laws.OwnMore
import Derived.Below
import Derived.Laws.StructEq
import Derived.ChangeSlices
import Derived.SizedLaws
import Derived.WideShapes
namespace Go.Av
open Go
variable{ops:Array Oper}{tys:Array TypeId}{dst:Option Tmp}{m q:Nat}{Mod:List Nat}{fn:Func}{w' w1:World}{O':Nat->Prop}{es:Array Event}{caps:List Value}{c1 c2:Code}{pos:String}{after:Array Edge}
def capB:Nat:=140737488355328
inductive D where
 | v (x:Value)
 | sl (sz:Nat) (l:List D)
 | agg (l:List D)
 | tup (l:List D)
 | el (d:D)
abbrev D.i(n:Int):D:=.v (.int .i64 n)
abbrev D.b(c:Bool):D:=.v (.bool c)
abbrev D.p(b off:Nat):D:=.v (.pointer (some ⟨b,off,none⟩))
abbrev D.nil:D:=.v (.slice none 0 0)
def LieAt(w:World)(O:Nat->Prop)(a:Addr)(cs:List Value):Prop :=
 cs=[]\/(¬O a.block/\a.spot=none/\∀j c,cs[j]?=some c->w.cell? ⟨a.block,a.off+j,none⟩=some c)
mutual
def Rep(w:World)(O:Nat->Prop):D->Value->Prop
 | .v x,y=>y=x
 | .agg l,y=>∃cs:List Value,y=.agg cs.toArray/\RepL w O l cs
 | .tup l,y=>∃cs:List Value,y=.tuple cs.toArray/\RepT w O l cs
 | .el d,y=>∃a c,y=.pointer (some a)/\Rep w O d c/\(∀u∈c.cells.toList,u.oneCell'=true)/\c.cells.toList≠[]/\LieAt w O a c.cells.toList
 | .sl sz l,y=>l.length<=capB/\∃cs,RepE w O sz l cs/\((∃a cap,y=.slice (some a) l.length cap/\l.length<=cap/\LieAt w O a cs)\/(y=.slice none 0 0/\l=[]))
def RepL(w:World)(O:Nat->Prop):List D->List Value->Prop
 | [],cs=>cs=[]
 | d::r,cs=>∃c cr,cs=c::cr/\Rep w O d c/\c.oneCell'=true/\RepL w O r cr
def RepT(w:World)(O:Nat->Prop):List D->List Value->Prop
 | [],cs=>cs=[]
 | d::r,cs=>∃c cr,cs=c::cr/\Rep w O d c/\RepT w O r cr
def RepE(w:World)(O:Nat->Prop)(sz:Nat):List D->List Value->Prop
 | [],cs=>cs=[]
 | d::r,cs=>∃c cr,cs=c.cells.toList++cr/\c.cells.size=sz/\(∀u∈c.cells.toList,u.oneCell'=true)/\Rep w O d c/\RepE w O sz r cr
end
section
variable{w w':World}{O O':Nat->Prop}
theorem LieAt.mono(h:∀b,b<w.heap.size->¬O b->¬O' b/\w'.heap[b]?=w.heap[b]?){a:Addr}{cs:List Value}(hl:LieAt w O a cs):LieAt w' O' a cs:=by
 rcases hl with h0 | ⟨h1,h2,h3⟩
 ·exact .inl h0
 ·cases cs with
  | nil=>exact .inl rfl
  | cons c r =>
   have hb:=World.block_lt_of_cell? w _ (h3 0 c rfl);obtain⟨k1,k2⟩:=h a.block hb h1;exact .inr ⟨k1,h2,λj c hj=>by rw[World.cell?_of_block (w:=w) (w':=w')];exact h3 j c hj;exact k2⟩
mutual
theorem Rep.mono(h:∀b,b<w.heap.size->¬O b->¬O' b/\w'.heap[b]?=w.heap[b]?):∀(d:D)(y:Value),Rep w O d y->Rep w' O' d y
 | .v x,y,hy=>hy
 | .agg l,y,hy=>by
  simp only[Rep] at hy ⊢;obtain⟨cs,h1,h2⟩:=hy;exact⟨cs,h1,RepL.mono h l cs h2⟩
 | .tup l,y,hy=>by
  simp only[Rep] at hy ⊢;obtain⟨cs,h1,h2⟩:=hy;exact⟨cs,h1,RepT.mono h l cs h2⟩
 | .el d,y,hy=>by
  simp only[Rep] at hy ⊢;obtain⟨a,c,h1,h2,h3,h4,h5⟩:=hy;exact⟨a,c,h1,Rep.mono h d c h2,h3,h4,h5.mono h⟩
 | .sl sz l,y,hy=>by
  simp only[Rep] at hy ⊢;obtain⟨hb,cs,h1,h2⟩:=hy;refine⟨hb,cs,RepE.mono h sz l cs h1,?_⟩;rcases h2 with⟨a,cap,h2,h3,h4⟩ | h2
  ·exact .inl ⟨a,cap,h2,h3,h4.mono h⟩
  ·exact .inr h2
theorem RepL.mono(h:∀b,b<w.heap.size->¬O b->¬O' b/\w'.heap[b]?=w.heap[b]?):∀(l:List D)(cs:List Value),RepL w O l cs->RepL w' O' l cs
 | [],cs,hy=>by simpa[RepL] using hy
 | d::r,cs,hy=>by
  simp only[RepL] at hy ⊢;obtain⟨c,cr,h1,h2,h3,h4⟩:=hy;exact⟨c,cr,h1,Rep.mono h d c h2,h3,RepL.mono h r cr h4⟩
theorem RepT.mono(h:∀b,b<w.heap.size->¬O b->¬O' b/\w'.heap[b]?=w.heap[b]?):∀(l:List D)(cs:List Value),RepT w O l cs->RepT w' O' l cs
 | [],cs,hy=>by simpa[RepT] using hy
 | d::r,cs,hy=>by
  simp only[RepT] at hy ⊢;obtain⟨c,cr,h1,h2,h4⟩:=hy;exact⟨c,cr,h1,Rep.mono h d c h2,RepT.mono h r cr h4⟩
theorem RepE.mono(h:∀b,b<w.heap.size->¬O b->¬O' b/\w'.heap[b]?=w.heap[b]?)(sz:Nat):∀(l:List D)(cs:List Value),RepE w O sz l cs->RepE w' O' sz l cs
 | [],cs,hy=>by simpa[RepE] using hy
 | d::r,cs,hy=>by
  simp only[RepE] at hy ⊢;obtain⟨c,cr,h1,h2,h3,h4,h5⟩:=hy;exact⟨c,cr,h1,h2,h3,Rep.mono h d c h4,RepE.mono h sz r cr h5⟩
end
end
inductive Ob where
 | box (b:Nat) (ty:TypeId) (cs:List D)
 | arr (v:Value) (ety:TypeId) (sz:Nat) (l:List D)
def Ob.blk:Ob->Option Nat
 | .box b _ _=>some b
 | .arr v _ _ _=>v.ownBlock
def Ob.Holds(w:World)(O:Nat->Prop):Ob->Prop
 | .box b ty cs=>∃vs:List Value,w.heap[b]?=some (.cells vs.toArray ty (0,0))/\RepL w O cs vs
 | .arr v ety sz l=>0<sz/\l.length<=capB/\∃xs,w.ownsRow 0 ety sz v l.length xs/\RepE w O sz l xs
abbrev Env:=List (Nat × D)
abbrev Heap:=List Ob
def look:Env->Nat->Option D
 | [],_=>none
 | (j,d)::r,i=>bif Nat.beq j i then some d else look r i
def Hb(H:Heap):List Nat:=H.filterMap Ob.blk
def Own(F:Nat->Prop)(H:Heap):Nat->Prop:=λb=>F b\/b∈Hb H
structure HeapOk(F:Nat->Prop)(H:Heap)(w:World):Prop where
 holds:∀o∈H,o.Holds w (Own F H)
 nodup:(Hb H).Nodup
 disj:∀b∈Hb H,¬F b
 frb:∀b,F b->b<w.heap.size
structure Fr(M:List Nat)(w w':World):Prop where
 os:w'.os=w.os
 tape:w'.tape=w.tape
 output:w'.output=w.output
 size:w.heap.size<=w'.heap.size
 block:∀b,b<w.heap.size->b∉M->w'.heap[b]?=w.heap[b]?
theorem Fr.refl(M:List Nat)(w:World):Fr M w w:=⟨rfl,rfl,rfl,Nat.le_refl _,λ_ _ _=>rfl⟩
theorem Fr.trans{M M':List Nat}{w0 w:World}(h:Fr M w0 w)(k:Fr M' w w')(hM:∀b∈M',b∈M\/w0.heap.size<=b):Fr M w0 w' :=
 ⟨k.os.trans h.os,k.tape.trans h.tape,k.output.trans h.output,Nat.le_trans h.size k.size,
  λb hb hm=>(k.block b (qA hb h.size) (λhmem=>by rcases hM b hmem with h' | h';exact hm h';omega)).trans (h.block b hb hm)⟩
theorem Fr.grown{w:World}{row:Option Nat}(h:w.grownBy w' row):Fr row.toList w w' :=
 ⟨h.os,h.tape,h.output,h.size,λb hb hm=>h.block b hb (λe=>hm (by cases row<;>simp_all))⟩
theorem Fr.weaken{M M':List Nat}{w:World}(h:Fr M w w')(hs:∀b∈M,b∈M'):Fr M' w w' :=
 ⟨h.os,h.tape,h.output,h.size,λb hb hm=>h.block b hb (λh'=>hm (hs b h'))⟩
structure Rel(F:Nat->Prop)(M:List Nat)(w0:World)(n:Nat)(env:Env)(H:Heap)(a:Act)(w:World):Prop where
 env:∀i d,look env i=some d->∃v,a.tmps[i]?=some v/\Rep w (Own F H) d v
 heap:HeapOk F H w
 fr:Fr M w0 w
 mine:∀b∈Hb H,b∈M\/w0.heap.size<=b
 f0:∀b,F b->b<w0.heap.size
 dfr:a.defers=[]
 tsz:a.tmps.size=n
theorem Rel.eval{F M w0 n env H a w}(h:Rel F M w0 n env H a w){t:Nat}{d:D}(hx:look env t=some d):Rep w (Own F H) d (a.eval (.tmp t)):=by
 obtain⟨v,h1,h2⟩:=h.env t d hx;have:a.eval (.tmp t)=v:=by simp[Act.eval,h1]
 rwa [this]
theorem jcQ(j:Nat)(d:D)(r:Env)(i:Nat):look ((j,d)::r) i=if j=i then some d else look r i:=by
 simp only[look]
 by_cases h:j=i
 ·subst h;simp
 ·have:Nat.beq j i=false:=Bool.eq_false_iff.2 (λh'=>h (Nat.eq_of_beq_eq_true h'))
  simp[this,h]
theorem Rel.put{F M w0 n env H a w}(h:Rel F M w0 n env H a w){t:Nat}{d:D}{v:Value}(hd:Rep w (Own F H) d v)(hn:t<n):Rel F M w0 n ((t,d)::env) H (a.put (some t) v) w:=by
 refine⟨λi d' hi=>?_,h.heap,h.fr,h.mine,h.f0,h.dfr,?_⟩
 ·rw[jcQ] at hi
  by_cases e:t=i
  ·subst e
   simp only[if_true,qs] at hi;subst hi;refine⟨v,?_,hd⟩;simp[Act.put,h.tsz,hn]
  ·rw[qe e] at hi
   obtain⟨u,h1,h2⟩:=h.env i d' hi;refine⟨u,?_,h2⟩;simp[Act.put,e,h1]
 ·simp[Act.put,h.tsz]
theorem Rel.step{F M w0 n env H a w}(h:Rel F M w0 n env H a w){H1:Heap}(hok:HeapOk F H1 w1)(hfr:Fr (Hb H) w w1)
 (hnew:∀b∈Hb H1,b∈Hb H\/w.heap.size<=b):Rel F M w0 n env H1 a w1:=by
 refine⟨λi d hi=>?_,hok,h.fr.trans hfr h.mine,λb hb=>?_,h.f0,h.dfr,h.tsz⟩
 ·obtain⟨u,h1,h2⟩:=h.env i d hi
  refine⟨u,h1,Rep.mono (λb hb hO=>⟨λhO'=>?_,hfr.block b hb (λhm=>hO (.inr hm))⟩) d u h2⟩;rcases hO' with hF | hm
  ·exact hO (.inl hF)
  ·rcases hnew b hm with h' | h'
   ·exact hO (.inr h')
   ·omega
 ·rcases hnew b hb with h' | h'
  ·exact h.mine b h'
  ·exact .inr (Nat.le_trans h.fr.size h')
theorem Ob.Holds.mono{w:World}{O:Nat->Prop}(h:∀b,b<w.heap.size->¬O b->¬O' b/\w'.heap[b]?=w.heap[b]?){o:Ob}(hb:∀b,o.blk=some b->w'.heap[b]?=w.heap[b]?)(ho:o.Holds w O):o.Holds w' O':=by
 cases o with
 | box b ty cs =>
  obtain⟨vs,h1,h2⟩:=ho;exact⟨vs,by rw[hb b rfl];exact h1,RepL.mono h cs vs h2⟩
 | arr v ety sz l =>
  obtain⟨hsz,hl,xs,h1,h2⟩:=ho;refine⟨hsz,hl,xs,?_,RepE.mono h sz l xs h2⟩;refine⟨h1.1,?_⟩;rcases h1.2 with hn | ⟨g,cap,cur,rfl,h3,h4,h5⟩
  ·exact .inl hn
  ·exact .inr ⟨g,cap,cur,rfl,h3,by rw[hb g rfl];exact h4,h5⟩
theorem Ob.Holds.blk_lt{w:World}{O:Nat->Prop}{o:Ob}(h:o.Holds w O){b:Nat}(hb:o.blk=some b):b<w.heap.size:=by
 cases o with
 | box b' ty cs =>
  obtain⟨vs,h1,_⟩:=h;simp only[Ob.blk,qs] at hb;subst hb;exact(Array.getElem?_eq_some_iff.1 h1).1
 | arr v ety sz l =>
  obtain⟨_,_,xs,h1,_⟩:=h;exact(h1.lt b hb).2
theorem HeapOk.blk_lt{F H w}(h:HeapOk F H w){b:Nat}(hb:b∈Hb H):b<w.heap.size:=by
 obtain⟨o,ho,hob⟩:=List.mem_filterMap.1 hb;exact(h.holds o ho).blk_lt hob
theorem jaG{H:Heap}{o:Ob}{b:Nat}(ho:o∈H)(hb:o.blk=some b):b∈Hb H:=List.mem_filterMap.2 ⟨o,ho,hb⟩
theorem HeapOk.same{F H w}(h:HeapOk F H w){i j:Nat}{o o':Ob}{b:Nat}(hi:H[i]?=some o)(hj:H[j]?=some o')(ho:o.blk=some b)(ho':o'.blk=some b):i=j:=by
 have hn:=h.nodup
 clear h
 induction H generalizing i j with
 | nil=>simp at hi
 | cons x r ih =>
  simp only[Hb,List.filterMap_cons] at hn;cases i with
  | zero =>
   cases j with
   | zero=>rfl
   | succ j =>
    simp only[List.getElem?_cons_zero,qs,List.getElem?_cons_succ] at hi hj;subst hi;rw[ho] at hn;exact qp (jaG (qk hj) ho') (List.nodup_cons.1 hn).1
  | succ i =>
   cases j with
   | zero =>
    simp only[List.getElem?_cons_zero,qs,List.getElem?_cons_succ] at hi hj;subst hj;rw[ho'] at hn;exact qp (jaG (qk hi) ho) (List.nodup_cons.1 hn).1
   | succ j =>
    simp only[List.getElem?_cons_succ] at hi hj
    have:(Hb r).Nodup:=by
     split at hn
     ·exact hn
     ·exact(List.nodup_cons.1 hn).2
    exact congrArg _ (ih hi hj this)
theorem joT{H:Heap}{k:Nat}{o':Ob}{b:Nat}(hb:b∈Hb (H.set k o')):b∈Hb H\/o'.blk=some b:=by
 obtain⟨x,hx,hxb⟩:=List.mem_filterMap.1 hb;rcases List.mem_or_eq_of_mem_set hx with h | rfl
 ·exact .inl (jaG h hxb)
 ·exact .inr hxb
theorem HeapOk.upd{F H w w1}(h:HeapOk F H w)(hF:∀b,F b->b<w.heap.size){k:Nat}{o o':Ob}(hk:H[k]?=some o)(hfr:Fr o.blk.toList w w1)
 (ho':∀O',(∀b,b<w.heap.size->¬Own F H b->¬O' b)->o'.Holds w1 O') (hblk:o'.blk=o.blk\/∀b,o'.blk=some b->w.heap.size<=b) :
 HeapOk F (H.set k o') w1:=by
 have hkl:k<H.length:=(List.getElem?_eq_some_iff.1 hk).1
 have hown:∀b,b<w.heap.size->¬Own F H b->¬Own F (H.set k o') b:=by
  intro b hb hO hO';rcases hO' with h' | h'
  ·exact hO (.inl h')
  ·rcases joT h' with h' | h'
   ·exact hO (.inr h')
   ·rcases hblk with e | e
    ·exact hO (.inr (jaG (qk hk) (e ▸ h')))
    ·have:=e b h';omega
 have hrep:∀b,b<w.heap.size->¬Own F H b->¬Own F (H.set k o') b/\w1.heap[b]?=w.heap[b]?:=λb hb hO =>
  ⟨hown b hb hO,hfr.block b hb (λhm=>hO (.inr (jaG (qk hk) (by simpa using hm))))⟩
 refine⟨λx hx=>?_,?_,λb hb=>?_,λb hb=>qA (hF b hb) hfr.size⟩
 ·obtain⟨j,hj⟩:=List.getElem?_of_mem hx
  rw[List.getElem?_set] at hj
  by_cases hkj:k=j
  ·rw[qf hkj] at hj
   subst hkj;simp only[hkl,if_true,qs] at hj;subst hj;exact ho' _ hown
  ·rw[qe hkj] at hj
   refine(h.holds x (qk hj)).mono hrep (λb hb=>hfr.block b ((h.holds x (qk hj)).blk_lt hb) (λhm=>?_));exact hkj (h.same hk hj (by simpa using hm) hb)
 ·-- nodup
  have hn:=h.nodup;have hlt:∀b∈Hb H,b<w.heap.size:=λb hb=>h.blk_lt hb
  clear hrep hown hfr ho' hF h
  induction H generalizing k with
  | nil=>simp at hk
  | cons x r ih =>
   cases k with
   | zero =>
    simp only[List.getElem?_cons_zero,qs] at hk;subst hk;simp only[List.set_cons_zero];simp only[Hb,List.filterMap_cons] at hn hlt ⊢;cases e':o'.blk with
    | none =>
     simp only;split at hn
     ·exact hn
     ·exact(List.nodup_cons.1 hn).2
    | some b' =>
     simp only;rcases hblk with e | e
     ·rw[<-e,e'] at hn
      exact hn
     ·refine List.nodup_cons.2 ⟨λhm=>?_,?_⟩
      ·have h1:=e b' e'
       have h2:=hlt b' (by split<;>first | exact hm | exact qj _ hm);omega
      ·split at hn
       ·exact hn
       ·exact(List.nodup_cons.1 hn).2
   | succ k =>
    simp only[List.getElem?_cons_succ] at hk;simp only[List.set_cons_succ];have hkr:k<r.length:=(List.getElem?_eq_some_iff.1 hk).1;simp only[Hb,List.filterMap_cons] at hn hlt ⊢;cases ex:x.blk with
    | none =>
     rw[ex] at hn hlt;simp only at hn hlt ⊢;exact ih hk hkr hn hlt
    | some bx =>
     rw[ex] at hn hlt;simp only at hn hlt ⊢;refine List.nodup_cons.2 ⟨λhm=>?_,ih hk hkr (List.nodup_cons.1 hn).2 (λb hb=>hlt b (qj _ hb))⟩;rcases joT (H:=r) hm with h' | h'
     ·exact(List.nodup_cons.1 hn).1 h'
     ·rcases hblk with e | e
      ·exact(List.nodup_cons.1 hn).1 (jaG (qk hk) (e ▸ h'))
      ·have h1:=e bx h'
       have h2:=hlt bx (za);omega
 ·rcases joT hb with h' | h'
  ·exact h.disj b h'
  ·rcases hblk with e | e
   ·exact h.disj b (jaG (qk hk) (e ▸ h'))
   ·intro hF';have h1:=e b h';have h2:=hF b hF';omega
theorem HeapOk.add{F H w w1}(h:HeapOk F H w){o':Ob}(hfr:Fr [] w w1)
 (ho':∀O',(∀b,b<w.heap.size->¬Own F H b->¬O' b)->o'.Holds w1 O') (hblk:∀b,o'.blk=some b->w.heap.size<=b) :
 HeapOk F (o'::H) w1:=by
 have hmem:∀b,b∈Hb (o'::H)->b∈Hb H\/o'.blk=some b:=by
  intro b hb;obtain⟨x,hx,hxb⟩:=List.mem_filterMap.1 hb;rcases zf hx with rfl | hx
  ·exact .inr hxb
  ·exact .inl (jaG hx hxb)
 have hown:∀b,b<w.heap.size->¬Own F H b->¬Own F (o'::H) b:=by
  intro b hb hO hO';rcases hO' with h' | h'
  ·exact hO (.inl h')
  ·rcases hmem b h' with h' | h'
   ·exact hO (.inr h')
   ·have:=hblk b h';omega
 refine⟨λx hx=>?_,?_,λb hb=>?_,λb hb=>qA (h.frb b hb) hfr.size⟩
 ·rcases zf hx with rfl | hx
  ·exact ho' _ hown
  ·exact(h.holds x hx).mono (λb hb hO=>⟨hown b hb hO,hfr.block b hb (by simp)⟩) (λb hb=>hfr.block b ((h.holds x hx).blk_lt hb) (by simp))
 ·simp only[Hb,List.filterMap_cons]
  cases e:o'.blk with
  | none=>exact h.nodup
  | some b=>exact List.nodup_cons.2 ⟨λhm=>by have h1:=hblk b e;have h2:=h.blk_lt hm;omega,h.nodup⟩
 ·rcases hmem b hb with h' | h'
  ·exact h.disj b h'
  ·intro hF;have h1:=hblk b h';have h2:=h.frb b hF;omega
theorem Rel.add{F M w0 n env H a w}(h:Rel F M w0 n env H a w){o':Ob}(hfr:Fr [] w w1)
 (ho':∀O',(∀b,b<w.heap.size->¬Own F H b->¬O' b)->o'.Holds w1 O') (hblk:∀b,o'.blk=some b->w.heap.size<=b):Rel F M w0 n env (o'::H) a w1:=by
 refine h.step (h.heap.add hfr ho' hblk) (hfr.weaken (by simp)) (λb hb=>?_);obtain⟨x,hx,hxb⟩:=List.mem_filterMap.1 hb;rcases zf hx with rfl | hx
 ·exact .inr (hblk b hxb)
 ·exact .inl (jaG hx hxb)
theorem Rel.upd{F M w0 n env H a w}(h:Rel F M w0 n env H a w){k:Nat}{o o':Ob}(hk:H[k]?=some o)(hfr:Fr o.blk.toList w w1)
 (ho':∀O',(∀b,b<w.heap.size->¬Own F H b->¬O' b)->o'.Holds w1 O') (hblk:o'.blk=o.blk\/∀b,o'.blk=some b->w.heap.size<=b):Rel F M w0 n env (H.set k o') a w1:=by
 refine h.step (h.heap.upd h.heap.frb hk hfr ho' hblk) (hfr.weaken (λb hb=>jaG (qk hk) (by simpa using hb))) (λb hb=>?_);rcases joT hb with h' | h'
 ·exact .inl h'
 ·rcases hblk with e | e
  ·exact .inl (jaG (qk hk) (e ▸ h'))
  ·exact .inr (e b h')
set_option linter.unusedSimpArgs false
set_option linter.unusedVariables false
def opd(env:Env):Operand->Option D
 | .tmp t=>look env t
 | .const x=>some (.v x)
 | .func f=>some (.v (.func (.func f) #[] #[]))
 | .global g=>some (.p g 0)
theorem Rel.opd{F M w0 n env H a w}(h:Rel F M w0 n env H a w){x:Operand}{d:D}(hx:opd env x=some d):Rep w (Own F H) d (a.eval x):=by
 cases x with
 | tmp t=>exact h.eval hx
 | const v=>simp only[Av.opd,qs] at hx;subst hx;simp[Rep,Act.eval]
 | func f=>simp only[Av.opd,qs] at hx;subst hx;simp[Rep,Act.eval]
 | global g=>simp only[Av.opd,qs] at hx;subst hx;simp[Rep,Act.eval]
theorem Rel.opdv{F M w0 n env H a w}(h:Rel F M w0 n env H a w){x:Operand}{v:Value}(hx:Av.opd env x=some (.v v)):a.eval x=v:=by
 have:=h.opd hx;simpa[Rep] using this
def Rd(F:Nat->Prop)(s:Nat)(es:Array Event):Prop:=∀e∈es,∃a:Addr,e=⟨.cell a,false,false⟩/\a.block<s/\¬F a.block
theorem Rd.nil{F:Nat->Prop}{s:Nat}:Rd F s #[]:=by simp[Rd]
section
variable(P:Program)(n:Nat)
structure AP(o:Oper)(env:Env)(H:Heap)(d:D):Prop where
 out:∀F M w0 a w,Rel F M w0 n env H a w->∃v,Rep w (Own F H) d v/\∀w',(execOp a.eval o).run P w'=.ok (.value v) w'/\(execOp a.eval o).events P w' #[]=#[]
structure AQ(Mod:List Nat)(o:Oper)(env:Env)(H:Heap)(d:D):Prop where
 out:∀F M w0 a w,Rel F M w0 n env H a w->∃v,Rep w (Own F H) d v/\∀w',(∀b,b<w.heap.size->b∉Mod->¬F b->w'.heap[b]?=w.heap[b]?)->(execOp a.eval o).run P w'=.ok (.value v) w'/\Rd F w.heap.size ((execOp a.eval o).events P w' #[])
def upv(o:Oper)(a:Act)(Kc:Act->World->Prop):Result Next->Prop
 | .ok (.value v) w'=>Kc (a.put o.dst v) w'
 | .ok .skip w'=>Kc (a.put o.dst undef) w'
 | _=>False
def wpv(o:Oper)(a:Act)(w:World)(Kc:Act->World->Prop):Prop:=upv o a Kc ((execOp a.eval o).run P w)
theorem jbO(o:Oper)(a:Act)(Kc:Act->World->Prop)(v:Value)(w:World):upv o a Kc (.ok (.value v) w)=Kc (a.put o.dst v) w:=rfl
theorem jjo(o:Oper)(a:Act)(Kc:Act->World->Prop)(w:World):upv o a Kc (.ok .skip w)=Kc (a.put o.dst undef) w:=rfl
def EvOk(o:Oper)(a:Act)(w:World)(F:Nat->Prop)(H:Heap):Prop:=∀e∈(execOp a.eval o).events P w #[],Fan.Ok (λb=>b∈Hb H) F w.heap.size w.heap.size e
structure AOp(o:Oper)(env:Env)(H:Heap)(K:Env->Heap->Prop):Prop where
 wp:∀F M w0 a w,Rel F M w0 n env H a w->∀Kc:Act->World->Prop,(∀env' H' a' w',K env' H'->Rel F M w0 n env' H' a' w'->Kc a' w')->wpv P o a w Kc
 ev:∀F M w0 a w,Rel F M w0 n env H a w->EvOk P o a w F H
end
theorem Rel.rebase{n:Nat}{env:Env}{H:Heap}{F M w0 a w}(h:Rel F M w0 n env H a w):Rel F (Hb H) w n env H a w :=
 ⟨h.env,h.heap,Fr.refl _ _,λb hb=>.inl hb,h.heap.frb,h.dfr,h.tsz⟩
theorem js6{O X:Nat->Prop}{s s1 s2:Nat}{e:Event}(h:Fan.Ok O X s s1 e)(hs:s1<=s2):Fan.Ok O X s s2 e:=by
 rcases h with⟨a,h1,h2,h3,h4⟩ | h
 ·exact .inl ⟨a,h1,qA h2 hs,h3,h4⟩
 ·exact .inr h
theorem AOp.out{P:Program}{n:Nat}{o:Oper}{env:Env}{H:Heap}{K:Env->Heap->Prop}(h:AOp P n o env H K):∀F M w0 a w,Rel F M w0 n env H a w->∃x v w',(execOp a.eval o).run P w=.ok x w'/\(x=.value v\/(x=.skip/\v=undef)) /\
 (∀e∈(execOp a.eval o).events P w #[],Fan.Ok (λb=>b∈Hb H) F w.heap.size w'.heap.size e)/\∃env' H',K env' H'/\Rel F M w0 n env' H' (a.put o.dst v) w':=by
 intro F M w0 a w hr;have h1:=h.wp F M w0 a w hr (λa' w'=>∃env' H',K env' H'/\Rel F M w0 n env' H' a' w') (λenv' H' a' w' k r=>⟨env',H',k,r⟩);have h3:=h.wp F (Hb H) w a w hr.rebase (λa' w'=>w.heap.size<=w'.heap.size) (λenv' H' a' w' k r=>r.fr.size);have h2:=h.ev F M w0 a w hr;unfold wpv at h3;unfold wpv at h1
 generalize (execOp a.eval o).run P w=r at h1 h3
 match r,h1,h3 with
 | .ok (.value v) w',h1,h3=>exact⟨_,v,w',rfl,.inl rfl,λe he=>js6 (h2 e he) h3,h1⟩
 | .ok .skip w',h1,h3=>exact⟨_,undef,w',rfl,.inr ⟨rfl,rfl⟩,λe he=>js6 (h2 e he) h3,h1⟩
abbrev Kind:=Option (Value->World->Prop)
abbrev Tgt:=(Nat->Prop)->(Nat->Prop)->Goroutine->World->Prop
def Fit(κ:Kind)(P:Program)(main:Bool)(T:Tgt):Prop:=match κ with
 | none=>Fan.Closed P main T
 | some Post=>main=true/\T=Fan.GoM P Post none
theorem Fit.closed{κ:Kind}{P:Program}{main:Bool}{T:Tgt}(h:Fit κ P main T):Fan.Closed P main T:=by
 cases κ with
 | none=>exact h
 | some Post=>obtain⟨rfl,rfl⟩:=h;exact Fan.jbQ none
def CallT(P:Program)(T:Tgt)(f:FuncId)(args:Array Value)(Ka:Value->(Nat->Prop)->(Nat->Prop)->World->Prop)(O X:Nat->Prop)(w:World):Prop :=
 ∀{c0:Frame}{cs:List Frame},(∀v O' X' w',Ka v O' X' w'->T O' X' (Conc.G (c0.finish v) cs) w')->T O X (Conc.G (Frame.enter P f args .normal) (c0::cs)) w
def upS(P:Program)(T:Tgt)(Ka:Value->(Nat->Prop)->(Nat->Prop)->World->Prop)(O X:Nat->Prop)(w:World)(es:Array Event):Result Next->Prop
 | .ok (.value v) w'=>Fan.Guar O X w w' es/\Ka v (Fan.grow O w.heap.size w'.heap.size) X w'
 | .ok .skip w'=>Fan.Guar O X w w' es/\Ka undef (Fan.grow O w.heap.size w'.heap.size) X w'
 | .ok (.enter f args) w'=>w'=w/\es=#[]/\CallT P T f args Ka O X w
 | _=>False
def SemS(P:Program)(T:Tgt)(m:Sem Next)(Ka:Value->(Nat->Prop)->(Nat->Prop)->World->Prop)(O X:Nat->Prop)(w:World):Prop :=
 ∀X₁ w₁,Fan.Rely X w X₁ w₁->upS P T Ka O X₁ w₁ (m.events P w₁ #[]) (m.run P w₁)
theorem jk6{P:Program}{fn:FuncId}{O X:Nat->Prop}{w:World}(h:Fan.Guar O X w w' es):Fan.Guar O X w w' (seen P fn es) :=
 ⟨h.tape,h.os,h.output,h.size,h.block,λe he=>h.evs e (Conc.mem_seen he)⟩
theorem SemS.step{P:Program}{main:Bool}{T:Tgt}(hT:Fan.Closed P main T){o:Oper}{a:Act}{Ka:Value->(Nat->Prop)->(Nat->Prop)->World->Prop}{O X:Nat->Prop}{w:World}(h:SemS P T (execOp a.eval o) Ka O X w)
 {b:Frame} {i:Nat} {rest:List Nat} {k:List Item} {cs:List Frame} (hb:b.kind≠.early) (ho:ops[i]?=some o) (hw:Region.wanted o (yielded ops a.tmps)=true)
 (hK:∀v O' X' w',Ka v O' X' w'->T O' X' (Conc.G (b.at (a.put o.dst v) (.inRegion ops rest::k)) cs) w'):T O X (Conc.G (b.at a (.inRegion ops (i::rest)::k)) cs) w:=by
 refine hT.step _ _ _ _ rfl λX₁ w₁ hR=>?_;have h1:=h X₁ w₁ hR;have hfin:∀v,(b.at a (.inRegion ops (i::rest)::k)).finish v=b.at (a.put o.dst v) (.inRegion ops rest::k):=λv=>by rw[Frame.finish_at,ho];rfl
 generalize hr:(execOp a.eval o).run P w₁=r at h1
 match r,h1 with
 | .ok (.value v) w',h1=>exact⟨_,w',_,Conc.stepG_value ho hw hb hr,jk6 h1.1,hK _ _ _ _ h1.2⟩
 | .ok .skip w',h1=>exact⟨_,w',_,Conc.stepG_none ho hw hb hr,jk6 h1.1,hK _ _ _ _ h1.2⟩
 | .ok (.enter f args) w',h1 =>
  obtain⟨rfl,he,hc⟩:=h1;refine⟨_,w',_,Conc.stepG_enter ho hw hb hr,?_,?_⟩
  ·unfold Conc.listed;rw[he,Conc.seen_none];exact Fan.Guar.idle _ _ _
  ·rw[Fan.jbm]
   exact hc (λv O' X' w' q=>by rw[hfin];exact hK v O' X' w' q)
structure RelC(C X0:Nat->Prop)(M:List Nat)(w0:World)(n:Nat)(env:Env)(H:Heap)(O X:Nat->Prop)(a:Act)(w:World):Prop where
 rel:Rel (λb=>C b\/X b) (Hb H) w n env H a w
 own:∀b,C b\/b∈Hb H->O b
 dis:∀b,O b->¬X b
 olt:∀b,O b->b<w.heap.size
 os:w.os=w0.os
 tape:w.tape=w0.tape
 output:w.output=w0.output
 size:w0.heap.size<=w.heap.size
 block:∀b,b<w0.heap.size->b∉M->¬X0 b->w.heap[b]?=w0.heap[b]?
 xs:∀b,X0 b->X b
 xn:∀b,X b->X0 b\/w0.heap.size<=b
 mine:∀b∈Hb H,b∈M\/w0.heap.size<=b
 c0:∀b,C b->b<w0.heap.size
section
variable{C X0:Nat->Prop}{M:List Nat}{w0:World}{n:Nat}{env env':Env}{H H':Heap}{O X X₁:Nat->Prop}{a a':Act}{w w' w₁:World}
theorem jvd{F F':Nat->Prop}(h:∀b,F' b->F b\/w.heap.size<=b)(b:Nat)(hb:b<w.heap.size)(hO:¬Own F H b):¬Own F' H b:=by
 rintro(h' | h')
 ·rcases h b h' with h2 | h2
  ·exact hO (.inl h2)
  ·omega
 ·exact hO (.inr h')
theorem RelC.rely(h:RelC C X0 M w0 n env H O X a w)(hr:Fan.Rely X w X₁ w₁):RelC C X0 M w0 n env H O X₁ a w₁:=by
 have hm:∀b,b<w.heap.size->¬Own (λb=>C b\/X b) H b->¬Own (λb=>C b\/X₁ b) H b/\w₁.heap[b]?=w.heap[b]?:=λb hb hO =>
  ⟨jvd (λb hF=>by
   rcases hF with hF | hF
   ·exact .inl (.inl hF)
   ·rcases(hr.iff b).1 hF with h' | h'
    ·exact .inl (.inr h')
    ·exact .inr h'.1) b hb hO,hr.block b hb (λhX=>hO (.inl (.inr hX)))⟩
 refine⟨⟨λi d hi=>?_,⟨λo ho=>?_,h.rel.heap.nodup,λb hb hF=>?_,λb hF=>?_⟩,Fr.refl _ _,λb hb=>.inl hb,λb hF=>?_,h.rel.dfr,h.rel.tsz⟩,h.own,λb hb hX=>?_,λb hb=>qA (h.olt b hb) hr.size,hr.os.trans h.os,hr.tape.trans h.tape,hr.output.trans h.output,Nat.le_trans h.size hr.size,λb hb hM hX=>?_,λb hb=>(hr.iff b).2 (.inl (h.xs b hb)),λb hb=>?_,h.mine,h.c0⟩
 ·obtain⟨v,h1,h2⟩:=h.rel.env i d hi
  exact⟨v,h1,Rep.mono hm d v h2⟩
 ·exact(h.rel.heap.holds o ho).mono hm (λb hb=>hr.block b ((h.rel.heap.holds o ho).blk_lt hb) (λhX=>h.rel.heap.disj b (jaG ho hb) (.inr hX)))
 ·rcases hF with hF | hF
  ·exact h.rel.heap.disj b hb (.inl hF)
  ·rcases(hr.iff b).1 hF with h' | h'
   ·exact h.rel.heap.disj b hb (.inr h')
   ·have:=h.rel.heap.blk_lt hb;omega
 ·rcases hF with hF | hF
  ·exact qA (h.rel.heap.frb b (.inl hF)) hr.size
  ·rcases(hr.iff b).1 hF with h' | h'
   ·exact qA (h.rel.heap.frb b (.inr h')) hr.size
   ·exact h'.2
 ·rcases hF with hF | hF
  ·exact qA (h.rel.heap.frb b (.inl hF)) hr.size
  ·rcases(hr.iff b).1 hF with h' | h'
   ·exact qA (h.rel.heap.frb b (.inr h')) hr.size
   ·exact h'.2
 ·rcases(hr.iff b).1 hX with h' | h'
  ·exact h.dis b hb h'
  ·have:=h.olt b hb;omega
 ·rw[hr.block b (qA hb h.size) (λhx=>?_)]
  ·exact h.block b hb hM hX
  ·rcases h.xn b hx with h' | h'
   ·exact hX h'
   ·omega
 ·rcases(hr.iff b).1 hb with h' | h'
  ·exact h.xn b h'
  ·exact .inr (Nat.le_trans h.size h'.1)
theorem RelC.next(h:RelC C X0 M w0 n env H O X a w)(k:Rel (λb=>C b\/X b) (Hb H) w n env' H' a' w'):RelC C X0 M w0 n env' H' (Fan.grow O w.heap.size w'.heap.size) X a' w':=by
 refine⟨k.rebase,λb hb=>?_,λb hb hX=>?_,λb hb=>hb.elim (λh'=>qA (h.olt b h') k.fr.size) (λh'=>h'.2),k.fr.os.trans h.os,k.fr.tape.trans h.tape,k.fr.output.trans h.output,Nat.le_trans h.size k.fr.size,λb hb hM hX=>?_,h.xs,h.xn,λb hb=>?_,h.c0⟩
 ·rcases hb with hb | hb
  ·exact .inl (h.own b (.inl hb))
  ·rcases k.mine b hb with h' | h'
   ·exact .inl (h.own b (.inr h'))
   ·exact .inr ⟨h',k.heap.blk_lt hb⟩
 ·rcases hb with hb | hb
  ·exact h.dis b hb hX
  ·have:=h.rel.heap.frb b (.inr hX);omega
 ·rw[k.fr.block b (qA hb h.size) (λhm=>?_)]
  ·exact h.block b hb hM hX
  ·rcases h.mine b hm with h' | h'
   ·exact hM h'
   ·omega
 ·rcases k.mine b hb with h' | h'
  ·exact h.mine b h'
  ·exact .inr (Nat.le_trans h.size h')
theorem jye{O X X':Nat->Prop}{s s':Nat}{e:Event}(h:Fan.Ok O X s s' e)(hO:∀b,O b->O' b)(hX:∀b,X' b->X b):Fan.Ok O' X' s s' e:=by
 rcases h with⟨a,h1,h2,h3,h4⟩ | h
 ·exact .inl ⟨a,h1,h2,λhx=>h3 (hX _ hx),λhw=>(h4 hw).imp (hO _) id⟩
 ·exact .inr h
theorem RelC.guar(h:RelC C X0 M w0 n env H O X a w)(k:Rel (λb=>C b\/X b) (Hb H) w n env' H' a' w')(hev:∀e∈es,Fan.Ok (λb=>b∈Hb H) (λb=>C b\/X b) w.heap.size w'.heap.size e):Fan.Guar O X w w' es :=
 ⟨k.fr.tape,k.fr.os,k.fr.output,k.fr.size,λb hb hO=>k.fr.block b hb (λhm=>hO (h.own b (.inr hm))),λe he=>jye (hev e he) (λb hb=>h.own b (.inr hb)) (λb hb=>.inr hb)⟩
end
section
variable(κ:Kind)(P:Program)(n:Nat)
structure AStep(o:Oper)(env:Env)(H:Heap)(K:Env->Heap->Prop):Prop where
 out:∀{main T},Fit κ P main T->∀{C X0 M w0 O X a w},RelC C X0 M w0 n env H O X a w->∀Kc:Act->(Nat->Prop)->(Nat->Prop)->World->Prop,(∀env' H' a' O' X' w',K env' H'->RelC C X0 M w0 n env' H' O' X' a' w'->Kc a' O' X' w') ->
  SemS P T (execOp a.eval o) (λv O' X' w'=>Kc (a.put o.dst v) O' X' w') O X w
def AOpsR(ops:Array Oper):List Oper->Env->Heap->(Env->Heap->Prop)->Prop
 | [],env,H,K=>K env H
 | o::rest,env,H,K =>
  match o.guard with
  | none=>AStep κ P n o env H (λenv' H'=>AOpsR ops rest env' H' K)
  | some (j,want)=>∃t x,o.dst=some t/\t<n/\((ops[j]?).bind (·.dst)).bind (look env)=some (D.v x) /\
   (x=.bool want->AStep κ P n o env H (λenv' H'=>AOpsR ops rest env' H' K))/\(x≠.bool want->AOpsR ops rest ((t,.v undef)::env) H K)
structure AOps(ops:Array Oper)(l:List Oper)(env:Env)(H:Heap)(K:Env->Heap->Prop):Prop where
 out:AOpsR κ P n ops l env H K
end
section
variable{κ:Kind}{P:Program}{n:Nat}
theorem AP.aq{o env H d}(h:AP P n o env H d)(Mod:List Nat):AQ P n Mod o env H d :=
 ⟨λF M w0 a w hr=>let ⟨v,h1,h2⟩:=h.out F M w0 a w hr;⟨v,h1,λw' _=>⟨(h2 w').1,by rw[(h2 w').2];exact Rd.nil⟩⟩⟩
theorem AStep.mono{o env H}{K K':Env->Heap->Prop}(h:AStep κ P n o env H K)(hk:∀e h',K e h'->K' e h'):AStep κ P n o env H K' :=
 ⟨λfit _ _ _ _ _ _ _ _ hr Kc hK=>h.out fit hr Kc (λenv' H' a' O' X' w' k=>hK env' H' a' O' X' w' (hk _ _ k))⟩
theorem AStep.of_op{o env H}{K:Env->Heap->Prop}(h:AOp P n o env H K):AStep κ P n o env H K:=by
 refine⟨λ{main T} fit C X0 M w0 O X a w hr Kc hK X₁ w₁ hR=>?_⟩;have hr1:=hr.rely hR;obtain⟨x,v,w',h1,h2,h3,env',H',h4,h5⟩:=h.out _ _ _ _ _ hr1.rel;have hG:=hr1.guar (es:=(execOp a.eval o).events P w₁ #[]) h5 h3;have hn:=hK env' H' _ _ _ _ h4 (hr1.next h5);rw[h1];rcases h2 with rfl | ⟨rfl,rfl⟩
 ·exact⟨hG,hn⟩
 ·exact⟨hG,hn⟩
theorem AQ.op{o env H d t}{K:Env->Heap->Prop}(h:AQ P n [] o env H d)(hd:o.dst=some t)(ht:Nat.blt t n=true)(hk:K ((t,d)::env) H):AOp P n o env H K:=by
 refine⟨λF M w0 a w hr Kc hK=>?_,λF M w0 a w hr e he=>?_⟩
 ·obtain⟨v,h1,h2⟩:=h.out F M w0 a w hr
  unfold wpv;rw[(h2 w (λ_ _ _ _=>rfl)).1,jbO,hd];exact hK _ _ _ _ hk (hr.put h1 (by simpa[Nat.blt_eq] using ht))
 ·obtain⟨v,h1,h2⟩:=h.out F M w0 a w hr
  obtain⟨h3,h4⟩:=h2 w (λ_ _ _ _=>rfl);obtain⟨a',rfl,k2,k3⟩:=h4 e he;exact .inl ⟨a',rfl,k2,k3,λh=>by cases h⟩
theorem AQ.step{o env H d t}{K:Env->Heap->Prop}(h:AQ P n [] o env H d)(hd:o.dst=some t)(ht:Nat.blt t n=true)(hk:K ((t,d)::env) H):AStep κ P n o env H K:=.of_op (h.op hd ht hk)
theorem Rel.drop{F M w0 env H a w t}(h:Rel F M w0 n env H a w)(hl:look env t=none)(u:Value):Rel F M w0 n env H (a.put (some t) u) w:=by
 refine⟨λi d hi=>?_,h.heap,h.fr,h.mine,h.f0,h.dfr,by simp[Act.put,h.tsz]⟩;obtain⟨v,h1,h2⟩:=h.env i d hi;refine⟨v,?_,h2⟩;have:t≠i:=λe=>by subst e;rw[hl] at hi;cases hi
 simp[Act.put,this,h1]
theorem jfb{F M w0 env H a w j b}(h:Rel F M w0 n env H a w)(hj:((ops[j]?).bind (·.dst)).bind (look env)=some (D.b b)):yielded ops a.tmps j=some b:=by
 unfold yielded;cases e:(ops[j]?).bind (·.dst) with
 | none=>rw[e] at hj;simp at hj
 | some t =>
  rw[e] at hj;simp only[Option.bind_some] at hj ⊢;obtain⟨v,h1,h2⟩:=h.env t _ hj;simp only[Rep] at h2;subst h2;rw[h1]
theorem jgK{F M w0 env H a w j x want}(h:Rel F M w0 n env H a w)(hj:((ops[j]?).bind (·.dst)).bind (look env)=some (D.v x))(hx:x≠.bool want):yielded ops a.tmps j≠some want:=by
 unfold yielded;cases e:(ops[j]?).bind (·.dst) with
 | none=>rw[e] at hj;simp at hj
 | some t =>
  rw[e] at hj;simp only[Option.bind_some] at hj ⊢;obtain⟨v,h1,h2⟩:=h.env t _ hj;simp only[Rep] at h2;subst h2;rw[h1];intro h3;split at h3
  ·rename_i b hb
   simp only[qs] at h3;subst h3;injection hb with hb;exact hx hb
  ·cases h3
theorem RelC.put{C X0:Nat->Prop}{M:List Nat}{w0:World}{env:Env}{H:Heap}{O X:Nat->Prop}{a:Act}{w:World}(h:RelC C X0 M w0 n env H O X a w){t:Nat}{d:D}{v:Value}(hd:Rep w (Own (λb=>C b\/X b) H) d v)(hn:t<n):RelC C X0 M w0 n ((t,d)::env) H O X (a.put (some t) v) w :=
 ⟨h.rel.put hd hn,h.own,h.dis,h.olt,h.os,h.tape,h.output,h.size,h.block,h.xs,h.xn,h.mine,h.c0⟩
theorem RelC.drop{C X0:Nat->Prop}{M:List Nat}{w0:World}{env:Env}{H:Heap}{O X:Nat->Prop}{a:Act}{w:World}(h:RelC C X0 M w0 n env H O X a w){t:Nat}(hl:look env t=none)(u:Value):RelC C X0 M w0 n env H O X (a.put (some t) u) w :=
 ⟨h.rel.drop hl u,h.own,h.dis,h.olt,h.os,h.tape,h.output,h.size,h.block,h.xs,h.xn,h.mine,h.c0⟩
theorem AOpsR.sound{ops:Array Oper}{main:Bool}{T:Tgt}(fit:Fit κ P main T){b:Frame}{k:List Item}{cs:List Frame}(hb:b.kind≠.early){C X0:Nat->Prop}{M:List Nat}{w0:World}{post:List Oper}{rest:List Nat}:∀(l pre:List Oper)(env:Env)(H:Heap)(K:Env->Heap->Prop),ops=(pre++l++post).toArray->AOpsR κ P n ops l env H K ->
 ∀O X a w,RelC C X0 M w0 n env H O X a w->(∀env' H' O' X' a' w',K env' H'->RelC C X0 M w0 n env' H' O' X' a' w'->T O' X' (Conc.G (b.at a' (.inRegion ops rest::k)) cs) w')->T O X (Conc.G (b.at a (.inRegion ops (List.range' pre.length l.length++rest)::k)) cs) w
 | [],pre,env,H,K,_,h,O,X,a,w,hr,hQ=>hQ _ _ _ _ _ _ h hr
 | o::l,pre,env,H,K,e,h,O,X,a,w,hr,hQ=>by
  have ho:ops[pre.length]?=some o:=by rw[e];simp
  have e':ops=((pre++[o])++l++post).toArray:=by rw[e];simp
  have er:List.range' pre.length (o::l).length=pre.length::List.range' (pre++[o]).length l.length:=by simp[List.range'_succ]
  rw[er,List.cons_append];unfold AOpsR at h;cases hg:o.guard with
  | none =>
   rw[hg] at h;exact(h.out fit hr (λa' O' X' w'=>T O' X' (Conc.G (b.at a' (.inRegion ops (List.range' (pre++[o]).length l.length++rest)::k)) cs) w') (λenv' H' a' O' X' w' hk hr'=>AOpsR.sound fit hb l (pre++[o]) env' H' K e' hk O' X' a' w' hr' hQ)).step fit.closed hb ho (by simp[Region.wanted,hg]) (λv O' X' w' q=>q)
  | some jw =>
   obtain⟨j,want⟩:=jw;rw[hg] at h;obtain⟨t,x,h1,h3,h4,h5,h6⟩:=h
   by_cases hx:x=.bool want
   ·have hy:=jfb hr.rel (hx ▸ h4)
    exact((h5 hx).out fit hr (λa' O' X' w'=>T O' X' (Conc.G (b.at a' (.inRegion ops (List.range' (pre++[o]).length l.length++rest)::k)) cs) w') (λenv' H' a' O' X' w' hk hr'=>AOpsR.sound fit hb l (pre++[o]) env' H' K e' hk O' X' a' w' hr' hQ)).step fit.closed hb ho (by simp[Region.wanted,hg,hy]) (λv O' X' w' q=>q)
   ·have hy:=jgK hr.rel h4 hx
    refine fit.closed.idle rfl (λw=>Conc.stepG_unwanted ho (by simp[Region.wanted,hg,hy])) ?_;rw[h1];exact AOpsR.sound fit hb l (pre++[o]) _ H K e' (h6 hx) O X _ w (hr.put (by simp[Rep]) h3) hQ
theorem jaT{ops env H}{K:Env->Heap->Prop}(h:K env H):AOps κ P n ops [] env H K:=⟨h⟩
theorem jaH{ops o rest env H}{K:Env->Heap->Prop}(hg:o.guard=none)(h:AStep κ P n o env H (λenv' H'=>AOps κ P n ops rest env' H' K)):AOps κ P n ops (o::rest) env H K:=by
 refine⟨?_⟩;unfold AOpsR;rw[hg];exact h.mono λ_ _ k=>k.out
theorem jvY{ops o rest env H d t}{K:Env->Heap->Prop}(h:AP P n o env H d)(hg:o.guard=none)(hd:o.dst=some t)(ht:Nat.blt t n=true)
 (hk:AOps κ P n ops rest ((t,d)::env) H K):AOps κ P n ops (o::rest) env H K :=
 jaH hg ((h.aq []).step hd ht hk)
theorem jny{ops o rest env H d t}{K:Env->Heap->Prop}(h:AQ P n [] o env H d)(hg:o.guard=none)(hd:o.dst=some t)(ht:Nat.blt t n=true)
 (hk:AOps κ P n ops rest ((t,d)::env) H K):AOps κ P n ops (o::rest) env H K :=
 jaH hg (h.step hd ht hk)
theorem jgp{ops rest env H}{K:Env->Heap->Prop}{op:Op}{ty pos after j want b t}(hd:dst=some t)(hl:look env t=none)(ht:Nat.blt t n=true)(hj:((ops[j]?).bind (·.dst)).bind (look env)=some (D.b b))(hb:b=want)
 (h:AOps κ P n ops (⟨dst,op,ty,pos,after,none⟩::rest) env H K):AOps κ P n ops (⟨dst,op,ty,pos,after,some (j,want)⟩::rest) env H K:=by
 subst hd;have h:=h.out;refine⟨?_⟩;unfold AOpsR at h ⊢;refine⟨t,.bool b,rfl,by simpa[Nat.blt_eq] using ht,hj,λ_=>⟨λfit _ _ _ _ _ _ _ _ hr Kc hK=>h.out fit hr Kc hK⟩,λhb'=>qp (congrArg Value.bool hb) hb'⟩
theorem jrl{ops rest env H}{K:Env->Heap->Prop}{op:Op}{ty pos after j want b t}(hd:dst=some t)(hl:look env t=none)(ht:Nat.blt t n=true)(hj:((ops[j]?).bind (·.dst)).bind (look env)=some (D.b b))(hb:b=!want)
 (h:AOps κ P n ops rest ((t,.v undef)::env) H K):AOps κ P n ops (⟨dst,op,ty,pos,after,some (j,want)⟩::rest) env H K:=by
 subst hd;refine⟨?_⟩;unfold AOpsR;exact⟨t,.bool b,rfl,by simpa[Nat.blt_eq] using ht,hj,λhb'=>by injection hb' with hb';subst hb';cases b<;>simp at hb,λ_=>h.out⟩
theorem jsW{ops rest env H}{K:Env->Heap->Prop}{op:Op}{ty pos after j want t}(hd:dst=some t)(ht:Nat.blt t n=true)(hj:((ops[j]?).bind (·.dst)).bind (look env)=some (.v undef))
 (h:AOps κ P n ops rest ((t,.v undef)::env) H K):AOps κ P n ops (⟨dst,op,ty,pos,after,some (j,want)⟩::rest) env H K:=by
 subst hd;refine⟨?_⟩;unfold AOpsR;exact⟨t,undef,rfl,by simpa[Nat.blt_eq] using ht,hj,λhb'=>(by unfold undef at hb';cases hb'),λ_=>h.out⟩
theorem jpk{ops rest env H}{K:Env->Heap->Prop}{op:Op}{ty pos after j want b t}(hd:dst=some t)(hl:look env t=none)(ht:Nat.blt t n=true)(hj:((ops[j]?).bind (·.dst)).bind (look env)=some (D.b b))
 (h:b=want->AOps κ P n ops (⟨dst,op,ty,pos,after,none⟩::rest) env H K) (h':b=(!want)->AOps κ P n ops rest ((t,.v undef)::env) H K):AOps κ P n ops (⟨dst,op,ty,pos,after,some (j,want)⟩::rest) env H K:=by
 by_cases hb:b=want
 ·exact jgp hd hl ht hj hb (h hb)
 ·exact jrl hd hl ht hj (by cases b<;>cases want<;>simp_all) (h' (by cases b<;>cases want<;>simp_all))
section pure
variable{env:Env}{H:Heap}{dst:Option Tmp}{ty:TypeId}{pos:String}{after:Array Edge}{gd:Option (Nat × Bool)}{x y z:Operand}
theorem jl6{d}(hx:opd env x=some d):AP P n ⟨dst,.move x,ty,pos,after,gd⟩ env H d :=
 ⟨λF M w0 a w hr=>⟨a.eval x,hr.opd hx,λw'=>⟨rfl,rfl⟩⟩⟩
theorem jri{d}(hx:opd env x=some d):AP P n ⟨dst,.assign x,ty,pos,after,gd⟩ env H d :=
 ⟨λF M w0 a w hr=>⟨a.eval x,hr.opd hx,λw'=>⟨rfl,rfl⟩⟩⟩
theorem jyV{c t}(hx:opd env x=some (.b c)):AP P n ⟨dst,.unOp .not t x,ty,pos,after,gd⟩ env H (.b !c):=by
 refine⟨λF M w0 a w hr=>?_⟩;have h1:=hr.opdv hx;refine⟨.bool !c,by simp[Rep],λw'=>?_⟩;simp[execOp,h1,Op.unary]
theorem jlb{c d}(hx:opd env x=some (.b c))(hc:c=true)(hy:opd env y=some d):AP P n ⟨dst,.pick x y z,ty,pos,after,gd⟩ env H d:=by
 refine⟨λF M w0 a w hr=>?_⟩;have h1:=hr.opdv hx;subst hc;exact⟨a.eval y,hr.opd hy,λw'=>by simp[execOp,h1,asBool]⟩
theorem jjr{c d}(hx:opd env x=some (.b c))(hc:c=false)(hy:opd env z=some d):AP P n ⟨dst,.pick x y z,ty,pos,after,gd⟩ env H d:=by
 refine⟨λF M w0 a w hr=>?_⟩;have h1:=hr.opdv hx;subst hc;exact⟨a.eval z,hr.opd hy,λw'=>by simp[execOp,h1,asBool]⟩
def cmpI:BinOp->Int->Int->Option Bool
 | .lss,x,y=>some (decide (x<y))
 | .leq,x,y=>some (decide (x<=y))
 | .gtr,x,y=>some (decide (y<x))
 | .geq,x,y=>some (decide (y<=x))
 | .eql,x,y=>some (decide (x=y))
 | .neq,x,y=>some (!decide (x=y))
 | _,_,_=>none
theorem jsU{op k p q c t u}(hx:opd env x=some (.v (.int k p)))(hy:opd env y=some (.v (.int k q)))(hc:cmpI op p q=some c):AP P n ⟨dst,.binOp op t x y u,ty,pos,after,gd⟩ env H (.b c):=by
 refine⟨λF M w0 a w hr=>?_⟩;have h1:=hr.opdv hx;have h2:=hr.opdv hy;refine⟨.bool c,by simp[Rep],λw'=>?_⟩
 cases op<;>simp only[cmpI,qs,reduceCtorEq] at hc<;>subst hc <;>
  simp[execOp,h1,h2,eqGuard,binOp,Op.intCmp]<;>rfl
theorem jfE{m:Int}(h:-9223372036854775808<=m)(h':m<=9223372036854775807):IntKind.i64.wrap m=m:=by
 simp only[IntKind.wrap,IntKind.bits,IntKind.signed];simp;split<;>omega
def addI:BinOp->Int->Int->Option Int
 | .add,x,y=>some (x+y)
 | .sub,x,y=>some (x - y)
 | .mul,x,y=>some (x * y)
 | _,_,_=>none
theorem jb3{op p q m t u}(hx:opd env x=some (.i p))(hy:opd env y=some (.i q))(hm:addI op p q=some m)(hb:-9223372036854775808<=m/\m<=9223372036854775807):AP P n ⟨dst,.binOp op t x y u,ty,pos,after,gd⟩ env H (.i m):=by
 refine⟨λF M w0 a w hr=>?_⟩;have h1:=hr.opdv hx;have h2:=hr.opdv hy;refine⟨.int .i64 m,by simp[Rep],λw'=>?_⟩
 cases op<;>simp only[addI,qs,reduceCtorEq] at hm<;>subst hm <;>
  simp[execOp,h1,h2,eqGuard,binOp,Op.intArith,jfE hb.1 hb.2]
theorem jem{op k p q m t u}(hx:opd env x=some (.v (.int k p)))(hy:opd env y=some (.v (.int k q)))(hm:addI op p q=some m):AP P n ⟨dst,.binOp op t x y u,ty,pos,after,gd⟩ env H (.v (.int k (k.wrap m))):=by
 refine⟨λF M w0 a w hr=>?_⟩;have h1:=hr.opdv hx;have h2:=hr.opdv hy;refine⟨.int k (k.wrap m),by simp[Rep],λw'=>?_⟩
 cases op<;>simp only[addI,qs,reduceCtorEq] at hm<;>subst hm <;>
  simp[execOp,h1,h2,eqGuard,binOp,Op.intArith]
theorem jv2{k p q t u}(hx:opd env x=some (.v (.int k p)))(hy:opd env y=some (.v (.int k q)))(hq:q≠0):AP P n ⟨dst,.binOp .rem t x y u,ty,pos,after,gd⟩ env H (.v (.int k (p.tmod q))):=by
 refine⟨λF M w0 a w hr=>?_⟩;have h1:=hr.opdv hx;have h2:=hr.opdv hy;refine⟨.int k (p.tmod q),by simp[Rep],λw'=>?_⟩;simp[execOp,h1,h2,eqGuard,binOp,Op.intDiv,hq]
theorem jv5{k p q t u}(hx:opd env x=some (.v (.int k p)))(hy:opd env y=some (.v (.int k q)))(hq:q≠0):AP P n ⟨dst,.binOp .quo t x y u,ty,pos,after,gd⟩ env H (.v (.int k (k.wrap (p.tdiv q)))):=by
 refine⟨λF M w0 a w hr=>?_⟩;have h1:=hr.opdv hx;have h2:=hr.opdv hy;refine⟨.int k (k.wrap (p.tdiv q)),by simp[Rep],λw'=>?_⟩;simp[execOp,h1,h2,eqGuard,binOp,Op.intDiv,hq]
def bitN:BinOp->Nat->Nat->Option Nat
 | .and,x,y=>some (x&&&y)
 | .or,x,y=>some (x|||y)
 | .xor,x,y=>some (x ^^^ y)
 | .andNot,x,y=>some (x&&&(2^63 - 1 - y))
 | _,_,_=>none
theorem jel(h:m<9223372036854775808):IntKind.i64.wrap (m:Int)=m:=jfE zo zo
theorem jpI{p:Nat}(hp:p<9223372036854775808)(hq:q<9223372036854775808):(BitVec.ofNat 64 p&&&~~~BitVec.ofNat 64 q).toNat=p&&&(2^63 - 1 - q):=by
 have hp64:p % 2^64=p:=Nat.mod_eq_of_lt zo;have hq64:q % 2^64=q:=Nat.mod_eq_of_lt zo;rw[BitVec.toNat_and,BitVec.toNat_not,BitVec.toNat_ofNat,BitVec.toNat_ofNat,hp64,hq64];apply Nat.eq_of_testBit_eq;intro i;rw[Nat.testBit_and,Nat.testBit_and]
 by_cases hi:i<63
 ·rw[show 2^64 - 1 - q=2^64 - (q+1) by omega,show 2^63 - 1 - q=2^63 - (q+1) by omega,Nat.testBit_two_pow_sub_succ zo,Nat.testBit_two_pow_sub_succ zo]
  simp[hi,show i<64 by omega]
 ·have:p.testBit i=false:=Nat.testBit_lt_two_pow (qA hp (by show 2^63<=_;exact Nat.pow_le_pow_right zo zo))
  simp[this]
theorem jme{op:BinOp}{p:Nat}(hm:bitN op p q=some m)(hp:p<9223372036854775808)(hq:q<9223372036854775808):Op.intBits op .i64 p q=pure (.int .i64 m):=by
 have hp64:p % 2^64=p:=Nat.mod_eq_of_lt zo;have hq64:q % 2^64=q:=Nat.mod_eq_of_lt zo;have e1:=BitVec.ofInt_natCast 64 p;have e2:=BitVec.ofInt_natCast 64 q;cases op<;>simp only[bitN,qs,reduceCtorEq] at hm<;>subst hm
 ·refine congrArg (λz=>(pure (Value.int .i64 z):Sem Value)) (?_:IntKind.i64.wrap (((BitVec.ofInt 64 (p:Int))&&&(BitVec.ofInt 64 (q:Int))).toNat:Int)=_)
  rw[e1,e2,show (BitVec.ofNat 64 p&&&BitVec.ofNat 64 q).toNat=p&&&q by simp[BitVec.toNat_and,hp64,hq64]];exact jel (Nat.lt_of_le_of_lt Nat.and_le_left hp)
 ·refine congrArg (λz=>(pure (Value.int .i64 z):Sem Value)) (?_:IntKind.i64.wrap (((BitVec.ofInt 64 (p:Int))|||(BitVec.ofInt 64 (q:Int))).toNat:Int)=_)
  have hlt:p|||q<2^63:=Nat.or_lt_two_pow zo zo
  rw[e1,e2,show (BitVec.ofNat 64 p|||BitVec.ofNat 64 q).toNat=p|||q by simp[BitVec.toNat_or,hp64,hq64]];exact jel zo
 ·refine congrArg (λz=>(pure (Value.int .i64 z):Sem Value)) (?_:IntKind.i64.wrap (((BitVec.ofInt 64 (p:Int)) ^^^ (BitVec.ofInt 64 (q:Int))).toNat:Int)=_)
  have hlt:p ^^^ q<2^63:=Nat.xor_lt_two_pow zo zo;rw[e1,e2,show (BitVec.ofNat 64 p ^^^ BitVec.ofNat 64 q).toNat=p ^^^ q by simp[BitVec.toNat_xor,hp64,hq64]];exact jel zo
 ·refine congrArg (λz=>(pure (Value.int .i64 z):Sem Value)) (?_:IntKind.i64.wrap (((BitVec.ofInt 64 (p:Int))&&&~~~(BitVec.ofInt 64 (q:Int))).toNat:Int)=_)
  rw[e1,e2,jpI hp hq];exact jel (Nat.lt_of_le_of_lt Nat.and_le_left hp)
theorem jcz{op}{p:Nat}{t u}(hx:opd env x=some (.i p))(hy:opd env y=some (.i q))(hm:bitN op p q=some m)(hp:p<9223372036854775808)(hq:q<9223372036854775808) :
 AP P n ⟨dst,.binOp op t x y u,ty,pos,after,gd⟩ env H (.i m):=by
 refine⟨λF M w0 a w hr=>?_⟩;have h1:=hr.opdv hx;have h2:=hr.opdv hy;refine⟨.int .i64 m,by simp[Rep],λw'=>?_⟩;have hi:=jme hm hp hq;cases op<;>simp only[bitN,reduceCtorEq] at hm<;>simp[execOp,h1,h2,eqGuard,binOp,hi]
theorem jaZ{p k:Nat}{t u kk}(hx:opd env x=some (.i p))(hy:opd env y=some (.v (.int kk (k:Int))))(hm:m=p * 2^k)(hk:k<=62)(hp:m<9223372036854775808) :
 AP P n ⟨dst,.binOp .shl t x y u,ty,pos,after,gd⟩ env H (.i m):=by
 refine⟨λF M w0 a w hr=>?_⟩;have h1:=hr.opdv hx;have h2:=hr.opdv hy;refine⟨.int .i64 m,by simp[Rep],λw'=>?_⟩;have hmin:min k 64=k:=by omega
 have e:(p:Int) * 2^k=(m:Int):=by subst hm;push_cast;rfl
 simp[execOp,h1,h2,eqGuard,binOp,Op.shift,show ¬((k:Int)<0) by omega,IntKind.bits,hmin,e,jel hp]
theorem jeQ{p k:Nat}{t u kk}(hx:opd env x=some (.i p))(hy:opd env y=some (.v (.int kk (k:Int))))(hk:k<=62) :
 AP P n ⟨dst,.binOp .shr t x y u,ty,pos,after,gd⟩ env H (.i ((p / 2^k:Nat):Int)):=by
 refine⟨λF M w0 a w hr=>?_⟩;have h1:=hr.opdv hx;have h2:=hr.opdv hy;refine⟨.int .i64 ((p / 2^k:Nat):Int),by simp[Rep],λw'=>?_⟩;have hmin:min k 64=k:=by omega
 have e:(p:Int).fdiv (2^k)=((p / 2^k:Nat):Int):=by
  rw[Int.fdiv_eq_ediv_of_nonneg _ (Int.le_of_lt (Int.pow_pos zo))]
  push_cast
  rfl
 simp[execOp,h1,h2,eqGuard,binOp,Op.shift,show ¬((k:Int)<0) by omega,IntKind.bits,hmin,e]
end pure
end
theorem jqY(b o k:Nat):(⟨b,o,none⟩:Addr).add k=⟨b,o+k,none⟩:=by unfold Addr.add;split<;>simp_all
theorem jfJ{F:Nat->Prop}{s:Nat}{a:Addr}(ha:a.block<s)(hF:¬F a.block):Rd F s #[⟨.cell a,false,Mode.plain == Mode.atomic⟩]:=by
 intro e he;simp only[List.mem_toArray,List.mem_singleton] at he;subst he;exact⟨a,rfl,ha,hF⟩
theorem jtt{P:Program}{F:Nat->Prop}{s:Nat}{a:Addr}(ha:a.block<s)(hF:¬F a.block){w:World}:∀(n i:Nat)(acc:Array Value)(es:Array Event),Rd F s es->(∀j,j<n->(w.cell? (a.add (i+j))).isSome)->Rd F s ((loadCellsFrom a i n acc).events P w es)
 | 0,_,_,es,h,_=>by simpa[loadCellsFrom] using h
 | n+1,i,acc,es,h,hc=>by
  simp only[loadCellsFrom,Sem.events_bind];obtain⟨u,hu⟩:=Option.isSome_iff_exists.1 (hc 0 zo);simp only[Nat.add_zero] at hu;have hr:(load (a.add i)).run P w=.ok u w:=by simp[hu]
  rw[hr];refine jtt ha hF n (i+1) _ _ ?_ (λj hj=>by have:=hc (j+1) zo;rwa [show i+(j+1)=i+1+j by omega] at this);intro e he;rw[events_load,hu] at he;rcases Array.mem_push.1 he with he | rfl
  ·exact h e he
  ·exact⟨_,rfl,by rw[addBlock];exact ha,by rw[addBlock];exact hF⟩
theorem ji3{P:Program}{F:Nat->Prop}{s:Nat}{a:Addr}{w:World}{n:Nat}(hc:∀j,j<n->(w.cell? (a.add j)).isSome)(ha:a.block<s)(hF:¬F a.block):Rd F s ((loadCells a n).events P w #[]) :=
 jtt ha hF n 0 _ _ Rd.nil (λj hj=>by simpa using hc j hj)
theorem jm5{P:Program}{F:Nat->Prop}{s:Nat}{a:Addr}{w:World}{cs:List Value}(h:∀j u,cs[j]?=some u->w.cell? (a.add j)=some u)(ha:a.block<s)(hF:¬F a.block):Rd F s ((loadCells a cs.length).events P w #[]) :=
 ji3 (λj hj=>isSome_of_list h hj) ha hF
theorem jjZ{P:Program}{o:Oper}{a:Act}{w:World}{F:Nat->Prop}{H:Heap}(h:(execOp a.eval o).events P w #[]=#[]):EvOk P o a w F H:=λe he=>by rw[h] at he;simp at he
theorem jjS{P:Program}{o:Oper}{a:Act}{w:World}{F:Nat->Prop}{H:Heap}{g:Nat}(hg:g∈Hb H)(hok:HeapOk F H w)(h:∀e∈(execOp a.eval o).events P w #[],∃a',e.loc=.cell a'/\a'.block=g):EvOk P o a w F H:=λe he=>by
 obtain⟨a',h1,rfl⟩:=h e he;exact .inl ⟨a',h1,hok.blk_lt hg,λhf=>hok.disj _ hg hf,λ_=>.inl hg⟩
theorem jdo{P:Program}{g o:Nat}{t:TypeId}:∀(vs:List Value)(i:Nat)(cur:Array Value)(w:World)(es:Array Event),w.heap[g]?=some (.cells cur t (0,0))->o+i+vs.length<=cur.size->(∀v∈vs,v.oneCell'=true) ->
 ∀e∈(storeCells ⟨g,o,none⟩ vs i).events P w es,e∈es\/∃a:Addr,e=⟨.cell a,true,false⟩/\a.block=g
 | [],i,cur,w,es,hg,hl,h1,e,he=>.inl (by simpa[storeCells] using he)
 | v::vs,i,cur,w,es,hg,hl,h1,e,he=>by
  simp only[qi] at hl;have hadd:(⟨g,o,none⟩:Addr).add i=⟨g,o+i,none⟩:=jqY g o i;have hc:w.cell? ⟨g,o+i,none⟩=some cur[o+i]:=by simp[World.cell?,hg]
  have hf:w.frozen? ⟨g,o+i,none⟩=false:=by simp[World.frozen?,hg]
  have hv:=h1 v (by simp)
  have hrun:(store ((⟨g,o,none⟩:Addr).add i) v).run P w=.ok () (w.setCell ⟨g,o+i,none⟩ v):=by
   rw[hadd];cases v<;>first | (simp[Value.oneCell'] at hv;done) | simp[store,Sem.run,hc,hf]
  simp only[storeCells,Sem.events_bind,hrun,Result.evThen_ok] at he
  have hset:(w.setCell ⟨g,o+i,none⟩ v).heap[g]?=some (.cells (cur.setIfInBounds (o+i) v) t (0,0)):=by
   have hlt:g<w.heap.size:=(Array.getElem?_eq_some_iff.1 hg).1;have hgv:w.heap[g]=.cells cur t (0,0):=(Array.getElem?_eq_some_iff.1 hg).2;simp[World.setCell,Array.getElem?_modify,hg]
  rcases jdo vs (i+1) _ _ _ hset (by simp;omega) (λu hu=>h1 u (by simp[hu])) e he with h | h
  ·rw[hadd,events_store _ _ _ _ _ _ hv,hc] at h
   simp only[hf,Bool.false_eq_true,if_false] at h;rcases Array.mem_push.1 h with h | h
   ·exact .inl h
   ·exact .inr ⟨_,h,rfl⟩
  ·exact .inr h
variable{κ:Kind}
section
variable{w:World}{O:Nat->Prop}
theorem RepL.length:∀{l:List D}{cs:List Value},RepL w O l cs->l.length=cs.length
 | [],cs,h=>by simp only[RepL] at h;subst h;rfl
 | d::r,cs,h=>by
  simp only[RepL] at h;obtain⟨c,cr,rfl,_,_,h4⟩:=h;simp[RepL.length h4]
theorem RepL.one:∀{l:List D}{cs:List Value},RepL w O l cs->∀u∈cs,u.oneCell'=true
 | [],cs,h,u,hu=>by simp only[RepL] at h;subst h;cases hu
 | d::r,cs,h,u,hu=>by
  simp only[RepL] at h;obtain⟨c,cr,rfl,_,h3,h4⟩:=h;rcases zf hu with rfl | hu
  ·exact h3
  ·exact RepL.one h4 u hu
theorem RepL.get:∀{l:List D}{cs:List Value}{i:Nat}{d:D},RepL w O l cs->l[i]?=some d->∃c,cs[i]?=some c/\Rep w O d c/\c.oneCell'=true
 | [],cs,i,d,h,hi=>by simp at hi
 | e::r,cs,i,d,h,hi=>by
  simp only[RepL] at h;obtain⟨c,cr,rfl,h2,h3,h4⟩:=h;cases i with
  | zero=>simp only[List.getElem?_cons_zero,qs] at hi;subst hi;exact⟨c,rfl,h2,h3⟩
  | succ i=>simp only[List.getElem?_cons_succ] at hi ⊢;exact RepL.get h4 hi
theorem RepL.append:∀{l l':List D}{cs cs':List Value},RepL w O l cs->RepL w O l' cs'->RepL w O (l++l') (cs++cs')
 | [],l',cs,cs',h,h'=>by simp only[RepL] at h;subst h;simpa using h'
 | d::r,l',cs,cs',h,h'=>by
  simp only[RepL] at h;obtain⟨c,cr,rfl,h2,h3,h4⟩:=h;simp only[List.cons_append,RepL];exact⟨c,cr++cs',rfl,h2,h3,RepL.append h4 h'⟩
theorem RepL.drop:∀{l:List D}{cs:List Value}(i:Nat),RepL w O l cs->RepL w O (l.drop i) (cs.drop i)
 | l,cs,0,h=>by simpa using h
 | [],cs,i+1,h=>by simp only[RepL] at h;subst h;simp[RepL]
 | d::r,cs,i+1,h=>by
  simp only[RepL] at h;obtain⟨c,cr,rfl,_,_,h4⟩:=h;simpa using RepL.drop i h4
theorem RepL.take:∀{l:List D}{cs:List Value}(i:Nat),RepL w O l cs->RepL w O (l.take i) (cs.take i)
 | l,cs,0,h=>by simp[RepL]
 | [],cs,i+1,h=>by simp only[RepL] at h;subst h;simp[RepL]
 | d::r,cs,i+1,h=>by
  simp only[RepL] at h;obtain⟨c,cr,rfl,h2,h3,h4⟩:=h;simp only[List.take_succ_cons,RepL];exact⟨c,_,rfl,h2,h3,RepL.take i h4⟩
theorem RepE.len{sz:Nat}:∀{l:List D}{cs:List Value},RepE w O sz l cs->cs.length=l.length * sz
 | [],cs,h=>by simp only[RepE] at h;subst h;simp
 | d::r,cs,h=>by
  simp only[RepE] at h;obtain⟨c,cr,rfl,h2,_,_,h5⟩:=h;simp only[qm,Array.length_toList,h2,RepE.len h5,qi];rw[Nat.add_mul,Nat.one_mul,Nat.add_comm]
theorem RepE.one{sz:Nat}:∀{l:List D}{cs:List Value},RepE w O sz l cs->∀u∈cs,u.oneCell'=true
 | [],cs,h,u,hu=>by simp only[RepE] at h;subst h;cases hu
 | d::r,cs,h,u,hu=>by
  simp only[RepE] at h;obtain⟨c,cr,rfl,h2,h3,_,h5⟩:=h;rcases zk hu with hu | hu
  ·exact h3 u hu
  ·exact RepE.one h5 u hu
theorem RepE.append{sz:Nat}:∀{l l':List D}{cs cs':List Value},RepE w O sz l cs->RepE w O sz l' cs'->RepE w O sz (l++l') (cs++cs')
 | [],l',cs,cs',h,h'=>by simp only[RepE] at h;subst h;simpa using h'
 | d::r,l',cs,cs',h,h'=>by
  simp only[RepE] at h;obtain⟨c,cr,rfl,h2,h3,h4,h5⟩:=h;simp only[List.cons_append,RepE];exact⟨c,cr++cs',by simp,h2,h3,h4,RepE.append h5 h'⟩
theorem RepE.get{sz:Nat}:∀{l:List D}{cs:List Value}{k:Nat}{d:D},RepE w O sz l cs->l[k]?=some d ->
 ∃c,c.cells.size=sz/\(∀u∈c.cells.toList,u.oneCell'=true)/\Rep w O d c/\∀j u,c.cells.toList[j]?=some u->cs[k * sz+j]?=some u
 | [],cs,k,d,h,hi=>by simp at hi
 | e::r,cs,k,d,h,hi=>by
  simp only[RepE] at h;obtain⟨c,cr,rfl,h2,h3,h4,h5⟩:=h;cases k with
  | zero =>
   simp only[List.getElem?_cons_zero,qs] at hi;subst hi;refine⟨c,h2,h3,h4,λj u hu=>?_⟩;have hj:j<c.cells.toList.length:=(List.getElem?_eq_some_iff.1 hu).1;rw[Nat.zero_mul,Nat.zero_add,List.getElem?_append_left hj];exact hu
  | succ k =>
   simp only[List.getElem?_cons_succ] at hi;obtain⟨c',g1,g2,g3,g4⟩:=RepE.get h5 hi;refine⟨c',g1,g2,g3,λj u hu=>?_⟩
   have:(k+1) * sz+j=c.cells.toList.length+(k * sz+j):=by
    rw[Array.length_toList,h2,Nat.add_mul,Nat.one_mul];omega
   rw[this,List.getElem?_append_right zo,Nat.add_sub_cancel_left];exact g4 j u hu
theorem RepE.take{sz:Nat}:∀{l:List D}{cs:List Value}(i:Nat),RepE w O sz l cs->RepE w O sz (l.take i) (cs.take (i * sz))
 | l,cs,0,h=>by simp[RepE]
 | [],cs,i+1,h=>by simp only[RepE] at h;subst h;simp[RepE]
 | d::r,cs,i+1,h=>by
  simp only[RepE] at h;obtain⟨c,cr,rfl,h2,h3,h4,h5⟩:=h;simp only[List.take_succ_cons,RepE];refine⟨c,cr.take (i * sz),?_,h2,h3,h4,RepE.take i h5⟩;have:(i+1) * sz=c.cells.toList.length+i * sz:=by rw[Array.length_toList,h2,Nat.add_mul,Nat.one_mul];omega
  rw[this,List.take_append,qC zo,Nat.add_sub_cancel_left]
theorem RepE.drop{sz:Nat}:∀{l:List D}{cs:List Value}(i:Nat),RepE w O sz l cs->RepE w O sz (l.drop i) (cs.drop (i * sz))
 | l,cs,0,h=>by simpa using h
 | [],cs,i+1,h=>by simp only[RepE] at h;subst h;simp[RepE]
 | d::r,cs,i+1,h=>by
  simp only[RepE] at h;obtain⟨c,cr,rfl,h2,h3,h4,h5⟩:=h;have:(i+1) * sz=c.cells.toList.length+i * sz:=by rw[Array.length_toList,h2,Nat.add_mul,Nat.one_mul];omega
  have e1:c.cells.toList.drop (c.cells.toList.length+i * sz)=[]:=List.drop_eq_nil_of_le zo;rw[List.drop_succ_cons,this,List.drop_append,e1,Nat.add_sub_cancel_left,List.nil_append];exact RepE.drop i h5
end
inductive UpdF:Heap->Ob->(Ob->Heap)->Prop
 | here {o r}:UpdF (o::r) o (λo'=>o'::r)
 | there {x r o f} (h:UpdF r o f):UpdF (x::r) o (λo'=>x::f o')
theorem UpdF.set{H o f}(h:UpdF H o f):∃k,H[k]?=some o/\∀o',f o'=H.set k o':=by
 induction h with
 | here=>exact⟨0,rfl,λ_=>rfl⟩
 | there h ih=>obtain⟨k,h1,h2⟩:=ih;exact⟨k+1,by simpa using h1,λo'=>by simp[h2]⟩
theorem UpdF.mem{H o f}(h:UpdF H o f):o∈H:=by
 obtain⟨k,h1,_⟩:=h.set;exact qk h1
inductive SubL:List D->Nat->Nat->List D->Prop
 | nil {cs}:SubL cs 0 0 []
 | cons {c cs n r} (h:SubL cs 0 n r):SubL (c::cs) 0 (n+1) (c::r)
 | skip {c cs o n r} (h:SubL cs o n r):SubL (c::cs) (o+1) n r
theorem SubL.eq{cs o n r}(h:SubL cs o n r):r=(cs.drop o).take n/\o+n<=cs.length:=by
 induction h with
 | nil=>simp
 | cons h ih=>obtain⟨h1,h2⟩:=ih;subst h1;simp at h2 ⊢;omega
 | skip h ih=>obtain⟨h1,h2⟩:=ih;subst h1;simp at h2 ⊢;omega
inductive Spl:List D->Nat->List D->List D->Prop
 | nil {cs}:Spl cs 0 [] cs
 | cons {c cs d ds r} (h:Spl cs 0 ds r):Spl (c::cs) 0 (d::ds) (d::r)
 | skip {c cs o ds r} (h:Spl cs o ds r):Spl (c::cs) (o+1) ds (c::r)
theorem Spl.eq{cs o ds r}(h:Spl cs o ds r):r=cs.take o++ds++cs.drop (o+ds.length)/\o+ds.length<=cs.length:=by
 induction h with
 | nil=>simp
 | cons h ih=>obtain⟨h1,h2⟩:=ih;subst h1;simp at h2 ⊢;omega
 | skip h ih =>
  obtain⟨h1,h2⟩:=ih;subst h1;simp only[qi,List.take_succ_cons,List.cons_append];refine⟨?_,by omega⟩
  congr 2
  rw[show ∀a b c:Nat,a+1+b=(a+b)+1 by omega,List.drop_succ_cons]
  all_goals first | rfl | exact 0
inductive Flat:D->List D->Prop
 | agg {l}:Flat (.agg l) l
 | v {x} (h:x.oneCell'=true):Flat (.v x) [.v x]
 | sl {sz l}:Flat (.sl sz l) [.sl sz l]
theorem Flat.rep{w:World}{O:Nat->Prop}{d l v}(h:Flat d l)(hr:Rep w O d v):∃cs:List Value,v.cells=cs.toArray/\RepL w O l cs:=by
 cases h with
 | agg =>
  simp only[Rep] at hr;obtain⟨cs,rfl,h2⟩:=hr;exact⟨cs,rfl,h2⟩
 | v hx =>
  simp only[Rep] at hr;subst hr;refine⟨[v],?_,?_⟩
  ·cases v<;>simp[Value.oneCell'] at hx<;>rfl
  ·simp only[RepL]
   exact⟨v,[],rfl,by simp[Rep],hx,rfl⟩
 | sl =>
  have h1:v.oneCell'=true/\v.cells=#[v]:=by
   simp only[Rep] at hr;obtain⟨_,cs,_,⟨a,cap,rfl,_⟩ | ⟨rfl,_⟩⟩:=hr<;>exact⟨rfl,rfl⟩
  refine⟨[v],h1.2,?_⟩;simp only[RepL];exact⟨v,[],rfl,hr,h1.1,rfl⟩
inductive Scal:D->Prop
 | v {x} (h:x.oneCell'=true):Scal (.v x)
 | sl {sz l}:Scal (.sl sz l)
inductive AllV:List Value->List D->Prop
 | nil:AllV [] []
 | cons {u us ds} (hu:u.oneCell'=true) (h:AllV us ds):AllV (u::us) (.v u::ds)
theorem AllV.rep{w:World}{O:Nat->Prop}{us ds}(h:AllV us ds):RepL w O ds us:=by
 induction h with
 | nil=>simp[RepL]
 | cons hu h ih=>simp only[RepL];exact⟨_,_,rfl,by simp[Rep],hu,ih⟩
section
variable(P:Program)
def tagg(t:TypeId):Option Bool:=match P.underlying t with
 | some (.struct _)=>some true
 | some (.array _ _)=>some true
 | some _=>some false
 | none=>none
def tsize(t:TypeId):Option Nat:=(P.info? t).map (·.size)
def telem(t:TypeId):Option TypeId:=match P.underlying t with | some (.slice e)=>some e | _=>none
def tzero(t:TypeId):Option (List Value):=match P.info? t with | some i=>(match i.zero with | some z=>some z.cells.toList | none=>none) | none=>none
def tfield(s:TypeId)(f:Nat):Option (Nat × Nat × Bool):=match P.underlying s with
 | some (.struct fs)=>(match fs[f]? with
  | some fd=>(match tsize P fd.type,tagg P fd.type with | some (n+1),some g=>some (fd.offset,n+1,g) | _,_=>none)
  | none=>none)
 | _=>none
end
section
variable{P:Program}
theorem jaB{t g}(h:tagg P t=some g)(w:World):(isAgg t).run P w=.ok g w:=by
 unfold tagg at h;cases e:P.underlying t with
 | none=>rw[e] at h;cases h
 | some d =>
  rw[e] at h;unfold isAgg;rw[Sem.run_bind,run_underlying e w];cases d<;>simp_all
theorem jat{t m}(h:tsize P t=some m)(w:World):(sizeOf t).run P w=.ok m w:=by
 unfold tsize at h;cases e:P.info? t with
 | none=>rw[e] at h;cases h
 | some i=>rw[e] at h;simp only[Option.map_some,qs] at h;subst h;simp[sizeOf,typeInfo,e]
theorem jao{t e}(h:telem P t=some e):P.underlying t=some (.slice e):=by
 unfold telem at h;split at h
 ·rename_i e' he;simp only[qs] at h;subst h;exact he
 ·cases h
variable{n:Nat}{env:Env}{H:Heap}{dst:Option Tmp}{ty:TypeId}{pos:String}{after:Array Edge}{gd:Option (Nat × Bool)}{x y z:Operand}
theorem jcW{s f off sz g}(h:tfield P s f=some (off,sz,g)):∃(fs:Array Field) (fd:Field),P.underlying s=some (.struct fs)/\fs[f]?=some fd/\tsize P fd.type=some sz/\0<sz/\tagg P fd.type=some g/\fd.offset=off:=by
 unfold tfield at h;split at h
 ·rename_i fs e
  split at h
  ·rename_i fd e2
   split at h
   ·rename_i m g' e3 e4
    simp only[qs,Prod.mk.injEq] at h;obtain⟨h1,h2,h3⟩:=h;exact⟨fs,fd,e,e2,by rw[e3];exact congrArg some h2,by omega,by rw[e4,h3],h1⟩
   ·cases h
  ·cases h
 ·cases h
theorem ja7{s f b o off sz g}(hx:opd env x=some (.p b o))(hf:tfield P s f=some (off,sz,g)):AP P n ⟨dst,.fieldAddr s x f,ty,pos,after,gd⟩ env H (.p b (o+off)):=by
 refine⟨λF M w0 a w hr=>?_⟩;have h1:=hr.opdv hx;obtain⟨fs,fd,e1,e2,e3,e4,_,e6⟩:=jcW hf;refine⟨.pointer (some ⟨b,o+off,none⟩),by simp[Rep],λw'=>?_⟩;have hadd:(⟨b,o,none⟩:Addr).add off=⟨b,o+off,none⟩:=by unfold Addr.add;split<;>simp_all
 have hne:sz≠0:=by omega
 simp[execOp,h1,Instr.fieldAt,run_underlying e1,e2,Instr.sureAddr,fieldPlace,jat e3,e6,hadd,hne]
theorem jgX{s f l off sz g r}(hx:opd env x=some (.el (.agg l)))(hf:tfield P s f=some (off,sz,g))(hs:SubL l off sz r):AP P n ⟨dst,.fieldAddr s x f,ty,pos,after,gd⟩ env H (.el (.agg r)):=by
 refine⟨λF M w0 a w hr=>?_⟩;have h1:=hr.opd hx;obtain⟨fs,fd,e1,e2,e3,e4,_,e6⟩:=jcW hf;obtain⟨q1,q2⟩:=hs.eq;simp only[Rep] at h1;obtain⟨ad,c,h1,⟨cs,rfl,h2⟩,h3,h4,h5⟩:=h1;have hlen:=h2.length;simp only[Value.cells] at h3 h4 h5;refine⟨.pointer (some (ad.add off)),?_,λw'=>?_⟩
 ·simp only[Rep]
  refine⟨ad.add off,.agg ((cs.drop off).take sz).toArray,rfl,⟨_,rfl,?_⟩,?_,?_,?_⟩
  ·rw[q1];exact(h2.drop off).take sz
  ·intro u hu;simp only[Value.cells] at hu;exact h3 u (List.mem_of_mem_drop (List.mem_of_mem_take hu))
  ·simp only[Value.cells]
   intro e0;have:=congrArg List.length e0;simp at this;omega
  ·simp only[Value.cells]
   rcases h5 with h5 | ⟨h5,h6,h7⟩
   ·exact qp h5 h4
   ·have hadd:ad.add off=⟨ad.block,ad.off+off,none⟩:=by cases ad;simp only at h6;subst h6;unfold Addr.add;split<;>simp_all
    rw[hadd];refine .inr ⟨h5,rfl,λj c hj=>?_⟩;rw[List.getElem?_take] at hj;split at hj
    ·rw[List.getElem?_drop] at hj
     have:=h7 (off+j) c hj;simpa[Nat.add_assoc] using this
    ·cases hj
 ·have hne:sz≠0:=by omega
  simp[execOp,h1,Instr.fieldAt,run_underlying e1,e2,Instr.sureAddr,fieldPlace,jat e3,e6,hne]
theorem jbN(b o k:Nat):(⟨b,o,none⟩:Addr).add k=⟨b,o+k,none⟩:=by unfold Addr.add;split<;>simp_all
theorem jmf{t b off bty cs sz r f}(hx:opd env x=some (.p b off))(hk:UpdF H (.box b bty cs) f)(hm:b∉Mod)(hg:tagg P t=some true)(hs:tsize P t=some sz)(hr:SubL cs off sz r) :
 AQ P n Mod ⟨dst,.load t x,ty,pos,after,gd⟩ env H (.agg r):=by
 refine⟨λF M w0 a w hr'=>?_⟩;have h1:=hr'.opdv hx;obtain⟨vs,h2,h3⟩:=hr'.heap.holds _ hk.mem;obtain⟨q1,q2⟩:=hr.eq;have hlen:=h3.length;refine⟨.agg ((vs.drop off).take sz).toArray,by simp only[Rep];exact⟨_,rfl,by rw[q1];exact(h3.drop off).take sz⟩,λw' hw=>?_⟩;have hb:w'.heap[b]?=some (.cells vs.toArray bty (0,0)):=by rw[hw b (Array.getElem?_eq_some_iff.1 h2).1 hm (λh=>hr'.heap.disj b (jaG hk.mem rfl) h)];exact h2
 have hsz:((vs.drop off).take sz).length=sz:=by simp;omega
 have hl:=run_loadCells_list (P:=P) w' ⟨b,off,none⟩ ((vs.drop off).take sz) (λj u hu=>by
  rw[jbN,cell_of_row w' b _ vs.toArray bty (0,0) hb];rw[List.getElem?_take] at hu;split at hu
  ·rw[List.getElem?_drop] at hu;simpa using hu
  ·cases hu)
 rw[hsz] at hl;simp[execOp,h1,Instr.loadAt,Instr.sureAddr,loadVar,jaB hg,jat hs,hl];simp only[List.length_take,List.length_drop] at hsz;exact ji3 (λj hj=>by rw[jbN,cell_of_row w' b _ vs.toArray bty (0,0) hb];simp;omega) (Array.getElem?_eq_some_iff.1 h2).1 (λh=>hr'.heap.disj b (jaG hk.mem rfl) h)
theorem jnh{cs:List D}{off:Nat}{d:D}(h:SubL cs off 1 [d]):cs[off]?=some d:=by
 obtain⟨h1,h2⟩:=h.eq
 have:(cs.drop off)[0]?=some d:=by
  have:=congrArg (·[0]?) h1;simp only[List.getElem?_cons_zero] at this;rw[List.getElem?_take] at this;simpa using this.symm
 simpa using this
theorem jes{t b off bty cs d f}(hx:opd env x=some (.p b off))(hk:UpdF H (.box b bty cs) f)(hm:b∉Mod)(hg:tagg P t=some false)(hr:SubL cs off 1 [d]) :
 AQ P n Mod ⟨dst,.load t x,ty,pos,after,gd⟩ env H d:=by
 refine⟨λF M w0 a w hr'=>?_⟩;have h1:=hr'.opdv hx;obtain⟨vs,h2,h3⟩:=hr'.heap.holds _ hk.mem;obtain⟨c,h4,h5,h6⟩:=h3.get (jnh hr);refine⟨c,h5,λw' hw=>?_⟩;have hb:w'.heap[b]?=some (.cells vs.toArray bty (0,0)):=by rw[hw b (Array.getElem?_eq_some_iff.1 h2).1 hm (λh=>hr'.heap.disj b (jaG hk.mem rfl) h)];exact h2
 have hc:w'.cell? ⟨b,off,none⟩=some c:=by rw[cell_of_row w' b _ vs.toArray bty (0,0) hb];simpa using h4
 simp[execOp,h1,Instr.loadAt,Instr.sureAddr,loadVar,jaB hg,hc];exact jfJ (Array.getElem?_eq_some_iff.1 h2).1 (λh=>hr'.heap.disj b (jaG hk.mem rfl) h)
theorem jfl{t l sz}(hx:opd env x=some (.el (.agg l)))(hg:tagg P t=some true)(hs:tsize P t=some sz)(hl:l.length=sz)(hM:∀b∈Mod,b∈Hb H) :
 AQ P n Mod ⟨dst,.load t x,ty,pos,after,gd⟩ env H (.agg l):=by
 refine⟨λF M w0 a w hr'=>?_⟩;have h1:=hr'.opd hx;simp only[Rep] at h1;obtain⟨ad,c,h1,⟨cs,rfl,h2⟩,h3,h4,h5⟩:=h1;simp only[Value.cells] at h3 h4 h5;refine⟨.agg cs.toArray,by simp only[Rep];exact⟨_,rfl,h2⟩,λw' hw=>?_⟩;rcases h5 with h5 | ⟨h5,h6,h7⟩
 ·exact qp h5 h4
 ·have hn:ad.block∉Mod:=λhm=>h5 (.inr (hM _ hm))
  have hlt0:ad.block<w.heap.size:=by obtain⟨c0,hc0⟩:∃c0,cs[0]?=some c0:=⟨cs[0]'(List.length_pos_iff.2 h4),ze _⟩;have h70:=World.block_lt_of_cell? w _ (h7 0 c0 hc0);exact h70
  have hsame:∀j u,cs[j]?=some u->w'.cell? (ad.add j)=some u:=λj u hu=>by
   have h8:=h7 j u hu;have hlt:=World.block_lt_of_cell? w _ h8;have hadd:ad.add j=⟨ad.block,ad.off+j,none⟩:=by cases ad;simp only at h6;subst h6;exact jbN _ _ _
   rw[hadd];exact(World.cell?_of_block (w:=w) (w':=w') (a:=⟨ad.block,ad.off+j,none⟩) (hw ad.block hlt hn (λh=>h5 (.inl h)))).trans h8
  have hl':=run_loadCells_list (P:=P) w' ad cs hsame;have e:cs.length=sz:=by rw[<-h2.length,hl]
  rw[e] at hl';simp[execOp,h1,Instr.loadAt,Instr.sureAddr,loadVar,jaB hg,jat hs,hl'];rw[<-e];exact jm5 hsame hlt0 (λh=>h5 (.inl h))
theorem joc{w:World}{O:Nat->Prop}{d l v}(h:Flat d l)(h':∀m,d≠.agg m)(hr:Rep w O d v):v.cells=#[v]:=by
 cases h with
 | agg=>exact qp rfl (h' _)
 | v hx =>
  simp only[Rep] at hr;subst hr;cases v<;>simp[Value.oneCell'] at hx<;>rfl
 | sl =>
  simp only[Rep] at hr;obtain⟨_,cs,_,⟨a,cap,rfl,_⟩ | ⟨rfl,_⟩⟩:=hr<;>rfl
theorem Scal.cells{w:World}{O:Nat->Prop}{d v}(h:Scal d)(hr:Rep w O d v):v.cells=#[v]:=by
 cases h with
 | v hx=>exact joc (.v hx) (λm=>by simp) hr
 | sl=>exact joc .sl (λm=>by simp) hr
theorem jcj{t d}(hx:opd env x=some (.el d))(hg:tagg P t=some false)(hd:Scal d)(hM:∀b∈Mod,b∈Hb H) :
 AQ P n Mod ⟨dst,.load t x,ty,pos,after,gd⟩ env H d:=by
 refine⟨λF M w0 a w hr'=>?_⟩;have h1:=hr'.opd hx;simp only[Rep] at h1;obtain⟨ad,c,h1,h2,h3,h4,h5⟩:=h1;refine⟨c,h2,λw' hw=>?_⟩;rcases h5 with h5 | ⟨h5,h6,h7⟩
 ·exact qp h5 h4
 ·have hn:ad.block∉Mod:=λhm=>h5 (.inr (hM _ hm))
  have h8:=h7 0 c (by rw[hd.cells h2];rfl);have hlt:=World.block_lt_of_cell? w _ h8
  have hc:w'.cell? ad=some c:=by
   rw[World.cell?_of_block (w:=w) (w':=w') (a:=ad) (hw ad.block hlt hn (λh=>h5 (.inl h)))];have hadd:ad=⟨ad.block,ad.off+0,none⟩:=by cases ad;simp only at h6;subst h6;rfl
   rw[hadd];exact h8
  simp[execOp,h1,Instr.loadAt,Instr.sureAddr,loadVar,jaB hg,hc];exact jfJ hlt (λh=>h5 (.inl h))
theorem jfS{t d}(hx:opd env x=some (.el (.agg [d])))(hg:tagg P t=some false)(hd:Scal d)(hM:∀b∈Mod,b∈Hb H) :
 AQ P n Mod ⟨dst,.load t x,ty,pos,after,gd⟩ env H d:=by
 refine⟨λF M w0 a w hr'=>?_⟩;have h1:=hr'.opd hx;simp only[Rep] at h1;obtain⟨ad,c,h1,⟨cs,rfl,h2⟩,h3,h4,h5⟩:=h1;simp only[RepL] at h2;obtain⟨c,cr,rfl,h2,h2',rfl⟩:=h2;refine⟨c,h2,λw' hw=>?_⟩;simp only[Value.cells] at h5;rcases h5 with h5 | ⟨h5,h6,h7⟩
 ·cases h5
 ·have hn:ad.block∉Mod:=λhm=>h5 (.inr (hM _ hm))
  have h8:=h7 0 c rfl;have hlt:=World.block_lt_of_cell? w _ h8
  have hc:w'.cell? ad=some c:=by
   rw[World.cell?_of_block (w:=w) (w':=w') (a:=ad) (hw ad.block hlt hn (λh=>h5 (.inl h)))];have hadd:ad=⟨ad.block,ad.off+0,none⟩:=by cases ad;simp only at h6;subst h6;rfl
   rw[hadd];exact h8
  simp[execOp,h1,Instr.loadAt,Instr.sureAddr,loadVar,jaB hg,hc];exact jfJ hlt (λh=>h5 (.inl h))
theorem jap{t e sz l j k d}(hx:opd env x=some (.sl sz l))(hy:opd env y=some (.i j))(ht:telem P t=some e)(hs:tsize P e=some sz)(hz:0<sz)(hj:j=((k:Nat):Int))(hd:l[k]?=some d) :
 AP P n ⟨dst,.indexAddr t x y,ty,pos,after,gd⟩ env H (.el d):=by
 refine⟨λF M w0 a w hr=>?_⟩;have h1:=hr.opd hx;have h2:=hr.opdv hy;subst hj;have hkl:k<l.length:=(List.getElem?_eq_some_iff.1 hd).1;simp only[Rep] at h1;obtain⟨_,cs,hE,⟨ad,cap,h1,h3,h4⟩ | ⟨_,rfl⟩⟩:=h1
 ·obtain⟨c,g1,g2,g3,g4⟩:=hE.get hd
  refine⟨.pointer (some (ad.add (k * sz))),?_,λw'=>?_⟩
  ·simp only[Rep]
   have hne:c.cells.toList≠[]:=λe0=>by have:=congrArg List.length e0;simp at this;rw[this] at g1;simp at g1;omega
   refine⟨_,c,rfl,g3,g2,hne,?_⟩;rcases h4 with h4 | ⟨h4,h5,h6⟩
   ·exfalso
    have h7:=hE.len;rw[h4,qu] at h7;have h8:0<l.length * sz:=Nat.mul_pos zo hz;omega
   ·have hadd:ad.add (k * sz)=⟨ad.block,ad.off+k * sz,none⟩:=by cases ad;simp only at h5;subst h5;exact jbN _ _ _
    rw[hadd];exact .inr ⟨h4,rfl,λj u hu=>by have:=h6 _ _ (g4 j u hu);simpa[Nat.add_assoc] using this⟩
  ·have hi:(0:Int)<=(k:Int)/\(k:Int)<(l.length:Int):=by omega
   have hi':¬l.length<=k:=by omega
   simp[execOp,h1,h2,Instr.indexAt,asIntOf,run_underlying (jao ht),jat hs,hi,hi']
 ·simp at hkl
theorem jra{t e sz l}(hx:opd env x=some (.sl sz l))(ht:telem P t=some e):AP P n ⟨dst,.call { callee:=.builtin .len,args:=#[x],argTypes:=#[t] },ty,pos,after,gd⟩ env H (.i (l.length:Int)):=by
 refine⟨λF M w0 a w hr=>?_⟩;have h1:=hr.opd hx;refine⟨.int .i64 l.length,by simp[Rep],λw'=>?_⟩;simp only[Rep] at h1
 obtain⟨_,cs,_,⟨ad,cap,h1,_⟩ | ⟨h1,rfl⟩⟩:=h1 <;>
  simp[execOp,resolve,invoke,builtin,h1,Builtin.len_,run_underlying (jao ht),goInt]
theorem juj{ops rest t e sz l dst' K}(hx:opd env x=some (.sl sz l))(ht:telem P t=some e)(hd:dst=some dst')(hn:Nat.blt dst' n=true)
 (hk:l.length<=capB->AOps κ P n ops rest ((dst',.i (l.length:Int))::env) H K):AOps κ P n ops (⟨dst,.call { callee:=.builtin .len,args:=#[x],argTypes:=#[t] },ty,pos,after,none⟩::rest) env H K:=by
 refine jaH rfl (.of_op ⟨λF M w0 a w hr Kc hK=>?_,λF M w0 a w hr=>?_⟩)
 all_goals have h1:=hr.opd hx;simp only[Rep] at h1
 ·exact(((jra (P:=P) (n:=n) (dst:=dst) (ty:=ty) (pos:=pos) (after:=after) (gd:=none) hx ht).aq []).op hd hn (K:=λenv' H'=>AOps κ P n ops rest env' H' K) (hk h1.1)).wp F M w0 a w hr Kc hK
 ·exact(((jra (P:=P) (n:=n) (dst:=dst) (ty:=ty) (pos:=pos) (after:=after) (gd:=none) hx ht).aq []).op hd hn (K:=λenv' H'=>AOps κ P n ops rest env' H' K) (hk h1.1)).ev F M w0 a w hr
theorem jo2{t e v ety sz l f}(hx:opd env x=some (.v v))(hk:UpdF H (.arr v ety sz l) f)(ht:telem P t=some e):AP P n ⟨dst,.call { callee:=.builtin .len,args:=#[x],argTypes:=#[t] },ty,pos,after,gd⟩ env H (.i (l.length:Int)):=by
 refine⟨λF M w0 a w hr=>?_⟩;have h1:=hr.opdv hx;obtain⟨_,_,xs,hown,_⟩:=hr.heap.holds _ hk.mem;refine⟨.int .i64 l.length,by simp[Rep],λw'=>?_⟩;rcases hown.2 with⟨hv,hl⟩ | ⟨g,cap,cur,hv,_⟩
 ·rw[hv] at h1
  simp[execOp,resolve,invoke,builtin,h1,Builtin.len_,run_underlying (jao ht),goInt];omega
 ·rw[hv] at h1
  simp[execOp,resolve,invoke,builtin,h1,Builtin.len_,run_underlying (jao ht),goInt]
theorem jqs{t e}(hx:opd env x=some .nil)(ht:telem P t=some e):AP P n ⟨dst,.call { callee:=.builtin .len,args:=#[x],argTypes:=#[t] },ty,pos,after,gd⟩ env H (.i 0):=by
 refine⟨λF M w0 a w hr=>?_⟩;have h1:=hr.opdv hx;refine⟨.int .i64 0,by simp[Rep],λw'=>?_⟩;simp[execOp,resolve,invoke,builtin,h1,Builtin.len_,run_underlying (jao ht),goInt]
theorem jmO{b off}(hx:opd env x=some (.p b off)):AP P n ⟨dst,.nilCheck x,ty,pos,after,gd⟩ env H (.p b off):=by
 refine⟨λF M w0 a w hr=>?_⟩;have h1:=hr.opdv hx;refine⟨.pointer (some ⟨b,off,none⟩),by simp[Rep],λw'=>?_⟩;simp[execOp,h1]
theorem jhG{d}(hx:opd env x=some (.el d)):AP P n ⟨dst,.nilCheck x,ty,pos,after,gd⟩ env H (.el d):=by
 refine⟨λF M w0 a w hr=>?_⟩;have h1:=hr.opd hx;simp only[Rep] at h1;obtain⟨ad,c,h1,hrest⟩:=h1;refine⟨.pointer (some ad),by simp only[Rep];exact⟨ad,c,rfl,hrest⟩,λw'=>?_⟩;simp[execOp,h1]
theorem jd5{t e sz l j k}(hx:opd env x=some (.sl sz l))(hy:opd env y=some (.i j))(ht:telem P t=some e)(hs:tsize P e=some sz)(hj:j=((k:Nat):Int))(hk:k<=l.length) :
 AP P n ⟨dst,.slice t x none (some y) none,ty,pos,after,gd⟩ env H (.sl sz (l.take k)):=by
 refine⟨λF M w0 a w hr=>?_⟩;have h1:=hr.opd hx;have h2:=hr.opdv hy;subst hj;simp only[Rep] at h1;obtain⟨hb,cs,hE,⟨ad,cap,h1,h3,h4⟩ | ⟨h1,rfl⟩⟩:=h1
 ·refine⟨.slice (some ad) k cap,?_,λw'=>?_⟩
  ·simp only[Rep]
   have hlk:(l.take k).length=k:=by simp;omega
   refine⟨by omega,cs.take (k * sz),hE.take k,.inl ⟨ad,cap,by rw[hlk],by omega,?_⟩⟩;rcases h4 with h4 | ⟨h4,h5,h6⟩
   ·exact .inl (by simp[h4])
   ·refine .inr ⟨h4,h5,λj c hj=>?_⟩
    rw[List.getElem?_take] at hj;split at hj
    ·exact h6 j c hj
    ·cases hj
  ·have hi:(0:Int)<=(k:Int)/\(k:Int)<=(cap:Int):=by omega
   have hi':¬cap<k:=by omega
   simp[hi',execOp,h1,h2,Instr.sliceAt,Instr.slice,run_underlying (jao ht),Instr.sliceBounds,Instr.sliceBound,asIntOf,hi,jat hs,Addr.add];simp[show k<=cap by omega]
 ·have hk0:k=0:=by simpa using hk
  subst hk0;refine⟨.slice none 0 0,?_,λw'=>?_⟩
  ·simp only[Rep]
   exact⟨by simp,[],by simp[RepE],.inr (by simp)⟩
  ·simp[execOp,h1,h2,Instr.sliceAt,Instr.slice,run_underlying (jao ht),Instr.sliceBounds,Instr.sliceBound,asIntOf,jat hs]
theorem RepT.get{w:World}{O:Nat->Prop}:∀{l:List D}{cs:List Value}{i:Nat}{d:D},RepT w O l cs->l[i]?=some d->∃c,cs[i]?=some c/\Rep w O d c
 | [],cs,i,d,h,hi=>by simp at hi
 | e::r,cs,i,d,h,hi=>by
  simp only[RepT] at h;obtain⟨c,cr,rfl,h3,h4⟩:=h;cases i with
  | zero=>simp only[List.getElem?_cons_zero,qs] at hi;subst hi;exact⟨c,rfl,h3⟩
  | succ i=>simp only[List.getElem?_cons_succ] at hi ⊢;exact RepT.get h4 hi
theorem jfr{l i d}(hx:opd env x=some (.tup l))(hi:l[i]?=some d):AP P n ⟨dst,.extract x i,ty,pos,after,gd⟩ env H d:=by
 refine⟨λF M w0 a w hr=>?_⟩;have h1:=hr.opd hx;simp only[Rep] at h1;obtain⟨cs,h1,h2⟩:=h1;have:=h2.get hi;obtain⟨c,h3,h4⟩:=this;exact⟨c,h4,λw'=>by simp[execOp,h1,Instr.extract,h3]⟩
theorem jvo{s f l off sz d}(hx:opd env x=some (.agg l))(hf:tfield P s f=some (off,sz,false))(hs:SubL l off 1 [d]):AP P n ⟨dst,.field s x f,ty,pos,after,gd⟩ env H d:=by
 refine⟨λF M w0 a w hr=>?_⟩;have h1:=hr.opd hx;obtain⟨fs,fd,e1,e2,e3,e4,e5,e6⟩:=jcW hf;simp only[Rep] at h1;obtain⟨cs,h1,h2⟩:=h1;obtain⟨c,h4,h5,h6⟩:=h2.get (jnh hs);exact⟨c,h5,λw'=>by simp[execOp,h1,Instr.field,run_underlying e1,e2,asAgg,part,jaB e5,e6,h4]⟩
theorem jlo{s f l off sz r}(hx:opd env x=some (.agg l))(hf:tfield P s f=some (off,sz,true))(hs:SubL l off sz r):AP P n ⟨dst,.field s x f,ty,pos,after,gd⟩ env H (.agg r):=by
 refine⟨λF M w0 a w hr=>?_⟩;have h1:=hr.opd hx;obtain⟨fs,fd,e1,e2,e3,e4,e5,e6⟩:=jcW hf;obtain⟨q1,q2⟩:=hs.eq;simp only[Rep] at h1;obtain⟨cs,h1,h2⟩:=h1;refine⟨.agg ((cs.drop off).take sz).toArray,by simp only[Rep];exact⟨_,rfl,by rw[q1];exact(h2.drop off).take sz⟩,λw'=>?_⟩;simp[execOp,h1,Instr.field,run_underlying e1,e2,asAgg,part,jaB e5,e6,jat e3]
end
variable{κ:Kind}
section
variable{P:Program}{n:Nat}{env:Env}{H:Heap}{dst:Option Tmp}{ty:TypeId}{pos:String}{after:Array Edge}{gd:Option (Nat × Bool)}{x y z:Operand}
theorem Fr.alloc(w:World)(o:Obj):Fr [] w (w.alloc o):=⟨rfl,rfl,rfl,by simp,λb hb _=>heap_alloc_old w o b hb⟩
theorem Fr.setRow(w:World)(g:Nat)(cs:Array Value):Fr [g] w (w.setRow g cs):=⟨rfl,rfl,rfl,by simp,λb _ hm=>setRow_other w g b cs (by simpa using hm)⟩
theorem jua{ops rest ety d ds t K}(hx:opd env x=some d)(hfl:Flat d ds)(hd:dst=some t)(hn:Nat.blt t n=true)
 (hk:∀b,AOps κ P n ops rest ((t,.p b 0)::env) (.box b ety ds::H) K):AOps κ P n ops (⟨dst,.box ety x,ty,pos,after,none⟩::rest) env H K:=by
 refine jaH rfl (.of_op ⟨λF M w0 a w hr Kc hK=>?_,λF M w0 a w hr=>?_⟩);obtain⟨cs,h1,h2⟩:=hfl.rep (hr.opd hx)
 have hr1:=hr.add (o':=.box w.heap.size ety ds) (Fr.alloc w (.cells cs.toArray ety))
  (λO' hO=>⟨cs,heap_alloc_new w _,RepL.mono (λb hb hb'=>⟨hO b hb hb',heap_alloc_old w _ b hb⟩) _ _ h2⟩)
  (λb hb=>by simp only[Ob.blk,qs] at hb;omega)
 unfold wpv;simp only[execOp,Instr.box,newVar,newRow,Sem.run_bind,run_newObj,Result.andThen_ok,Sem.run_pure,World.alloc_eq,jbO,hd,h1];exact hK _ _ _ _ (hk w.heap.size) (hr1.put (by simp[Rep]) (by simpa[Nat.blt_eq] using hn));exact jjZ (by simp[execOp,Instr.box,newVar,newRow])
theorem jcK{t us}(h:tzero P t=some us)(w:World):∃zv:Value,(zeroValue t).run P w=.ok zv w/\zv.cells=us.toArray:=by
 unfold tzero at h;cases e:P.info? t with
 | none=>rw[e] at h;cases h
 | some i =>
  rw[e] at h;simp only at h;cases e2:i.zero with
  | none=>rw[e2] at h;cases h
  | some z =>
   rw[e2] at h;simp only[qs] at h;exact⟨z,by simp[zeroValue,typeInfo,e,e2],by rw[<-h]⟩
theorem jff{ops rest ety us ds t K}(hz:tzero P ety=some us)(hu:AllV us ds)(hd:dst=some t)(hn:Nat.blt t n=true)
 (hk:∀b,AOps κ P n ops rest ((t,.p b 0)::env) (.box b ety ds::H) K):AOps κ P n ops (⟨dst,.alloc ety,ty,pos,after,none⟩::rest) env H K:=by
 refine jaH rfl (.of_op ⟨λF M w0 a w hr Kc hK=>?_,λF M w0 a w hr=>?_⟩);obtain⟨zv,h0,h1⟩:=jcK hz w
 have hr1:=hr.add (o':=.box w.heap.size ety ds) (Fr.alloc w (.cells us.toArray ety))
  (λO' hO=>⟨us,heap_alloc_new w _,hu.rep⟩)
  (λb hb=>by simp only[Ob.blk,qs] at hb;omega)
 unfold wpv;simp only[execOp,Instr.alloc,h0,newVar,newRow,Sem.run_bind,run_newObj,Result.andThen_ok,Sem.run_pure,World.alloc_eq,jbO,hd,h1];exact hK _ _ _ _ (hk w.heap.size) (hr1.put (by simp[Rep]) (by simpa[Nat.blt_eq] using hn));obtain⟨zv,h0,h1⟩:=jcK hz w;exact jjZ (by simp[execOp,Instr.alloc,newVar,newRow,h0])
theorem jdU{ops rest t b off d ds bty cs cs' f K}(hx:opd env x=some (.p b off))(hy:opd env y=some d)(hfl:Flat d ds)(hk:UpdF H (.box b bty cs) f)(hs:tsize P t=some ds.length)(hsp:Spl cs off ds cs')
 (h:AOps κ P n ops rest env (f (.box b bty cs')) K):AOps κ P n ops (⟨none,.store t x y,ty,pos,after,none⟩::rest) env H K:=by
 refine jaH rfl (.of_op ⟨λF M w0 a w hr Kc hK=>?_,λF M w0 a w hr=>?_⟩);have h1:=hr.opdv hx;obtain⟨us,h2,h3⟩:=hfl.rep (hr.opd hy);obtain⟨k,hk1,hk2⟩:=hk.set;obtain⟨vs,h4,h5⟩:=hr.heap.holds _ hk.mem;obtain⟨q1,q2⟩:=hsp.eq;have l1:=h5.length;have l2:=h3.length;have hrun:=run_storeCells_at P b off bty us 0 vs.toArray w h4 (by simp;omega) h3.one;simp only[Nat.add_zero] at hrun
 have hr1:=hr.upd (o':=.box b bty cs') hk1 (Fr.setRow w b (vs.take off++us++vs.drop (off+us.length)).toArray)
  (λO' hO=>⟨vs.take off++us++vs.drop (off+us.length),setRow_heap w b vs.toArray _ bty _ h4,by
    rw[q1,l2]
    have hm:∀bb,bb<w.heap.size->¬Own F H bb->¬O' bb/\(w.setRow b (vs.take off++us++vs.drop (off+us.length)).toArray).heap[bb]?=w.heap[bb]?:=λbb hb hb' =>
     ⟨hO bb hb hb',setRow_other w b bb _ (λe=>hb' (.inr (jaG hk.mem (by simp[Ob.blk,e]))))⟩
    exact RepL.append (RepL.append ((RepL.mono hm _ _ h5).take off) (RepL.mono hm _ _ h3)) ((RepL.mono hm _ _ h5).drop _)⟩) (.inl rfl)
 unfold wpv;simp only[execOp,h1,Instr.storeAt,Instr.sureAddr,storeVar,Sem.run_bind,Sem.run_pure,Result.andThen_ok,jat hs,h2];simp only[List.size_toArray,<-l2,ne_eq,not_true_eq_false,if_false,hrun,Sem.run_pure,Result.andThen_ok,jjo,Sem.run_ite,Sem.run_bind,List.toList_toArray];have:=hK env (f (.box b bty cs')) (a.put none undef) _ h (by rw[hk2];exact hr1);rw[<-l2] at this;exact this;have h1:=hr.opdv hx;obtain⟨us,h2,h3⟩:=hfl.rep (hr.opd hy);obtain⟨vs,h4,h5⟩:=hr.heap.holds _ hk.mem;obtain⟨q1,q2⟩:=hsp.eq;have l1:=h5.length;have l2:=h3.length;refine jjS (jaG hk.mem rfl) hr.heap λe he=>?_;simp only[execOp,h1,Instr.storeAt,Instr.sureAddr,storeVar,Sem.events_bind,Sem.run_bind,Sem.events_pure,Sem.run_pure,Result.andThen_ok,Result.evThen_ok,jat hs,events_sizeOf,h2] at he;simp only[List.size_toArray,<-l2,ne_eq,not_true_eq_false,if_false,List.toList_toArray,Sem.run_ite,Sem.events_ite] at he;have hrun:=run_storeCells_at P b off bty us 0 vs.toArray w h4 (by simp;omega) h3.one;simp only[Nat.add_zero] at hrun;simp only[hrun,Result.evThen_ok,Sem.events_pure,Sem.run_pure,Result.andThen_ok,Sem.events_bind] at he;rcases jdo us 0 vs.toArray w #[] h4 (by simp;omega) h3.one e he with h | ⟨a',rfl,hb⟩
 ·simp at h
 ·exact⟨a',rfl,hb⟩
theorem jdb:∀(vs:List Value)(off k:Nat)(cs:Array Value),off+k+vs.length<=cs.size ->
 (vs.zipIdx k).foldl (λcs (p:Value × Nat)=>cs.setIfInBounds (off+p.2) p.1) cs=(cs.toList.take (off+k)++vs++cs.toList.drop (off+k+vs.length)).toArray
 | [],off,k,cs,h=>by simp
 | v::r,off,k,cs,h=>by
  simp only[qi] at h;rw[List.zipIdx_cons,List.foldl_cons,jdb r off (k+1) _ (by simp;omega)];apply Array.ext';simp only[Array.toList_setIfInBounds,qi];have e1:off+(k+1)=off+k+1:=by omega
  rw[e1];have hlt:off+k<cs.toList.length:=by simp;omega
  have e2:(cs.toList.set (off+k) v).take (off+k+1)=cs.toList.take (off+k)++[v]:=by
   rw[List.take_succ_eq_append_getElem (by simpa using hlt),List.take_set_of_le zo];simp
  have e3:(cs.toList.set (off+k) v).drop (off+k+1+r.length)=cs.toList.drop (off+k+(r.length+1)):=by
   rw[List.drop_set_of_lt zo]
   congr 1
   omega
  rw[e2,e3];simp
def plc(sz:Nat):Nat->Option (Nat × Nat):=λi=>some (i * sz,sz)
inductive PartsIn(env:Env)(sz:Nat):Nat->List (Nat × Operand)->List D->Prop
 | nil {k}:PartsIn env sz k [] []
 | cons {k x d ds rest l} (hx:opd env x=some d) (hf:Flat d ds) (hs:ds.length=sz) (h:PartsIn env sz (k+1) rest l):PartsIn env sz k ((k,x)::rest) (d::l)
theorem jh1{F M w0 a w}(hr:Rel F M w0 n env H a w){sz:Nat}:∀{k:Nat}{parts:List (Nat × Operand)}{l:List D},PartsIn env sz k parts l->∀(pre:List Value)(cs:Array Value),pre.length=k * sz->cs.toList.take (k * sz)=pre->cs.size=(k+l.length) * sz ->
 ∃out:List Value,Instr.fill (λi=>some (i * sz,sz)) cs (parts.map λp=>(p.1,a.eval p.2))=some (pre++out).toArray/\RepE w (Own F H) sz l out/\out.length=l.length * sz:=by
 intro k parts l h
 induction h with
 | nil =>
  intro pre cs h1 h2 h3;refine⟨[],?_,by simp[RepE],by simp⟩;simp only[List.map_nil,Instr.fill,List.append_nil,qs];apply Array.ext';rw[<-h2,qC (by simp[h3])]
 | @cons k x d ds rest l hx hf hs h ih =>
  intro pre cs h1 h2 h3;obtain⟨us,q1,q2⟩:=hf.rep (hr.opd hx);have hus:us.length=sz:=by rw[<-q2.length,hs]
  simp only[qi] at h3;have h3':cs.size=k * sz+sz+l.length * sz:=by rw[h3];rw[show k+(l.length+1)=k+1+l.length by omega,Nat.add_mul,Nat.add_mul,Nat.one_mul]
  have hsp:=jdb us (k * sz) 0 cs zo;simp only[Nat.add_zero] at hsp;rw[h2] at hsp
  obtain⟨out,g1,g2,g3⟩:=ih (pre++us) (pre++us++cs.toList.drop (k * sz+us.length)).toArray (by simp[h1,hus,Nat.add_mul])
   (by simp only[List.toList_toArray];rw[List.take_left' (by simp[h1,hus,Nat.add_mul])])
   (by simp[h1,hus];rw[h3',Nat.add_mul,Nat.add_mul,Nat.one_mul];omega)
  refine⟨us++out,?_,?_,by simp[hus,g3,Nat.add_mul];omega⟩
  ·simp only[List.map_cons,Instr.fill,q1]
   rw[qe (by simp[hus];omega)]
   have e:(us.toArray.zipIdx.foldl (λcs x=>cs.setIfInBounds (k * sz+x.2) x.1) cs)=(us.zipIdx 0).foldl (λcs (p:Value × Nat)=>cs.setIfInBounds (k * sz+p.2) p.1) cs:=by
    rw[<-Array.foldl_toList,Array.toList_zipIdx]
   rw[show ((us.toArray.zipIdx.foldl (λcs (x:Value × Nat)=>match x with | (c,j)=>cs.setIfInBounds (k * sz+j) c) cs))=(us.toArray.zipIdx.foldl (λcs x=>cs.setIfInBounds (k * sz+x.2) x.1) cs) from rfl,e,hsp];rw[g1,List.append_assoc]
  ·simp only[RepE]
   exact⟨a.eval x,out,by rw[q1],by rw[q1];simp[hus],by rw[q1];simpa using q2.one,hr.opd hx,g2⟩
def tinfo(P:Program)(e:TypeId):Option (Nat × Nat):=match P.info? e with
 | some i=>(match i.zero with
  | some z=>if z.cells.size=i.size/\0<i.size then some (i.size,i.bytes) else none
  | none=>none)
 | none=>none
theorem jaN{e sz by_}(h:tinfo P e=some (sz,by_)):∃i z,P.info? e=some i/\i.zero=some z/\i.size=sz/\i.bytes=by_/\z.cells.size=sz/\0<sz:=by
 unfold tinfo at h;cases e1:P.info? e with
 | none=>rw[e1] at h;cases h
 | some i =>
  rw[e1] at h;simp only at h;cases e2:i.zero with
  | none=>rw[e2] at h;cases h
  | some z =>
   rw[e2] at h;simp only at h;split at h
   ·rename_i hz
    simp only[qs,Prod.mk.injEq] at h;obtain⟨rfl,rfl⟩:=h;exact⟨i,z,rfl,e2,rfl,rfl,hz.1,hz.2⟩
   ·cases h
theorem jbT{F M w0 a w}(hr:Rel F M w0 n env H a w){t e sz by_ len parts l}(ht:telem P t=some e)(hi:tinfo P e=some (sz,by_))(hp:PartsIn env sz 0 parts l)(hl:l.length=len)(hsm:len * sz<=16777216) :
 ∃out:List Value,RepE w (Own F H) sz l out/\out.length=l.length * sz /\
  (Instr.buildSlice t len (parts.map λp=>(p.1,a.eval p.2)).toArray).run P w=.ok (.slice (some ⟨w.heap.size,0,none⟩) len len) (w.alloc (.cells out.toArray e)):=by
 obtain⟨i,z,h1,h2,h3,h4,h5,h6⟩:=jaN hi;subst hl;have hsz:(sizeOf e).run P w=.ok sz w:=by simp[sizeOf,typeInfo,h1,h3]
 have hzero:(zeroValue e).run P w=.ok z w:=by simp[zeroValue,typeInfo,h1,h2]
 have hfin:∀(zc:Array Value),∃out:List Value,Instr.fill (λi=>some (i * sz,sz)) ((Array.range (l.length * sz)).map (zc[· % zc.size]!)) (parts.map λp=>(p.1,a.eval p.2))=some out.toArray/\RepE w (Own F H) sz l out/\out.length=l.length * sz:=λzc=>by
  obtain⟨out,g1,g2,g3⟩:=jh1 hr hp [] ((Array.range (l.length * sz)).map (zc[· % zc.size]!)) (by simp) (by simp) (by simp);exact⟨out,by simpa using g1,g2,g3⟩
 have hsm':¬(l.length * sz>2^24):=by omega
 by_cases hz:l.length * sz=0
 ·obtain⟨out,g1,g2,g3⟩:=hfin #[]
  refine⟨out,g2,g3,?_⟩;unfold Instr.buildSlice;simp only[Sem.run_bind,run_underlying (jao ht),Result.andThen_ok,hsz,Sem.run_ite,hsm',if_false,hz,if_true,Sem.run_pure,List.toList_toArray];rw[hz] at g1;rw[g1];simp[newRow]
 ·obtain⟨out,g1,g2,g3⟩:=hfin z.cells
  refine⟨out,g2,g3,?_⟩;unfold Instr.buildSlice;simp only[Sem.run_bind,run_underlying (jao ht),Result.andThen_ok,hsz,Sem.run_ite,hsm',if_false,hz,hzero,Sem.run_pure,List.toList_toArray];rw[g1];simp[newRow]
theorem jcL{F M w0 a w}(hr:Rel F M w0 n env H a w){t e sz by_ len parts l}(ht:telem P t=some e)(hi:tinfo P e=some (sz,by_))(hp:PartsIn env sz 0 parts l)(hl:l.length=len)(hsm:len * sz<=16777216) :
 (Instr.buildSlice t len (parts.map λp=>(p.1,a.eval p.2)).toArray).events P w #[]=#[]:=by
 obtain⟨i,z,h1,h2,h3,h4,h5,h6⟩:=jaN hi;subst hl;have hsz:(sizeOf e).run P w=.ok sz w:=by simp[sizeOf,typeInfo,h1,h3]
 have hzero:(zeroValue e).run P w=.ok z w:=by simp[zeroValue,typeInfo,h1,h2]
 have hfin:∀(zc:Array Value),∃out:List Value,Instr.fill (λi=>some (i * sz,sz)) ((Array.range (l.length * sz)).map (zc[· % zc.size]!)) (parts.map λp=>(p.1,a.eval p.2))=some out.toArray:=λzc=>by
  obtain⟨out,g1,g2,g3⟩:=jh1 hr hp [] ((Array.range (l.length * sz)).map (zc[· % zc.size]!)) (by simp) (by simp) (by simp);exact⟨out,by simpa using g1⟩
 have hsm':¬(l.length * sz>2^24):=by omega
 by_cases hz:l.length * sz=0
 ·obtain⟨out,g1⟩:=hfin #[]
  unfold Instr.buildSlice;simp only[Sem.events_bind,Sem.run_bind,run_underlying (jao ht),events_underlying,Result.andThen_ok,Result.evThen_ok,hsz,events_sizeOf,Sem.run_ite,Sem.events_ite,hsm',if_false,hz,if_true,Sem.run_pure,Sem.events_pure,List.toList_toArray];rw[hz] at g1;rw[g1];simp[newRow]
 ·obtain⟨out,g1⟩:=hfin z.cells
  unfold Instr.buildSlice;simp only[Sem.events_bind,Sem.run_bind,run_underlying (jao ht),events_underlying,Result.andThen_ok,Result.evThen_ok,hsz,events_sizeOf,Sem.run_ite,Sem.events_ite,hsm',if_false,hz,hzero,events_zeroValue,Sem.run_pure,Sem.events_pure,List.toList_toArray];rw[g1];simp[newRow]
theorem juL{ops rest t e sz by_ len parts l d K}(ht:telem P t=some e)(hi:tinfo P e=some (sz,by_))(hp:PartsIn env sz 0 parts l)(hl:l.length=len)(hsm:Nat.ble (len * sz) 16777216=true)(hd:dst=some d)(hn:Nat.blt d n=true)
 (hk:AOps κ P n ops rest ((d,.sl sz l)::env) H K):AOps κ P n ops (⟨dst,.buildSlice t len parts.toArray,ty,pos,after,none⟩::rest) env H K:=by
 refine jaH rfl (.of_op ⟨λF M w0 a w hr Kc hK=>?_,λF M w0 a w hr=>?_⟩);have hsm':len * sz<=16777216:=by simpa using hsm
 obtain⟨out,h1,h2,h3⟩:=jbT (P:=P) hr ht hi hp hl hsm';obtain⟨_,_,_,_,_,_,_,hsz⟩:=jaN hi;have hmono:∀b,b<w.heap.size->¬Own F H b->¬Own F H b/\(w.alloc (.cells out.toArray e)).heap[b]?=w.heap[b]?:=λb hb hb'=>⟨hb',heap_alloc_old w _ b hb⟩
 have hok:HeapOk F H (w.alloc (.cells out.toArray e)) :=
  ⟨λo ho=>(hr.heap.holds o ho).mono hmono (λb hb=>heap_alloc_old w _ b ((hr.heap.holds o ho).blk_lt hb)),hr.heap.nodup,hr.heap.disj,λb hb=>qA (hr.heap.frb b hb) (by simp)⟩
 have hr1:=hr.step hok ((Fr.alloc w _).weaken (by simp)) (λb hb=>.inl hb)
 have hnew:¬Own F H w.heap.size:=by
  rintro(h | h)
  ·have:=hr.heap.frb _ h;omega
  ·have:=hr.heap.blk_lt h;omega
 have hrep:Rep (w.alloc (.cells out.toArray e)) (Own F H) (.sl sz l) (.slice (some ⟨w.heap.size,0,none⟩) len len):=by
  simp only[Rep]
  have hb:l.length<=capB:=by
   unfold capB;have:l.length * 1<=l.length * sz:=Nat.mul_le_mul_left _ hsz;rw[hl] at this ⊢;omega
  refine⟨hb,out,RepE.mono hmono sz l out h1,.inl ⟨⟨w.heap.size,0,none⟩,len,by rw[hl],by omega,.inr ⟨hnew,rfl,λj c hj=>?_⟩⟩⟩;rw[cell_of_row _ w.heap.size _ out.toArray e (0,0) (heap_alloc_new w _)];simpa using hj
 unfold wpv;have e:(execOp a.eval ⟨dst,.buildSlice t len parts.toArray,ty,pos,after,none⟩)=(do pure (.value (<-Instr.buildSlice t len (parts.map λp=>(p.1,a.eval p.2)).toArray))):=by simp[execOp]
 rw[e,Sem.run_bind,h3,Result.andThen_ok,Sem.run_pure,jbO,hd];exact hK _ _ _ _ hk (hr1.put hrep (by simpa[Nat.blt_eq] using hn));have hsm':len * sz<=16777216:=by simpa using hsm
 have e:(execOp a.eval ⟨dst,.buildSlice t len parts.toArray,ty,pos,after,none⟩)=(do pure (.value (<-Instr.buildSlice t len (parts.map λp=>(p.1,a.eval p.2)).toArray))):=by simp[execOp]
 exact jjZ (by
  obtain⟨out,h1,h2,h3⟩:=jbT (P:=P) hr ht hi hp hl hsm';rw[e,Sem.events_bind,h3];simp only[Result.evThen_ok,Sem.events_pure]
  exact jcL hr ht hi hp hl hsm')
theorem jf8{ops rest t e sz by_ len parts l d K}(ht:telem P t=some e)(hi:tinfo P e=some (sz,by_))(hp:PartsIn env sz 0 parts l)(hl:l.length=len)(hsm:Nat.ble (len * sz) 16777216=true)(hd:dst=some d)(hn:Nat.blt d n=true)
 (hk:∀v,v.oneCell'=true->AOps κ P n ops rest ((d,.v v)::env) (.arr v e sz l::H) K):AOps κ P n ops (⟨dst,.buildSlice t len parts.toArray,ty,pos,after,none⟩::rest) env H K:=by
 refine jaH rfl (.of_op ⟨λF M w0 a w hr Kc hK=>?_,λF M w0 a w hr=>?_⟩);have hsm':len * sz<=16777216:=by simpa using hsm
 obtain⟨out,h1,h2,h3⟩:=jbT (P:=P) hr ht hi hp hl hsm';obtain⟨_,_,_,_,_,_,_,hsz⟩:=jaN hi
 have hle:len<=16777216:=by
  have:len * 1<=len * sz:=Nat.mul_le_mul_left _ hsz;omega
 have hr1:=hr.add (o':=.arr (.slice (some ⟨w.heap.size,0,none⟩) len len) e sz l) (Fr.alloc w (.cells out.toArray e))
  (λO' hO=>⟨hsz,by unfold capB;omega,out,⟨h2,.inr ⟨w.heap.size,len,out.toArray,by rw[hl],Nat.zero_le _,heap_alloc_new w _,by omega,by simp only[maxLen];omega,by simp[h2,hl],by simp only[List.toList_toArray];rw[qC zo]⟩⟩,
    RepE.mono (λb hb hb'=>⟨hO b hb hb',heap_alloc_old w _ b hb⟩) _ _ _ h1⟩)
  (λb hb=>by simp only[Ob.blk,Value.ownBlock,qs] at hb;omega)
 unfold wpv;have e:(execOp a.eval ⟨dst,.buildSlice t len parts.toArray,ty,pos,after,none⟩)=(do pure (.value (<-Instr.buildSlice t len (parts.map λp=>(p.1,a.eval p.2)).toArray))):=by simp[execOp]
 rw[e,Sem.run_bind,h3,Result.andThen_ok,Sem.run_pure,jbO,hd];exact hK _ _ _ _ (hk _ rfl) (hr1.put (by simp[Rep]) (by simpa[Nat.blt_eq] using hn));have hsm':len * sz<=16777216:=by simpa using hsm
 have e:(execOp a.eval ⟨dst,.buildSlice t len parts.toArray,ty,pos,after,none⟩)=(do pure (.value (<-Instr.buildSlice t len (parts.map λp=>(p.1,a.eval p.2)).toArray))):=by simp[execOp]
 exact jjZ (by
  obtain⟨out,h1,h2,h3⟩:=jbT (P:=P) hr ht hi hp hl hsm';rw[e,Sem.events_bind,h3];simp only[Result.evThen_ok,Sem.events_pure]
  exact jcL hr ht hi hp hl hsm')
theorem jpo(w:World)(t ty' e:TypeId){sz by_:Nat}(ht:P.underlying t=some (.slice e))(hi:tinfo P e=some (sz,by_))
 (v:Value) (m:Nat) (xs:List Value) (hown:w.ownsRow 0 e sz v m xs)
 (a:Addr) (k c:Nat) (news:List Value) (hl:news.length=k * sz) (hnews:∀j u,news[j]?=some u->w.cell? (a.add j)=some u) (h1:∀u∈news,u.oneCell'=true)
 (h63:m+k<=maxLen) (hbytes:(m+k) * by_<=140737488355328) :
 ∃v' w',(Builtin.append_ #[t,t] ty' #[v,.slice (some a) k c]).run P w=.ok v' w'/\w'.ownsRow 0 e sz v' (m+k) (xs++news)/\w.grownBy w' v.ownBlock /\
  (v'.ownBlock=v.ownBlock\/∀b,v'.ownBlock=some b->w.heap.size<=b):=by
 obtain⟨i,z,hi1,hi2,rfl,rfl,hzs,hsz⟩:=jaN hi;obtain⟨v',w',q1,q2,q3,q4⟩:=run_append_own (P:=P) w 0 t ty' e i z i.size i.bytes ht hi1 hi2 rfl rfl hzs hsz v m xs hown a k c news hl hnews h1 h63 hbytes (Nat.zero_le _);refine⟨v',w',q1,q2,q3,?_⟩;rcases hown.2 with⟨rfl,rfl⟩ | ⟨g,cap,cur,rfl,hbg,hg,hnc,hcm,hcs,htake⟩
 ·have hx:xs=[]:=List.eq_nil_of_length_eq_zero (by simpa using hown.1)
  subst hx;have hown':w.ownsRow w.heap.size e i.size (.slice none 0 0) 0 []:=World.ownsRow_nil w _ e i.size;obtain⟨v2,w2,r1,r2,r3,r4⟩:=run_append_own (P:=P) w w.heap.size t ty' e i z i.size i.bytes ht hi1 hi2 rfl rfl hzs hsz _ 0 [] hown' a k c news hl hnews h1 h63 hbytes (Nat.le_refl _);rw[q1] at r1;simp only[Result.ok.injEq] at r1;obtain⟨rfl,rfl⟩:=r1;exact .inr λb hb=>(r2.lt b hb).1
 ·by_cases hroom:m+k<=cap
  ·have hfit:m * i.size+news.length<=cur.size:=by rw[hl,hcs,<-Nat.add_mul];exact Nat.mul_le_mul_right _ hroom
   have hr:=run_append_room (P:=P) w t ty' e i ht hi1 g m cap cur hg a k c news hl hnews h1 hroom hfit;rw[q1] at hr;simp only[Result.ok.injEq] at hr;obtain⟨rfl,rfl⟩:=hr;exact .inl rfl
  ·have holds:∀j u,xs[j]?=some u->w.cell? ((⟨g,0,none⟩:Addr).add j)=some u:=hown.cells (g:=g) rfl
   have hr:=run_append_grow (P:=P) w t ty' e i z ht hi1 hi2 ⟨g,0,none⟩ m cap xs hown.1 holds a k c news hl hnews zo (by unfold maxLen at h63;omega) (growslice_fits zo hbytes);rw[q1] at hr;simp only[Result.ok.injEq] at hr;obtain⟨rfl,rfl⟩:=hr;exact .inr λb hb=>by simp only[Value.ownBlock,qs] at hb;omega
theorem LieAt.cells{w:World}{O:Nat->Prop}{a:Addr}{cs:List Value}(h:LieAt w O a cs):∀j u,cs[j]?=some u->w.cell? (a.add j)=some u:=by
 intro j u hu;rcases h with rfl | ⟨_,h2,h3⟩
 ·simp at hu
 ·have hadd:a.add j=⟨a.block,a.off+j,none⟩:=by cases a;simp only at h2;subst h2;exact jbN _ _ _
  rw[hadd];exact h3 j u hu
theorem jhF(w:World)(t ty' e:TypeId){sz by_:Nat}(ht:P.underlying t=some (.slice e))(hi:tinfo P e=some (sz,by_))(v:Value)(m:Nat)(xs:List Value)(hown:w.ownsRow 0 e sz v m xs)(x:Value)(hx:(∃a c,x=.slice (some a) 0 c)\/x=.slice none 0 0) :
 (Builtin.append_ #[t,t] ty' #[v,x]).events P w #[]=#[]:=by
 obtain⟨i,z,hi1,hi2,rfl,rfl,hzs,hsz⟩:=jaN hi;rcases hx with⟨a,c,rfl⟩ | rfl<;>rcases hown.2 with⟨rfl,rfl⟩ | ⟨g,cap,cur,rfl,_,_,hnc,_⟩
 ·simp[Builtin.append_,run_underlying ht,sizeOf,typeInfo,hi1,Builtin.lenOf,Builtin.firstCells,loadCells,loadCellsFrom]
 ·simp[Builtin.append_,run_underlying ht,sizeOf,typeInfo,hi1,Builtin.lenOf,Builtin.firstCells,loadCells,loadCellsFrom,hnc,storeCells]
 ·simp[Builtin.append_,run_underlying ht,sizeOf,typeInfo,hi1,Builtin.lenOf,Builtin.firstCells]
 ·simp[Builtin.append_,run_underlying ht,sizeOf,typeInfo,hi1,Builtin.lenOf,Builtin.firstCells,hnc,storeCells]
theorem jgH{t e sz by_ v l l2 f d K}(hx:opd env x=some (.v v))(hk:UpdF H (.arr v e sz l) f)(hy:opd env y=some (.sl sz l2))(ht:telem P t=some e)(hi:tinfo P e=some (sz,by_))(hd:dst=some d)(hn:Nat.blt d n=true)
 (hb:(l.length+l2.length) * by_<=capB/\l.length+l2.length<=capB)
 (h:∀v',v'.oneCell'=true->K ((d,.v v')::env) (f (.arr v' e sz (l++l2)))) :
 AOp P n ⟨dst,.call { callee:=.builtin .append,args:=#[x,y],argTypes:=#[t,t] },ty,pos,after,none⟩ env H K:=by
 refine⟨λF M w0 a w hr Kc hK=>?_,λF M w0 a w hr=>?_⟩;have h1:=hr.opdv hx;have h2:=hr.opd hy;obtain⟨k,hk1,hk2⟩:=hk.set;obtain⟨hsz,hlb,xs,hown,hE⟩:=hr.heap.holds _ hk.mem;simp only[Rep] at h2;obtain⟨_,cs,hE2,h2⟩:=h2;unfold capB at hb
 have main:∃v' w',(Builtin.append_ #[t,t] ty #[v,a.eval y]).run P w=.ok v' w'/\w'.ownsRow 0 e sz v' (l.length+l2.length) (xs++cs)/\w.grownBy w' v.ownBlock /\
  (v'.ownBlock=v.ownBlock\/∀b,v'.ownBlock=some b->w.heap.size<=b):=by
  rcases h2 with⟨ad,cap,h2,h3,h4⟩ | ⟨h2,rfl⟩
  ·rw[h2]
   exact jpo w t ty e (jao ht) hi v l.length xs hown ad l2.length cap cs hE2.len h4.cells hE2.one (by unfold maxLen;omega) hb.1
  ·simp only[RepE] at hE2
   subst hE2;obtain⟨i,z,hi1,hi2,rfl,rfl,hzs,_⟩:=jaN hi;rw[h2];exact⟨v,w,run_append_owned_none (P:=P) w 0 t ty e i i.size (jao ht) hi1 v l.length xs hown,by simpa using hown,⟨rfl,rfl,rfl,Nat.le_refl _,λ_ _ _=>rfl⟩,.inl rfl⟩
 obtain⟨v',w',q1,q2,q3,q4⟩:=main;have hfr:Fr (Ob.blk (.arr v e sz l)).toList w w':=Fr.grown q3
 have hr1:=hr.upd (o':=.arr v' e sz (l++l2)) hk1 hfr
  (λO' hO=>⟨hsz,by simp only[qm];unfold capB;omega,xs++cs,by simpa using q2,by
    have hm:∀bb,bb<w.heap.size->¬Own F H bb->¬O' bb/\w'.heap[bb]?=w.heap[bb]?:=λbb hbb hb' =>
     ⟨hO bb hbb hb',hfr.block bb hbb (λhm=>hb' (.inr (jaG hk.mem (by simpa using hm))))⟩
    exact RepE.append (RepE.mono hm _ _ _ hE) (RepE.mono hm _ _ _ hE2)⟩) q4
 unfold wpv
 have e1:(execOp a.eval ⟨dst,.call { callee:=.builtin .append,args:=#[x,y],argTypes:=#[t,t] },ty,pos,after,none⟩)=(do pure (.value (<-Builtin.append_ #[t,t] ty #[a.eval x,a.eval y]))):=by
  simp[execOp,resolve,invoke,builtin]
 rw[e1,Sem.run_bind,h1,q1,Result.andThen_ok,Sem.run_pure,jbO,hd];exact hK _ _ _ _ (h v' (by rcases q2.2 with⟨hv,_⟩ | ⟨_,_,_,hv,_⟩<;>rw[hv]<;>rfl)) (by rw[hk2];exact hr1.put (by simp[Rep]) (by simpa[Nat.blt_eq] using hn));have h1:=hr.opdv hx;have h2:=hr.opd hy;obtain⟨hsz,hlb,xs,hown,hE⟩:=hr.heap.holds _ hk.mem;simp only[Rep] at h2;obtain⟨_,cs,hE2,h2⟩:=h2;unfold capB at hb
 have e1:(execOp a.eval ⟨dst,.call { callee:=.builtin .append,args:=#[x,y],argTypes:=#[t,t] },ty,pos,after,none⟩)=(do pure (.value (<-Builtin.append_ #[t,t] ty #[a.eval x,a.eval y]))):=by
  simp[execOp,resolve,invoke,builtin]
 have e2:∀e,e∈(execOp a.eval ⟨dst,.call { callee:=.builtin .append,args:=#[x,y],argTypes:=#[t,t] },ty,pos,after,none⟩).events P w #[]->e∈(Builtin.append_ #[t,t] ty #[a.eval x,a.eval y]).events P w #[]:=λe he=>by
  rw[e1,Sem.events_bind] at he;cases hrn:(Builtin.append_ #[t,t] ty #[a.eval x,a.eval y]).run P w with
  | ok x' w'=>rw[hrn] at he;simpa using he
  | halt x' w'=>rw[hrn] at he;exact he
 intro e he;have he:=e2 e he;rw[h1] at he
 by_cases hl0:l2=[]
 ·subst hl0
  have hx0:(∃a' c,a.eval y=.slice (some a') 0 c)\/a.eval y=.slice none 0 0:=by
   rcases h2 with⟨ad,cap,h2,_⟩ | ⟨h2,_⟩
   ·exact .inl ⟨ad,cap,h2⟩
   ·exact .inr h2
  rw[jhF w t ty _ (jao ht) hi v l.length xs hown _ hx0] at he;simp at he
 ·rcases h2 with⟨ad,cap,h2,h3,h4⟩ | ⟨_,h2⟩
  ·rw[h2] at he
   obtain⟨i,z,hi1,hi2,hi3,hi4,hzs,hsz'⟩:=jaN hi
   have hcs:cs≠[]:=λh0=>by
    have:=hE2.len;rw[h0,qu] at this;have h5:0<l2.length:=List.length_pos_iff.2 hl0;have:=Nat.mul_pos h5 hsz';omega
   rcases h4 with h4' | ⟨h4',h5',h6'⟩
   ·exact qp h4' hcs
   rcases events_append_where (P:=P) w 0 t ty _ i z sz by_ (jao ht) hi1 hi2 hi3 hi4 v l.length xs hown ad l2.length cap cs hE2.len (LieAt.cells (.inr ⟨h4',h5',h6'⟩)) hE2.one (by unfold maxLen;omega) hb.1 e he with⟨a',k1,k2 | k2⟩ | hm
   ·obtain⟨c0,hc0⟩:∃c0,cs[0]?=some c0:=⟨cs[0]'(List.length_pos_iff.2 hcs),ze _⟩
    have hlt:=World.block_lt_of_cell? w _ (h6' 0 c0 hc0);exact .inl ⟨a',k1,by rw[k2.2];exact hlt,by rw[k2.2];exact λh=>h4' (.inl h),λh=>by rw[k2.1] at h;cases h⟩
   ·have hm:=jaG hk.mem (show Ob.blk (.arr v _ sz l)=some a'.block from k2.symm)
    exact .inl ⟨a',k1,hr.heap.blk_lt hm,λh=>hr.heap.disj _ hm h,λ_=>.inl hm⟩
   ·exact .inr hm
  ·exact qp h2 hl0
theorem jmm{ops rest t e sz by_ v l l2 f d K}(hx:opd env x=some (.v v))(hk:UpdF H (.arr v e sz l) f)(hy:opd env y=some (.sl sz l2))(ht:telem P t=some e)(hi:tinfo P e=some (sz,by_))(hd:dst=some d)(hn:Nat.blt d n=true)
 (hb:(l.length+l2.length) * by_<=capB/\l.length+l2.length<=capB)
 (h:∀v',v'.oneCell'=true->AOps κ P n ops rest ((d,.v v')::env) (f (.arr v' e sz (l++l2))) K) :
 AOps κ P n ops (⟨dst,.call { callee:=.builtin .append,args:=#[x,y],argTypes:=#[t,t] },ty,pos,after,none⟩::rest) env H K :=
 jaH rfl (.of_op (jgH hx hk hy ht hi hd hn hb h))
theorem Rel.nilArr{F M w0 a w}(hr:Rel F M w0 n env H a w)(e sz:Nat)(hsz:0<sz):Rel F M w0 n env (.arr (.slice none 0 0) e sz []::H) a w :=
 hr.add (Fr.refl _ _) (λO' hO=>⟨hsz,by unfold capB;simp,[],World.ownsRow_nil w 0 e sz,by simp[RepE]⟩) (λb hb=>by simp[Ob.blk,Value.ownBlock] at hb)
theorem jht{ops rest t e sz by_ l2 d K}(hx:opd env x=some .nil)(hy:opd env y=some (.sl sz l2))(ht:telem P t=some e)(hi:tinfo P e=some (sz,by_))(hd:dst=some d)(hn:Nat.blt d n=true)
 (hb:l2.length * by_<=capB/\l2.length<=capB)
 (h:∀v',v'.oneCell'=true->AOps κ P n ops rest ((d,.v v')::env) (.arr v' e sz l2::H) K) :
 AOps κ P n ops (⟨dst,.call { callee:=.builtin .append,args:=#[x,y],argTypes:=#[t,t] },ty,pos,after,none⟩::rest) env H K:=by
 refine jaH rfl (.of_op ⟨λF M w0 a w hr Kc hK=>?_,λF M w0 a w hr=>?_⟩);obtain⟨_,_,_,_,_,_,_,hsz⟩:=jaN hi;exact(jgH (P:=P) (n:=n) (env:=env) (H:=.arr (.slice none 0 0) e sz []::H) (K:=λenv' H'=>AOps κ P n ops rest env' H' K) (dst:=dst) (ty:=ty) (pos:=pos) (after:=after) (l:=[]) hx .here hy ht hi hd hn (by simpa using hb) (λv' h1=>by simpa using h v' h1)).wp F M w0 a w (hr.nilArr e sz hsz) Kc hK;obtain⟨_,_,_,_,_,_,_,hsz⟩:=jaN hi;exact(jgH (P:=P) (n:=n) (env:=env) (H:=.arr (.slice none 0 0) e sz []::H) (K:=λenv' H'=>AOps κ P n ops rest env' H' K) (dst:=dst) (ty:=ty) (pos:=pos) (after:=after) (l:=[]) hx .here hy ht hi hd hn (by simpa using hb) (λv' h1=>by simpa using h v' h1)).ev F M w0 a w (hr.nilArr e sz hsz)
inductive FillL(place:Nat->Option (Nat × Nat))(env:Env):List (Nat × Operand)->List D->List D->Prop
 | nil {cs}:FillL place env [] cs cs
 | cons {i x d ds off cs cs' rest out} (hx:opd env x=some d) (hf:Flat d ds) (hp:place i=some (off,ds.length)) (hs:Spl cs off ds cs') (h:FillL place env rest cs' out):FillL place env ((i,x)::rest) cs out
theorem FillL.run{F M w0 a w}(hr:Rel F M w0 n env H a w){place:Nat->Option (Nat × Nat)}{parts cs out}(h:FillL place env parts cs out):∀(us:List Value),RepL w (Own F H) cs us ->
 ∃vs:List Value,Instr.fill place us.toArray (parts.map λp=>(p.1,a.eval p.2))=some vs.toArray/\RepL w (Own F H) out vs:=by
 induction h with
 | nil=>intro us h;exact⟨us,by simp[Instr.fill],h⟩
 | @cons i x d ds off cs cs' rest out hx hf hp hs h ih =>
  intro us hus;obtain⟨ws,q1,q2⟩:=hf.rep (hr.opd hx);obtain⟨r1,r2⟩:=hs.eq;have l1:=hus.length;have l2:=q2.length;have hsp:=jdb ws off 0 us.toArray (by simp;omega);simp only[Nat.add_zero] at hsp
  obtain⟨vs,g1,g2⟩:=ih (us.take off++ws++us.drop (off+ws.length)) (by
   rw[r1,l2]
   exact RepL.append (RepL.append (hus.take off) q2) (hus.drop _))
  refine⟨vs,?_,g2⟩;simp only[List.map_cons,Instr.fill,q1,hp];rw[qe (by simp[l2];omega)]
  have e:(ws.toArray.zipIdx.foldl (λcs x=>cs.setIfInBounds (off+x.2) x.1) us.toArray)=(ws.zipIdx 0).foldl (λcs (p:Value × Nat)=>cs.setIfInBounds (off+p.2) p.1) us.toArray:=by
   rw[<-Array.foldl_toList,Array.toList_zipIdx]
  rw[show ((ws.toArray.zipIdx.foldl (λcs (x:Value × Nat)=>match x with | (c,j)=>cs.setIfInBounds (off+j) c) us.toArray))=(ws.toArray.zipIdx.foldl (λcs x=>cs.setIfInBounds (off+x.2) x.1) us.toArray) from rfl,e,hsp];simpa using g1
def tplace(P:Program)(t:TypeId):Nat->Option (Nat × Nat):=λi=>match P.underlying t with
 | some (.struct fs)=>(match fs[i]? with | some fd=>some (fd.offset,((P.info? fd.type).map (·.size)).getD 0) | none=>none)
 | _=>none
def tstruct(P:Program)(t:TypeId):Bool:=match P.underlying t with
 | some (.struct fs)=>fs.all λfd=>(P.info? fd.type).isSome
 | _=>false
theorem jpB(w:World)(fs:Array Field)(h:∀fd∈fs,(P.info? fd.type).isSome=true) :
 (fs.mapM λf=>(do pure (f.offset,<-sizeOf f.type):Sem (Nat × Nat))).run P w=.ok (fs.map λf=>(f.offset,((P.info? f.type).map (·.size)).getD 0)) w:=by
 rw[Array.mapM_eq_mapM_toList,Sem.run_map]
 have:∀(l:List Field),(∀fd∈l,(P.info? fd.type).isSome=true)->(l.mapM λf=>(do pure (f.offset,<-sizeOf f.type):Sem (Nat × Nat))).run P w=.ok (l.map λf=>(f.offset,((P.info? f.type).map (·.size)).getD 0)) w:=by
  intro l
  induction l with
  | nil=>intro _;simp
  | cons f r ih =>
   intro hl;have h1:=hl f (za);obtain⟨i,hi⟩:=Option.isSome_iff_exists.1 h1;simp only[List.mapM_cons,Sem.run_bind,sizeOf,typeInfo,run_program,Result.andThen_ok,hi,Sem.run_pure] at ih ⊢;rw[ih (λfd hfd=>hl fd (qj _ hfd))];simp[hi]
 rw[this fs.toList (λfd hfd=>h fd (by simpa using hfd)),Result.andThen_ok]
 congr 1
 apply Array.ext';simp
theorem jsA(w:World)(es:Array Event)(fs:Array Field)(h:∀fd∈fs,(P.info? fd.type).isSome=true) :
 (fs.mapM λf=>(do pure (f.offset,<-sizeOf f.type):Sem (Nat × Nat))).events P w es=es:=by
 rw[Array.mapM_eq_mapM_toList,Sem.events_map]
 have:∀(l:List Field)(es:Array Event),(∀fd∈l,(P.info? fd.type).isSome=true)->(l.mapM λf=>(do pure (f.offset,<-sizeOf f.type):Sem (Nat × Nat))).events P w es=es:=by
  intro l
  induction l with
  | nil=>intro _ _;simp
  | cons f r ih =>
   intro es hl;have h1:=hl f (za);obtain⟨i,hi⟩:=Option.isSome_iff_exists.1 h1;have hs:(sizeOf f.type).run P w=.ok i.size w:=by simp[sizeOf,typeInfo,hi]
   simp only[List.mapM_cons,Sem.events_bind,Sem.run_bind,hs,events_sizeOf,Result.andThen_ok,Result.evThen_ok,Sem.run_pure,Sem.events_pure];have h2:=ih es (λfd hfd=>hl fd (qj _ hfd))
   generalize (List.mapM (λf=>(do pure (f.offset,<-sizeOf f.type):Sem (Nat × Nat))) r)=m at h2 ⊢
   cases hm:m.run P w with
   | ok x w2=>simpa[hm] using h2
   | halt x w2=>simpa[hm] using h2
 exact this fs.toList es (λfd hfd=>h fd (by simpa using hfd))
theorem jaj{t us cs parts out}(hst:tstruct P t=true)(hz:tzero P t=some us)(hu:AllV us cs)(hf:FillL (tplace P t) env parts cs out) :
 AP P n ⟨dst,.build t parts.toArray,ty,pos,after,gd⟩ env H (.agg out):=by
 refine⟨λF M w0 a w hr=>?_⟩;obtain⟨vs,g1,g2⟩:=hf.run hr us hu.rep;refine⟨.agg vs.toArray,by simp only[Rep];exact⟨vs,rfl,g2⟩,λw'=>?_⟩;obtain⟨zv,z1,z2⟩:=jcK hz w';unfold tstruct at hst;cases e:P.underlying t with
 | none=>rw[e] at hst;cases hst
 | some d =>
  rw[e] at hst;cases d<;>simp only[Bool.false_eq_true] at hst
  rename_i fs
  have hp:(λi=>(fs.map λf=>(f.offset,((P.info? f.type).map (·.size)).getD 0))[i]?)=tplace P t:=by
   funext i
   simp only[tplace,e,Array.getElem?_map];cases fs[i]?<;>rfl
  have hpl:=jpB (P:=P) w' fs (λfd hfd=>by have:=Array.all_eq_true_iff_forall_mem.1 hst fd hfd;exact this);have hpe:=λes=>jsA (P:=P) w' es fs (λfd hfd=>by have:=Array.all_eq_true_iff_forall_mem.1 hst fd hfd;exact this);refine⟨by simp only[execOp,Instr.build,Sem.run_bind,z1,Result.andThen_ok,run_underlying e,hpl,List.map_toArray,List.toList_toArray,z2,hp,g1,Sem.run_pure],?_⟩;simp only[execOp,Instr.build,Sem.events_bind,Sem.run_bind,z1,Result.andThen_ok,Result.evThen_ok,events_zeroValue,events_underlying,run_underlying e,hpl,hpe,List.map_toArray,List.toList_toArray,z2,hp,g1,Sem.run_pure,Sem.events_pure]
theorem jza{t u p q}(hx:opd env x=some (.i p))(hy:opd env y=some (.i q)):AP P n ⟨dst,.call { callee:=.builtin .min,args:=#[x,y],argTypes:=#[t,u] },ty,pos,after,gd⟩ env H (.i (min p q)):=by
 refine⟨λF M w0 a w hr=>?_⟩;have h1:=hr.opdv hx;have h2:=hr.opdv hy;refine⟨.int .i64 (min p q),by simp[Rep],λw'=>?_⟩;have:(if q<p then q else p)=min p q:=by split<;>omega
 simp[execOp,resolve,invoke,builtin,h1,h2,Builtin.min_,Builtin.min2,this]
theorem jzx{t u p q}(hx:opd env x=some (.i p))(hy:opd env y=some (.i q)):AP P n ⟨dst,.call { callee:=.builtin .max,args:=#[x,y],argTypes:=#[t,u] },ty,pos,after,gd⟩ env H (.i (max p q)):=by
 refine⟨λF M w0 a w hr=>?_⟩;have h1:=hr.opdv hx;have h2:=hr.opdv hy;refine⟨.int .i64 (max p q),by simp[Rep],λw'=>?_⟩;have:(if p<q then q else p)=max p q:=by split<;>omega
 simp[execOp,resolve,invoke,builtin,h1,h2,Builtin.max_,Builtin.max2,this]
inductive Caps(env:Env):List Operand->List Value->Prop
 | nil:Caps env [] []
 | cons {x v r vs} (hx:opd env x=some (.v v)) (h:Caps env r vs):Caps env (x::r) (v::vs)
theorem Caps.eval{F M w0 a w}(hr:Rel F M w0 n env H a w){xs vs}(h:Caps env xs vs):xs.map a.eval=vs:=by
 induction h with
 | nil=>rfl
 | cons hx h ih=>simp[hr.opdv hx,ih]
theorem jmU{fn xs vs}(hc:Caps env xs vs):AP P n ⟨dst,.makeFunc fn #[] xs.toArray,ty,pos,after,gd⟩ env H (.v (.func fn #[] vs.toArray)):=by
 refine⟨λF M w0 a w hr=>?_⟩;refine⟨.func fn #[] vs.toArray,by simp[Rep],λw'=>?_⟩;simp[execOp,Instr.makeFunc,hc.eval hr]
theorem jaU{t e sz len cap g j k}(hx:opd env x=some (.v (.slice (some ⟨g,0,none⟩) len cap)))(hy:opd env y=some (.i j))(ht:telem P t=some e)(hs:tsize P e=some sz)(hj:j=((k:Nat):Int))(hk:k<len) :
 AP P n ⟨dst,.indexAddr t x y,ty,pos,after,gd⟩ env H (.p g (k * sz)):=by
 refine⟨λF M w0 a w hr=>?_⟩;have h1:=hr.opdv hx;have h2:=hr.opdv hy;subst hj;refine⟨.pointer (some ⟨g,k * sz,none⟩),by simp[Rep],λw'=>?_⟩;have hi:(0:Int)<=(k:Int)/\(k:Int)<(len:Int):=by omega
 have hi':¬len<=k:=by omega
 simp[execOp,h1,h2,Instr.indexAt,asIntOf,run_underlying (jao ht),jat hs,hi,hi',jbN]
theorem jkM{t g k len cap ety l d f}(hx:opd env x=some (.p g (k * 1)))(hk:UpdF H (.arr (.slice (some ⟨g,0,none⟩) len cap) ety 1 l) f)(hm:g∉Mod)(hg:tagg P t=some false)(hd:l[k]?=some d)(hsc:Scal d) :
 AQ P n Mod ⟨dst,.load t x,ty,pos,after,gd⟩ env H d:=by
 refine⟨λF M w0 a w hr'=>?_⟩;have h1:=hr'.opdv hx;obtain⟨_,_,xs,hown,hE⟩:=hr'.heap.holds _ hk.mem;obtain⟨c,g1,g2,g3,g4⟩:=hE.get hd;rcases hown.2 with⟨hv,_⟩ | ⟨g',cap',cur,hv,h3,h4,h5,h6,h7,h8⟩
 ·cases hv
 ·simp only[Value.slice.injEq,qs,Addr.mk.injEq] at hv
  obtain⟨⟨rfl,_,_⟩,_,_⟩:=hv;refine⟨c,g3,λw' hw=>?_⟩;have hb:w'.heap[g]?=some (.cells cur ety (0,0)):=by rw[hw g (Array.getElem?_eq_some_iff.1 h4).1 hm (λh=>hr'.heap.disj g (jaG hk.mem rfl) h)];exact h4
  have hx2:=g4 0 c (by rw[hsc.cells g3];rfl);rw[<-h8,List.getElem?_take] at hx2;split at hx2
  ·have hc:w'.cell? ⟨g,k * 1,none⟩=some c:=by rw[cell_of_row w' g _ cur ety (0,0) hb];simpa using hx2
   simp[execOp,h1,Instr.loadAt,Instr.sureAddr,loadVar,jaB hg];simp only[Nat.mul_one] at hc;simp[hc];exact jfJ (Array.getElem?_eq_some_iff.1 h4).1 (λh=>hr'.heap.disj g (jaG hk.mem rfl) h)
  ·cases hx2
end
variable{κ:Kind}
inductive Split:Heap->Heap->Heap->Prop
 | nil:Split [] [] []
 | left {o H A B} (h:Split H A B):Split (o::H) (o::A) B
 | right {o H A B} (h:Split H A B):Split (o::H) A (o::B)
theorem Split.none:∀(H:Heap),Split H [] H
 | []=>.nil
 | _::r=>.right (Split.none r)
theorem Split.mem{H A B}(h:Split H A B):∀o,o∈H↔o∈A\/o∈B:=by
 induction h with
 | nil=>simp
 | left h ih=>intro o;simp only[List.mem_cons,ih];grind
 | right h ih=>intro o;simp only[List.mem_cons,ih];grind
theorem Split.hb{H A B}(h:Split H A B)(b:Nat):b∈Hb H↔b∈Hb A\/b∈Hb B:=by
 simp only[Hb,List.mem_filterMap];constructor
 ·rintro⟨o,ho,hb⟩
  rcases(h.mem o).1 ho with h' | h'
  ·exact .inl ⟨o,h',hb⟩
  ·exact .inr ⟨o,h',hb⟩
 ·rintro(⟨o,ho,hb⟩ | ⟨o,ho,hb⟩)
  ·exact⟨o,(h.mem o).2 (.inl ho),hb⟩
  ·exact⟨o,(h.mem o).2 (.inr ho),hb⟩
theorem jdm(o:Ob)(H:Heap):Hb (o::H)=o.blk.toList++Hb H:=by
 simp only[Hb,List.filterMap_cons];cases o.blk<;>rfl
theorem Split.nodup{H A B}(h:Split H A B):(Hb H).Nodup->(Hb A).Nodup/\(Hb B).Nodup/\∀b∈Hb A,b∉Hb B:=by
 induction h with
 | nil=>simp[Hb]
 | @left o H A B h ih =>
  intro hn;rw[jdm] at hn;obtain⟨h1,h2,h3⟩:=List.nodup_append.1 hn;obtain⟨i1,i2,i3⟩:=ih h2;refine⟨?_,i2,λb hb hb'=>?_⟩
  ·rw[jdm]
   exact List.nodup_append.2 ⟨h1,i1,λx hx y hy=>h3 x hx y ((h.hb y).2 (.inl hy))⟩
  ·rw[jdm] at hb
   rcases zk hb with hb | hb
   ·exact h3 b hb b ((h.hb b).2 (.inr hb')) rfl
   ·exact i3 b hb hb'
 | @right o H A B h ih =>
  intro hn;rw[jdm] at hn;obtain⟨h1,h2,h3⟩:=List.nodup_append.1 hn;obtain⟨i1,i2,i3⟩:=ih h2;refine⟨i1,?_,λb hb hb'=>?_⟩
  ·rw[jdm]
   exact List.nodup_append.2 ⟨h1,i2,λx hx y hy=>h3 x hx y ((h.hb y).2 (.inr hy))⟩
  ·rw[jdm] at hb'
   rcases zk hb' with hb' | hb'
   ·exact h3 b hb' b ((h.hb b).2 (.inl hb)) rfl
   ·exact i3 b hb hb'
theorem Split.own{F H A B}(h:Split H A B)(b:Nat):Own (Own F B) A b↔Own F H b:=by
 simp only[Own,h.hb b]
 grind
theorem Ob.Holds.iff{w:World}{O:Nat->Prop}(h:∀b,O' b->O b){o:Ob}(ho:o.Holds w O):o.Holds w O' :=
 ho.mono (λb _ hb=>⟨λhb'=>hb (h b hb'),rfl⟩) (λ_ _=>rfl)
theorem Rep.iff{w:World}{O:Nat->Prop}(h:∀b,O' b->O b){d:D}{v:Value}(hr:Rep w O d v):Rep w O' d v :=
 Rep.mono (λb _ hb=>⟨λhb'=>hb (h b hb'),rfl⟩) d v hr
theorem HeapOk.split{F H A B w}(hok:HeapOk F H w)(h:Split H A B):HeapOk (Own F B) A w:=by
 obtain⟨n1,n2,n3⟩:=h.nodup hok.nodup;refine⟨λo ho=>(hok.holds o ((h.mem o).2 (.inl ho))).iff (λb hb=>(h.own b).1 hb),n1,λb hb hO=>?_,λb hb=>?_⟩
 ·rcases hO with hO | hO
  ·exact hok.disj b ((h.hb b).2 (.inl hb)) hO
  ·exact n3 b hb hO
 ·rcases hb with hb | hb
  ·exact hok.frb b hb
  ·exact hok.blk_lt ((h.hb b).2 (.inr hb))
theorem jcM{F A B}(b:Nat):Own F (A++B) b↔Own (Own F B) A b:=by
 simp only[Own,Hb,List.filterMap_append,List.mem_append]
 grind
abbrev nact:Act:=⟨#[],[]⟩
structure Con(κ:Kind)(P:Program)(f:FuncId)(args:List D)(H:Heap)(R:D->Heap->Prop):Prop where
 enter:∀(vs:Array Value)(w:World),(callFunc f vs).run P w=.ok (.enter f vs) w/\(callFunc f vs).events P w #[]=#[]
 run:∀{main T},Fit κ P main T->∀{C O X:Nat->Prop}{w:World}{vs:List Value},RelC C X (Hb H) w 0 [] H O X nact w->RepT w (Own (λb=>C b\/X b) H) args vs->∀{c0:Frame}{cs:List Frame},
  (∀v d H' O' X' w',R d H'->Rep w' (Own (λb=>C b\/X' b) H') d v->RelC C X (Hb H) w 0 [] H' O' X' nact w'->T O' X' (Conc.G (c0.finish v) cs) w')->T O X (Conc.G (Frame.enter P f vs.toArray .normal) (c0::cs)) w
 top:∀{Post:Value->World->Prop},Fit κ P true (Fan.GoM P Post none)->P.inits.idxOf? f=none->∀{C O X:Nat->Prop}{w:World}{vs:List Value},RelC C X (Hb H) w 0 [] H O X nact w->RepT w (Own (λb=>C b\/X b) H) args vs ->
  (∀v d H' O' X' w',R d H'->Rep w' (Own (λb=>C b\/X' b) H') d v->RelC C X (Hb H) w 0 [] H' O' X' nact w'->Post v w')->Fan.GoM P Post none O X (Conc.G (Frame.enter P f vs.toArray .normal) []) w
theorem Con.main{κ P f args H}{R:D->Heap->Prop}(h:Con none P f args H R):Con κ P f args H R :=
 ⟨h.enter,λfit=>h.run fit.closed,λfit=>h.top fit.closed⟩
section
variable{C X0:Nat->Prop}{M:List Nat}{w0:World}{n:Nat}{env:Env}{H Hin Hr H':Heap}{O X O' X':Nat->Prop}{a:Act}{w w':World}
theorem jd1(C X:Nat->Prop)(B:Heap):(λb=>(C b\/b∈Hb B)\/X b)=Own (λb=>C b\/X b) B:=by
 funext b
 simp only[Own,eq_iff_iff];constructor
 ·rintro((h | h) | h)
  ·exact .inl (.inl h)
  ·exact .inr h
  ·exact .inl (.inr h)
 ·rintro((h | h) | h)
  ·exact .inl (.inl h)
  ·exact .inr h
  ·exact .inl (.inr h)
theorem ji0{F:Nat->Prop}(hok:HeapOk F H w):Rel F (Hb H) w 0 [] H nact w :=
 ⟨λi d hi=>(by cases hi),hok,Fr.refl _ _,λb hb=>.inl hb,hok.frb,rfl,rfl⟩
theorem RelC.call(h:RelC C X0 M w0 n env H O X a w)(hs:Split H Hin Hr):RelC (λb=>C b\/b∈Hb Hr) X (Hb Hin) w 0 [] Hin O X nact w:=by
 have hsp:=h.rel.heap.split hs;refine⟨?_,λb hb=>?_,h.dis,h.olt,rfl,rfl,rfl,Nat.le_refl _,λ_ _ _ _=>rfl,λ_ hb=>hb,λ_ hb=>.inl hb,λ_ hb=>.inl hb,λb hb=>?_⟩
 ·rw[jd1];exact ji0 hsp
 ·rcases hb with(hb | hb) | hb
  ·exact h.own b (.inl hb)
  ·exact h.own b (.inr ((hs.hb b).2 (.inr hb)))
  ·exact h.own b (.inr ((hs.hb b).2 (.inl hb)))
 ·rcases hb with hb | hb
  ·exact h.rel.heap.frb b (.inl hb)
  ·exact h.rel.heap.blk_lt ((hs.hb b).2 (.inr hb))
theorem RelC.back(h:RelC C X0 M w0 n env H O X a w)(hs:Split H Hin Hr)(k:RelC (λb=>C b\/b∈Hb Hr) X (Hb Hin) w 0 [] H' O' X' nact w'):RelC C X0 M w0 n env (H'++Hr) O' X' a w':=by
 obtain⟨n1,n2,n3⟩:=hs.nodup h.rel.heap.nodup;have hk:=k.rel.heap;rw[jd1] at hk
 have hF:∀b,b<w.heap.size->(C b\/X' b)->(C b\/X b):=λb hb hx=>by
  rcases hx with hx | hx
  ·exact .inl hx
  ·rcases k.xn b hx with h' | h'
   ·exact .inr h'
   ·omega
 have hm:∀b,b<w.heap.size->¬Own (λb=>C b\/X b) H b->¬Own (λb=>C b\/X' b) (H'++Hr) b/\w'.heap[b]?=w.heap[b]?:=λb hb hO=>by
  refine⟨λhO'=>?_,k.block b hb (λhA=>hO (.inr ((hs.hb b).2 (.inl hA)))) (λhX=>hO (.inl (.inr hX)))⟩;rcases(jcM b).1 hO' with(hx | hx) | hx
  ·exact hO (.inl (hF b hb hx))
  ·exact hO (.inr ((hs.hb b).2 (.inr hx)))
  ·rcases k.mine b hx with h' | h'
   ·exact hO (.inr ((hs.hb b).2 (.inl h')))
   ·omega
 have hok:HeapOk (λb=>C b\/X' b) (H'++Hr) w':=by
  refine⟨λo ho=>?_,?_,λb hb hx=>?_,λb hb=>hk.frb b (.inl hb)⟩
  ·rcases zk ho with ho | ho
   ·exact(hk.holds o ho).iff (λb hb=>(jcM b).1 hb)
   ·have hH:=h.rel.heap.holds o ((hs.mem o).2 (.inr ho))
    exact hH.mono hm (λb hb=>k.block b (hH.blk_lt hb) (λhA=>n3 b hA (jaG ho hb)) (λhX=>h.rel.heap.disj b ((hs.hb b).2 (.inr (jaG ho hb))) (.inr hX)))
  ·simp only[Hb,List.filterMap_append]
   exact List.nodup_append.2 ⟨hk.nodup,n2,λx hx y hy e=>hk.disj x hx (.inr (e ▸ hy))⟩
  ·simp only[Hb,List.filterMap_append,List.mem_append] at hb
   rcases hb with hb | hb
   ·exact hk.disj b hb (.inl hx)
   ·exact h.rel.heap.disj b ((hs.hb b).2 (.inr hb)) (hF b (h.rel.heap.blk_lt ((hs.hb b).2 (.inr hb))) hx)
 refine⟨⟨λi d hi=>?_,hok,Fr.refl _ _,λb hb=>.inl hb,hok.frb,h.rel.dfr,h.rel.tsz⟩,λb hb=>?_,k.dis,k.olt,k.os.trans h.os,k.tape.trans h.tape,k.output.trans h.output,Nat.le_trans h.size k.size,λb hb hM hX=>?_,λb hb=>k.xs b (h.xs b hb),λb hb=>?_,λb hb=>?_,h.c0⟩
 ·obtain⟨v,h1,h2⟩:=h.rel.env i d hi
  exact⟨v,h1,Rep.mono hm d v h2⟩
 ·rcases hb with hb | hb
  ·exact k.own b (.inl (.inl hb))
  ·simp only[Hb,List.filterMap_append,List.mem_append] at hb
   rcases hb with hb | hb
   ·exact k.own b (.inr hb)
   ·exact k.own b (.inl (.inr hb))
 ·rw[k.block b (qA hb h.size) (λhA=>?_) (λhx=>?_)]
  ·exact h.block b hb hM hX
  ·rcases h.mine b ((hs.hb b).2 (.inl hA)) with h' | h'
   ·exact hM h'
   ·omega
  ·rcases h.xn b hx with h' | h'
   ·exact hX h'
   ·omega
 ·rcases k.xn b hb with h' | h'
  ·exact h.xn b h'
  ·exact .inr (Nat.le_trans h.size h')
 ·simp only[Hb,List.filterMap_append,List.mem_append] at hb
  rcases hb with hb | hb
  ·rcases k.mine b hb with h' | h'
   ·exact h.mine b ((hs.hb b).2 (.inl h'))
   ·exact .inr (Nat.le_trans h.size h')
  ·exact h.mine b ((hs.hb b).2 (.inr hb))
end
section
variable{P:Program}{n:Nat}{env:Env}{H:Heap}{dst:Option Tmp}{ty:TypeId}{pos:String}{after:Array Edge}{gd:Option (Nat × Bool)}{x y z:Operand}
inductive ArgsL(env:Env):List Operand->List D->Prop
 | nil:ArgsL env [] []
 | cons {x d r ds} (hx:opd env x=some d) (h:ArgsL env r ds):ArgsL env (x::r) (d::ds)
theorem ArgsL.rep{F M w0 a w}(hr:Rel F M w0 n env H a w){xs ds}(h:ArgsL env xs ds):RepT w (Own F H) ds (xs.map a.eval):=by
 induction h with
 | nil=>simp[RepT]
 | cons hx h ih=>simp only[List.map_cons,RepT];exact⟨_,_,rfl,hr.opd hx,ih⟩
theorem RepT.iff{w:World}{O:Nat->Prop}(h:∀b,O' b->O b){l:List D}{vs:List Value}(hr:RepT w O l vs):RepT w O' l vs :=
 RepT.mono (λb _ hb=>⟨λhb'=>hb (h b hb'),rfl⟩) l vs hr
theorem RepT.vals{w:World}{O:Nat->Prop}:∀(vs:List Value),RepT w O (vs.map .v) vs
 | []=>by simp[RepT]
 | v::r=>by simp only[List.map_cons,RepT];exact⟨_,_,rfl,by simp[Rep],RepT.vals r⟩
theorem RepT.append{w:World}{O:Nat->Prop}:∀{l l':List D}{cs cs':List Value},RepT w O l cs->RepT w O l' cs'->RepT w O (l++l') (cs++cs')
 | [],l',cs,cs',h,h'=>by simp only[RepT] at h;subst h;simpa using h'
 | d::r,l',cs,cs',h,h'=>by
  simp only[RepT] at h;obtain⟨c,cr,rfl,h2,h4⟩:=h;simp only[List.cons_append,RepT];exact⟨c,cr++cs',rfl,h2,RepT.append h4 h'⟩
theorem jhD{g xs ds Hin Hr R K d'}{c:Operand}{tys:Array TypeId}(hc:Con κ P g (ds++caps.map .v) Hin R)(hf:opd env c=some (.v (.func (.func g) #[] caps.toArray)))(ha:ArgsL env xs ds)(hs:Split H Hin Hr)(hd:dst=some d')(hn:Nat.blt d' n=true)
 (hk:∀d H',R d H'->K ((d',d)::env) (H'++Hr)):AStep κ P n ⟨dst,.call { callee:=.value c,args:=xs.toArray,argTypes:=tys },ty,pos,after,gd⟩ env H K:=by
 refine⟨λ{main T} fit C X0 M w0 O X a w hr Kc hK X₁ w₁ hR=>?_⟩;have hr1:=hr.rely hR;have h1:=hr1.rel.opdv hf;have hargs:RepT w₁ (Own (λb=>C b\/X₁ b) H) (ds++caps.map .v) (xs.map a.eval++caps):=RepT.append (ha.rep hr1.rel) (RepT.vals caps)
 have e0:execOp a.eval ⟨dst,.call { callee:=.value c,args:=xs.toArray,argTypes:=tys },ty,pos,after,gd⟩=callFunc g (xs.map a.eval++caps).toArray:=by
  simp[execOp,resolve,h1,Deferred.ofValue,invoke]
 have hen:=hc.enter (xs.map a.eval++caps).toArray w₁;rw[e0,hen.1,hen.2];refine⟨rfl,rfl,λ{c0 cs} hq=>?_⟩;have e3:=jd1 C X₁ Hr;refine hc.run fit (hr1.call hs) (by rw[e3];exact hargs.iff (λb hb=>(hs.own b).1 hb)) (λv d H' O' X' w' q hrep hrel=>hq v O' X' w' ?_);rw[hd];have hb1:=hr1.back hs hrel;refine hK _ _ _ _ _ _ (hk d H' q) (hb1.put ?_ (by simpa[Nat.blt_eq] using hn));rw[jd1] at hrep;exact hrep.iff (λb hb=>(jcM b).1 hb)
theorem jas{ops rest g xs ds Hin Hr R K d'}{tys:Array TypeId}(ha:ArgsL env xs ds)(hc:Con κ P g ds Hin R)(hs:Split H Hin Hr)(hd:dst=some d')(hn:Nat.blt d' n=true)
 (hk:∀d H',R d H'->AOps κ P n ops rest ((d',d)::env) (H'++Hr) K):AOps κ P n ops (⟨dst,.call { callee:=.value (.func g),args:=xs.toArray,argTypes:=tys },ty,pos,after,none⟩::rest) env H K :=
 jaH rfl (jhD (caps:=[]) (by simpa using hc) rfl ha hs hd hn hk)
theorem jfC{ops rest g xs ds Hin Hr R K d'}{c:Operand}{tys:Array TypeId}(hf:opd env c=some (.v (.func (.func g) #[] caps.toArray)))(ha:ArgsL env xs ds)(hc:Con κ P g (ds++caps.map .v) Hin R)(hs:Split H Hin Hr)(hd:dst=some d')(hn:Nat.blt d' n=true)
 (hk:∀d H',R d H'->AOps κ P n ops rest ((d',d)::env) (H'++Hr) K):AOps κ P n ops (⟨dst,.call { callee:=.value c,args:=xs.toArray,argTypes:=tys },ty,pos,after,none⟩::rest) env H K :=
 jaH rfl (jhD hc hf ha hs hd hn hk)
def AfterT(T:Tgt)(b:Frame)(k:List Item)(cs:List Frame):Exit->Act->(Nat->Prop)->(Nat->Prop)->World->Prop
 | .normal,a,O,X,w=>T O X (Conc.G (b.at a k) cs) w
 | .exit id,a,O,X,w=>∃k',exitTo id k=some k'/\T O X (Conc.G (b.at a k') cs) w
 | .ret,a,O,X,w=>∀todo,T O X (Conc.G { b.at a todo with mode:=.returning } cs) w
 | _,_,_,_,_=>False
theorem AfterT.push{T:Tgt}{b:Frame}{x:Item}{k:List Item}{cs:List Frame}{e:Exit}{a:Act}{O X:Nat->Prop}{w:World}(hx:x.plain=true)(he:e≠.normal)
 (h:AfterT T b k cs e a O X w):AfterT T b (x::k) cs e a O X w:=by
 cases e with
 | normal=>exact qp rfl he
 | exit id=>obtain⟨k',hk,hg⟩:=h;exact⟨k',by cases x<;>simp_all[exitTo,Item.plain],hg⟩
 | ret=>exact h
 | goto l=>exact h
 | panic ch=>exact h
 | outgrown=>exact h
structure AWp(κ:Kind)(P:Program)(n:Nat)(c:Code)(env:Env)(H:Heap)(Q:Exit->Env->Heap->Prop):Prop where
 out:∀{main T},Fit κ P main T->∀{C X0 M w0 O X a w},RelC C X0 M w0 n env H O X a w->∀{b:Frame}{k:List Item}{cs:List Frame},b.kind≠.early ->
  (∀e a' w' O' X' env' H',Q e env' H'->RelC C X0 M w0 n env' H' O' X' a' w'->AfterT T b k cs e a' O' X' w')->T O X (Conc.G (b.at a (.code c::k)) cs) w
def seqR(N:Env->Heap->Prop)(Q:Exit->Env->Heap->Prop):Exit->Env->Heap->Prop
 | .normal,e,h=>N e h
 | x,e,h=>Q x e h
def blockR(id:Nat)(Q:Exit->Env->Heap->Prop):Exit->Env->Heap->Prop
 | .exit i,e,h=>bif Nat.beq i id then Q .normal e h else Q (.exit i) e h
 | x,e,h=>Q x e h
structure seqQ(N:Env->Heap->Prop)(Q:Exit->Env->Heap->Prop)(x:Exit)(e:Env)(h:Heap):Prop where
 out:seqR N Q x e h
structure blockQ(id:Nat)(Q:Exit->Env->Heap->Prop)(x:Exit)(e:Env)(h:Heap):Prop where
 out:blockR id Q x e h
theorem jyJ{N Q e h}(k:N e h):seqQ N Q .normal e h:=⟨k⟩
theorem jzr{N Q i e h}(k:Q (.exit i) e h):seqQ N Q (.exit i) e h:=⟨k⟩
theorem jz2{N Q e h}(k:Q .ret e h):seqQ N Q .ret e h:=⟨k⟩
theorem jvE{id Q e h}(k:Q .normal e h):blockQ id Q .normal e h:=⟨k⟩
theorem juY{id Q e h}(k:Q .ret e h):blockQ id Q .ret e h:=⟨k⟩
theorem juy{id i Q e h}(hi:Nat.beq i id=true)(k:Q .normal e h):blockQ id Q (.exit i) e h:=by
 refine⟨?_⟩;simp only[blockR,hi,cond_true];exact k
theorem juk{id i Q e h}(hi:Nat.beq i id=false)(k:Q (.exit i) e h):blockQ id Q (.exit i) e h:=by
 refine⟨?_⟩;simp only[blockR,hi,cond_false];exact k
variable{Q:Exit->Env->Heap->Prop}
theorem jus(h:Q .normal env H):AWp κ P n .skip env H Q:=⟨λfit _ _ _ _ _ _ _ _ hr _ _ _ hb hQ=>fit.closed.idle rfl (λw=>Conc.stepG_skip) (hQ _ _ _ _ _ _ _ h hr)⟩
theorem juz{id}(h:Q (.exit id) env H):AWp κ P n (.exit id) env H Q:=⟨λfit _ _ _ _ _ _ _ _ hr _ _ _ hb hQ=>by
 obtain⟨k',hk',hg⟩:=hQ _ _ _ _ _ _ _ h hr
 exact fit.closed.idle rfl (λw=>Conc.stepG_exit hk') hg⟩
theorem jyu(h:Q .ret env H):AWp κ P n .ret env H Q:=⟨λfit _ _ _ _ _ _ _ _ hr _ _ _ hb hQ=>fit.closed.idle rfl (λw=>Conc.stepG_ret') (hQ _ _ _ _ _ _ _ h hr _)⟩
theorem jyp{c c':Code}(h:AWp κ P n c env H (seqQ (λenv' H'=>AWp κ P n c' env' H' Q) Q)):AWp κ P n (.seq c c') env H Q:=by
 refine⟨λfit _ _ _ _ _ _ _ _ hr b k cs hb hQ=>fit.closed.idle rfl (λw=>Conc.stepG_seq) (h.out fit hr hb λe a' w' O' X' env' H' hq hr'=>?_)⟩;cases e with
 | normal=>exact hq.out.out fit hr' hb hQ
 | _=>exact(hQ _ a' w' O' X' env' H' hq.out hr').push rfl (by simp)
theorem jsy{c:Code}{id}(h:AWp κ P n c env H (blockQ id Q)):AWp κ P n (.block id c) env H Q:=by
 refine⟨λfit _ _ _ _ _ _ _ _ hr b k cs hb hQ=>fit.closed.idle rfl (λw=>Conc.stepG_block) (h.out fit hr hb λe a' w' O' X' env' H' hq hr'=>?_)⟩;cases e with
 | normal=>exact fit.closed.idle rfl (λw=>Conc.stepG_inBlock) (hQ .normal a' w' O' X' env' H' hq.out hr')
 | exit i =>
  by_cases e:i=id
  ·subst e
   have hq':Q .normal env' H':=by simpa[blockR] using hq.out
   exact⟨k,by simp[exitTo],hQ .normal a' w' O' X' env' H' hq' hr'⟩
  ·have hb':Nat.beq i id=false:=Bool.eq_false_iff.2 (λh'=>e (Nat.eq_of_beq_eq_true h'))
   have hq':Q (.exit i) env' H':=by simpa[blockR,hb'] using hq.out
   obtain⟨k',hk',hg⟩:=hQ (.exit i) a' w' O' X' env' H' hq' hr';have:(id == i)=false:=by simp;exact λh=>e h.symm
   exact⟨k',by simp[exitTo,this,hk'],hg⟩
 | ret=>exact hQ .ret a' w' O' X' env' H' hq.out hr'
 | _=>exact(hQ _ a' w' O' X' env' H' hq.out hr').elim
theorem jjp{c:Operand}{t:Bool}(hc:opd env c=some (.b t))(ht:t=true->AWp κ P n c1 env H Q)(hf:t=false->AWp κ P n c2 env H Q):AWp κ P n (.cond c c1 c2) env H Q:=by
 refine⟨λfit _ _ _ _ _ _ _ _ hr b k cs hb hQ=>fit.closed.idle rfl (λw=>Conc.stepG_cond (hr.rel.opdv hc)) ?_⟩;cases t with
 | true=>exact(ht rfl).out fit hr hb hQ
 | false=>exact(hf rfl).out fit hr hb hQ
theorem jbx{c:Operand}{t:Bool}(hc:opd env c=some (.b t))(ht:t=true)(h:AWp κ P n c1 env H Q):AWp κ P n (.cond c c1 c2) env H Q :=
 jjp hc (λ_=>h) (λhf=>by rw[ht] at hf;cases hf)
theorem jan{c:Operand}{t:Bool}(hc:opd env c=some (.b t))(ht:t=false)(h:AWp κ P n c2 env H Q):AWp κ P n (.cond c c1 c2) env H Q :=
 jjp hc (λhf=>by rw[ht] at hf;cases hf) (λ_=>h)
theorem jiA{id:Nat}{l:List Oper}(h:AOps κ P n l.toArray l env H (λenv' H'=>Q .normal env' H')):AWp κ P n (.region id l.toArray false) env H Q:=by
 refine⟨λ{main T} fit C X0 M w0 O X a w hr b k cs hb hQ=>fit.closed.idle rfl (λw=>Conc.stepG_region) ?_⟩;have e:List.range l.toArray.size=List.range' ([]:List Oper).length l.length++[]:=by simp[List.range_eq_range']
 rw[e];exact AOpsR.sound (post:=[]) fit hb l [] env H _ (by simp) h.out O X a w hr λenv' H' O' X' a' w' hk hr'=>fit.closed.idle rfl (λw=>Conc.stepG_region_end) (hQ .normal a' w' O' X' env' H' hk hr')
theorem jj9{c:Code}{Q':Exit->Env->Heap->Prop}(h:AWp κ P n c env H Q)(hq:∀e env' H',Q e env' H'->Q' e env' H'):AWp κ P n c env H Q' :=
 ⟨λfit _ _ _ _ _ _ _ _ hr _ _ _ hb hQ=>h.out fit hr hb (λe a' w' O' X' env' H' q=>hQ e a' w' O' X' env' H' (hq _ _ _ q))⟩
structure Wk(env:Env)(H:Heap)(env':Env)(H':Heap):Prop where
 out:∀F M w0 n a w,Rel F M w0 n env H a w->Rel F M w0 n env' H' a w
theorem RelC.wk{C X0:Nat->Prop}{M:List Nat}{w0:World}{n:Nat}{env env':Env}{H H':Heap}{O X:Nat->Prop}{a:Act}{w:World}(h:RelC C X0 M w0 n env H O X a w)(hw:Wk env H env' H'):RelC C X0 M w0 n env' H' O X a w:=by
 have k:=hw.out _ _ _ _ _ _ h.rel
 have hsub:∀b∈Hb H',b∈Hb H:=λb hb=>by
  rcases k.mine b hb with h' | h'
  ·exact h'
  ·have:=k.heap.blk_lt hb;omega
 exact⟨k.rebase,λb hb=>h.own b (hb.imp id (hsub b)),h.dis,h.olt,h.os,h.tape,h.output,h.size,h.block,h.xs,h.xn,λb hb=>h.mine b (hsub b hb),h.c0⟩
theorem jod{c:Code}{env' H'}(hw:Wk env H env' H')(h:AWp κ P n c env' H' Q):AWp κ P n c env H Q :=
 ⟨λfit _ _ _ _ _ _ _ _ hr _ _ _ hb hQ=>h.out fit (hr.wk hw) hb hQ⟩
theorem jgb{ι:Type}{c:Code}(E:ι->Env)(Hp:ι->Heap)(I:ι->Prop)(μ:ι->Nat)(i0:ι)(h0:I i0)(hw:Wk env H (E i0) (Hp i0))
 (round:∀i,I i->AWp κ P n c (E i) (Hp i) (seqQ (λenv' H'=>∃j,I j/\μ j<μ i/\Wk env' H' (E j) (Hp j)) Q)):AWp κ P n (.loop c) env H Q:=by
 refine⟨λ{main T} fit C X0 M w0 O X a w hr b k cs hb hQ=>fit.closed.idle rfl (λw=>Conc.stepG_loop) ?_⟩
 have key:∀m,∀i,μ i=m->I i->∀O X a w,RelC C X0 M w0 n (E i) (Hp i) O X a w->T O X (Conc.G (b.at a (.code c::.inLoop c::k)) cs) w:=by
  intro m
  induction m using Nat.strongRecOn with
  | _ m ih =>
   intro i hm hi O X a w hr;refine(round i hi).out fit hr hb λe a' w' O' X' env' H' hq hr'=>?_;cases e with
   | normal =>
    obtain⟨j,hj,hlt,hwk⟩:=hq.out;exact fit.closed.idle rfl (λw=>Conc.stepG_inLoop) (ih (μ j) (hm ▸ hlt) j rfl hj O' X' a' w' (hr'.wk hwk))
   | _=>exact(hQ _ a' w' O' X' env' H' hq.out hr').push rfl (by simp)
 exact key _ i0 rfl h0 O X a w (hr.wk hw)
end
variable{κ:Kind}
inductive Sub(env:Env):Env->Prop
 | nil:Sub env []
 | cons {i d r} (h:look env i=some d) (hr:Sub env r):Sub env ((i,d)::r)
theorem Sub.look{env env':Env}(h:Sub env env'):∀i d,look env' i=some d->look env i=some d:=by
 induction h with
 | nil=>intro i d h;simp[Av.look] at h
 | @cons j e r h hr ih =>
  intro i d hi;rw[jcQ] at hi
  by_cases e:j=i
  ·subst e;simp only[if_true,qs] at hi;subst hi;exact h
  ·rw[qe e] at hi;exact ih i d hi
inductive Rem:Heap->Ob->Heap->Prop
 | here {o r}:Rem (o::r) o r
 | there {x r o r'} (h:Rem r o r'):Rem (x::r) o (x::r')
inductive Keep:Heap->Heap->Prop
 | nil {H}:Keep H []
 | cons {H o H1 r} (h:Rem H o H1) (hr:Keep H1 r):Keep H (o::r)
theorem Rem.perm{H o H1}(h:Rem H o H1):H.Perm (o::H1):=by
 induction h with
 | here=>exact .refl _
 | there h ih=>exact(List.Perm.cons _ ih).trans (List.Perm.swap ..)
theorem Keep.perm{H K}(h:Keep H K):∃R,H.Perm (K++R):=by
 induction h with
 | @nil H=>exact⟨H,.refl _⟩
 | cons h hr ih =>
  obtain⟨R,hR⟩:=ih;exact⟨R,h.perm.trans (List.Perm.cons _ hR)⟩
theorem HeapOk.perm{F H K R w}(h:HeapOk F H w)(hp:H.Perm (K++R)):HeapOk F K w:=by
 have hb:(Hb H).Perm (Hb K++Hb R):=by
  have:=hp.filterMap Ob.blk
  rwa [List.filterMap_append] at this
 have hmem:∀b∈Hb K,b∈Hb H:=λb hb'=>hb.symm.subset (List.mem_append_left _ hb');refine⟨λo ho=>(h.holds o (hp.symm.subset (List.mem_append_left _ ho))).iff (λb hb'=>?_),?_,λb hb'=>h.disj b (hmem b hb'),h.frb⟩
 ·rcases hb' with hb' | hb'
  ·exact .inl hb'
  ·exact .inr (hmem b hb')
 ·exact(List.nodup_append.1 (hb.nodup_iff.1 h.nodup)).1
theorem jgR{F H K R}(hp:List.Perm H (K++R))(b:Nat)(h:Own F K b):Own F H b:=by
 rcases h with h | h
 ·exact .inl h
 ·refine .inr ?_
  have hb:(Hb H).Perm (Hb K++Hb R):=by
   have:=hp.filterMap Ob.blk
   rwa [List.filterMap_append] at this
  exact hb.symm.subset (List.mem_append_left _ h)
theorem jk2{H K R}(hp:List.Perm H (K++R))(b:Nat)(h:b∈Hb K):b∈Hb H:=by
 have hb:(Hb H).Perm (Hb K++Hb R):=by
  have:=hp.filterMap Ob.blk
  rwa [List.filterMap_append] at this
 exact hb.symm.subset (List.mem_append_left _ h)
theorem wk{env H env' H'}(he:Sub env env')(hh:Keep H H'):Wk env H env' H':=by
 refine⟨λF M w0 n a w hr=>?_⟩;obtain⟨R,hp⟩:=hh.perm;refine⟨λi d hi=>?_,hr.heap.perm hp,hr.fr,λb hb=>hr.mine b (jk2 hp b hb),hr.f0,hr.dfr,hr.tsz⟩;obtain⟨v,h1,h2⟩:=hr.env i d (he.look i d hi);exact⟨v,h1,h2.iff (jgR hp)⟩
theorem Wk.trans{e1 H1 e2 H2 e3 H3}(h:Wk e1 H1 e2 H2)(k:Wk e2 H2 e3 H3):Wk e1 H1 e3 H3 :=
 ⟨λF M w0 n a w hr=>k.out F M w0 n a w (h.out F M w0 n a w hr)⟩
def Cv(v:Value)(sz:Nat)(l:List D)(d d':D):Prop:=∀w O,Rep w O (.sl sz l) v->∀y,Rep w O d y->Rep w O d' y
def CvL(v:Value)(sz:Nat)(l:List D)(ds ds':List D):Prop:=∀w O,Rep w O (.sl sz l) v->∀ys,RepL w O ds ys->RepL w O ds' ys
def CvE(v:Value)(sz:Nat)(l:List D)(s:Nat)(ds ds':List D):Prop:=∀w O,Rep w O (.sl sz l) v->∀ys,RepE w O s ds ys->RepE w O s ds' ys
section
variable{v:Value}{sz:Nat}{l:List D}
theorem Cv.same{d}:Cv v sz l d d:=λ_ _ _ _ h=>h
theorem Cv.fz:Cv v sz l (.v v) (.sl sz l):=λw O h y hy=>by
 have:y=v:=by simpa[Rep] using hy
 subst this;exact h
theorem Cv.nil{s}:Cv v sz l .nil (.sl s []):=λw O h y hy=>by
 have:y=.slice none 0 0:=by simpa[Rep] using hy
 subst this;simp only[Rep];exact⟨by simp,[],by simp[RepE],.inr (by simp)⟩
theorem Cv.agg{xs ys}(h:CvL v sz l xs ys):Cv v sz l (.agg xs) (.agg ys):=λw O hv y hy=>by
 simp only[Rep] at hy ⊢;obtain⟨cs,h1,h2⟩:=hy;exact⟨cs,h1,h w O hv cs h2⟩
theorem CvL.nil:CvL v sz l [] []:=λ_ _ _ _ h=>h
theorem CvL.cons{x y xs ys}(h:Cv v sz l x y)(hr:CvL v sz l xs ys):CvL v sz l (x::xs) (y::ys):=λw O hv zs hz=>by
 simp only[RepL] at hz ⊢;obtain⟨c,cr,h1,h2,h3,h4⟩:=hz;exact⟨c,cr,h1,h w O hv c h2,h3,hr w O hv cr h4⟩
theorem CvE.same{s d}:CvE v sz l s d d:=λ_ _ _ _ h=>h
end
inductive SubC(v:Value)(sz:Nat)(l:List D)(env:Env):Env->Prop
 | nil:SubC v sz l env []
 | cons {i d d' r} (h:look env i=some d) (hc:Cv v sz l d d') (hr:SubC v sz l env r):SubC v sz l env ((i,d')::r)
theorem SubC.look{v sz l}{env env':Env}(h:SubC v sz l env env'):∀i d',look env' i=some d'->∃d,look env i=some d/\Cv v sz l d d':=by
 induction h with
 | nil=>intro i d h;simp[Av.look] at h
 | @cons j e e' r h hc hr ih =>
  intro i d hi;rw[jcQ] at hi
  by_cases e:j=i
  ·subst e;simp only[if_true,qs] at hi;subst hi;exact⟨_,h,hc⟩
  ·rw[qe e] at hi;exact ih i d hi
inductive HeapC(v:Value)(sz:Nat)(l:List D):Heap->Heap->Prop
 | nil {H}:HeapC v sz l H []
 | box {H b ty cs cs' H1 r} (h:Rem H (.box b ty cs) H1) (hc:CvL v sz l cs cs') (hr:HeapC v sz l H1 r):HeapC v sz l H (.box b ty cs'::r)
 | arr {H u ety s cs cs' H1 r} (h:Rem H (.arr u ety s cs) H1) (hl:cs'.length=cs.length) (hc:CvE v sz l s cs cs') (hr:HeapC v sz l H1 r):HeapC v sz l H (.arr u ety s cs'::r)
theorem HeapC.spec{v sz l H H'}(h:HeapC v sz l H H'):∃K R,H.Perm (K++R)/\Hb K=Hb H'/\∀w O,Rep w O (.sl sz l) v->∀o'∈H',∃o∈K,o.blk=o'.blk/\(o.Holds w O->o'.Holds w O):=by
 induction h with
 | @nil H=>exact⟨[],H,.refl _,rfl,by simp⟩
 | @box H b ty cs cs' H1 r h hc hr ih =>
  obtain⟨K,R,h1,h2,h3⟩:=ih;refine⟨.box b ty cs::K,R,h.perm.trans (List.Perm.cons _ h1),by simp[jdm,h2,Ob.blk],λw O hv o' ho'=>?_⟩;rcases zf ho' with rfl | ho'
  ·exact⟨_,za,rfl,λ⟨vs,q1,q2⟩=>⟨vs,q1,hc w O hv vs q2⟩⟩
  ·obtain⟨o,k1,k2⟩:=h3 w O hv o' ho'
   exact⟨o,qj _ k1,k2⟩
 | @arr H u ety s cs cs' H1 r h hl hc hr ih =>
  obtain⟨K,R,h1,h2,h3⟩:=ih;refine⟨.arr u ety s cs::K,R,h.perm.trans (List.Perm.cons _ h1),by simp[jdm,h2,Ob.blk],λw O hv o' ho'=>?_⟩;rcases zf ho' with rfl | ho'
  ·exact⟨_,za,rfl,λ⟨p1,p2,xs,q1,q2⟩=>⟨p1,by rw[hl];exact p2,xs,by rw[hl];exact q1,hc w O hv xs q2⟩⟩
  ·obtain⟨o,k1,k2⟩:=h3 w O hv o' ho'
   exact⟨o,qj _ k1,k2⟩
theorem jeP{env H env' H' v ety sz l H1}(hk:Rem H (.arr v ety sz l) H1)(he:SubC v sz l env env')(hh:HeapC v sz l H1 H'):Wk env H env' H':=by
 refine⟨λF M w0 n a w hr=>?_⟩;obtain⟨K,R,hp,hb,hho⟩:=hh.spec;have hpH:H.Perm ([]++H):=.refl _
 have hpK:H.Perm (K++(.arr v ety sz l::R)):=by
  refine hk.perm.trans ((List.Perm.cons _ hp).trans ?_);exact(List.perm_middle (l₁:=K)).symm
 have hok:=hr.heap.perm hpK;obtain⟨hsz,hlb,xs,hown,hE⟩:=hr.heap.holds _ (hk.perm.symm.subset (za));have hownK:∀b,Own F K b->Own F H b:=jgR hpK
 -- the frozen slice reads
 have hv:Rep w (Own F K) (.sl sz l) v:=by
  simp only[Rep];refine⟨hlb,xs,RepE.mono (λb _ hb'=>⟨λh=>hb' (hownK b h),rfl⟩) _ _ _ hE,?_⟩;rcases hown.2 with⟨h1,h2⟩ | ⟨g,cap,cur,h1,h3,h4,h5,h6,h7,h8⟩
  ·exact .inr ⟨h1,List.eq_nil_of_length_eq_zero h2⟩
  ·refine .inl ⟨⟨g,0,none⟩,cap,h1,h5,.inr ⟨λhO=>?_,rfl,λj c hj=>?_⟩⟩
   ·have hg:(Ob.arr v ety sz l).blk=some g:=by simp[Ob.blk,h1,Value.ownBlock]
    have hgH:g∈Hb H:=jaG (hk.perm.symm.subset (za)) hg;rcases hO with hF | hm
    ·exact hr.heap.disj g hgH hF
    ·have hbn:=((hpK.filterMap Ob.blk).nodup_iff.1 hr.heap.nodup)
     rw[List.filterMap_append] at hbn;obtain⟨_,_,hd⟩:=List.nodup_append.1 hbn;exact hd g hm g (List.mem_filterMap.2 ⟨_,za,hg⟩) rfl
   ·rw[<-h8,List.getElem?_take] at hj
    split at hj
    ·rw[cell_of_row w g _ cur ety (0,0) h4];simpa using hj
    ·cases hj
 have hOK':∀b,Own F H' b↔Own F K b:=λb=>by simp only[Own,hb]
 refine⟨λi d' hi=>?_,⟨λo' ho'=>?_,by rw[<-hb];exact hok.nodup,λb hb'=>hok.disj b (by rw[hb];exact hb'),hr.heap.frb⟩,hr.fr,λb hb'=>hr.mine b (jk2 hpK b (by rw[hb];exact hb')),hr.f0,hr.dfr,hr.tsz⟩
 ·obtain⟨d,h1,h2⟩:=he.look i d' hi
  obtain⟨u,h3,h4⟩:=hr.env i d h1;exact⟨u,h3,(h2 w (Own F K) hv u (h4.iff hownK)).iff (λb hb'=>(hOK' b).1 hb')⟩
 ·obtain⟨o,k1,k2,k3⟩:=hho w (Own F K) hv o' ho'
  exact(k3 (hok.holds o k1)).iff (λb hb'=>(hOK' b).1 hb')
theorem jaF{env H}(e sz:Nat)(hsz:Nat.blt 0 sz=true):Wk env H env (.arr (.slice none 0 0) e sz []::H) :=
 ⟨λF M w0 n a w hr=>hr.nilArr e sz (by simpa using hsz)⟩
def argEnv:Nat->List D->Env
 | _,[]=>[]
 | k,d::r=>(k,d)::argEnv (k+1) r
theorem jea:∀(ds:List D)(k i:Nat)(d:D),look (argEnv k ds) i=some d->k<=i/\ds[i - k]?=some d
 | [],k,i,d,h=>by simp[argEnv,look] at h
 | e::r,k,i,d,h=>by
  rw[argEnv,jcQ] at h
  by_cases e':k=i
  ·subst e';simp only[if_true,qs] at h;subst h;simp
  ·rw[qe e'] at h
   obtain⟨h1,h2⟩:=jea r (k+1) i d h;refine⟨by omega,?_⟩;rw[show i - k=(i - (k+1))+1 by omega,List.getElem?_cons_succ];exact h2
theorem RepT.length{w:World}{O:Nat->Prop}:∀{l:List D}{cs:List Value},RepT w O l cs->l.length=cs.length
 | [],cs,h=>by simp only[RepT] at h;subst h;rfl
 | d::r,cs,h=>by
  simp only[RepT] at h;obtain⟨c,cr,rfl,_,h4⟩:=h;simp[RepT.length h4]
section
variable{P:Program}{n:Nat}
inductive ResL(P:Program)(env:Env)(H:Heap):List ResultVar->List D->Prop
 | nil:ResL P env H [] []
 | tmp {t d rs ds} (h:look env t=some d) (hr:ResL P env H rs ds):ResL P env H (.tmp t::rs) (d::ds)
 | cell {t ty b bty cs f rs ds} (h:look env t=some (.p b 0)) (hk:UpdF H (.box b bty cs) f) (hg:tagg P ty=some true) (hs:tsize P ty=some cs.length) (hr:ResL P env H rs ds):ResL P env H (.cell t ty::rs) (.agg cs::ds)
 | cell1 {t ty b bty d f rs ds} (h:look env t=some (.p b 0)) (hk:UpdF H (.box b bty [d]) f) (hg:tagg P ty=some false) (hr:ResL P env H rs ds):ResL P env H (.cell t ty::rs) (d::ds)
def resOf(tmps:Array Value):ResultVar->Sem Value
 | .tmp t=>pure (tmps.getD t undef)
 | .cell s t=>do loadVar t (<-asAddr (tmps.getD s undef))
def resV:List Value->Value
 | [v]=>v
 | l=>.tuple l.toArray
def resD:List D->D
 | [d]=>d
 | l=>.tup l
theorem ResL.run{F M w0 env H a w}(hr:Rel F M w0 n env H a w){rs ds}(h:ResL P env H rs ds) :
 ∃vs:List Value,RepT w (Own F H) ds vs/\(rs.mapM (resOf a.tmps)).run P w=.ok vs w:=by
 induction h with
 | nil=>exact⟨[],by simp[RepT],by simp⟩
 | @tmp t d rs ds h hrs ih =>
  obtain⟨vs,h1,h2⟩:=ih;have h3:=hr.eval h;refine⟨a.tmps.getD t undef::vs,by simp only[RepT];exact⟨_,_,rfl,h3,h1⟩,?_⟩;rw[List.mapM_cons,Sem.run_bind];simp only[resOf,Sem.run_pure,Result.andThen_ok,Sem.run_bind,h2]
 | @cell t ty b bty cs f rs ds h hk hg hs hrs ih =>
  obtain⟨vs,h1,h2⟩:=ih;have h3:a.tmps.getD t undef=.pointer (some ⟨b,0,none⟩):=by have:=hr.eval h;simpa[Rep,Act.eval] using this
  obtain⟨us,q1,q2⟩:=hr.heap.holds _ hk.mem;refine⟨.agg us.toArray::vs,by simp only[RepT];exact⟨_,_,rfl,by simp only[Rep];exact⟨us,rfl,q2⟩,h1⟩,?_⟩
  have hl:=run_loadCells_list (P:=P) w ⟨b,0,none⟩ us (λj u hu=>by
   rw[jbN,cell_of_row w b _ us.toArray bty (0,0) q1];simpa using hu)
  rw[<-q2.length] at hl;rw[List.mapM_cons,Sem.run_bind];simp only[resOf,Sem.run_bind,h3,asAddr,Sem.run_pure,Result.andThen_ok,loadVar,jaB hg,if_true,jat hs,hl,h2]
 | @cell1 t ty b bty d f rs ds h hk hg hrs ih =>
  obtain⟨vs,h1,h2⟩:=ih;have h3:a.tmps.getD t undef=.pointer (some ⟨b,0,none⟩):=by have:=hr.eval h;simpa[Rep,Act.eval] using this
  obtain⟨us,q1,q2⟩:=hr.heap.holds _ hk.mem;simp only[RepL] at q2;obtain⟨c,cr,rfl,k1,k2,rfl⟩:=q2;refine⟨c::vs,by simp only[RepT];exact⟨_,_,rfl,k1,h1⟩,?_⟩;have hc:w.cell? ⟨b,0,none⟩=some c:=by rw[cell_of_row w b _ [c].toArray bty (0,0) q1];rfl
  rw[List.mapM_cons,Sem.run_bind];simp only[resOf,Sem.run_bind,h3,asAddr,Sem.run_pure,Result.andThen_ok,loadVar,jaB hg,Bool.false_eq_true,if_false,run_load,hc,h2]
theorem jmo{tmps:Array Value}{w:World}{vs:List Value} 
 (h:(fn.results.toList.mapM (resOf tmps)).run P w=.ok vs w) :
 (results fn tmps).run P w=.ok (resV vs) w:=by
 have e:results fn tmps=(do let vs <-fn.results.mapM (resOf tmps);pure (if h:vs.size=1 then vs[0] else .tuple vs)):=rfl;rw[e,Array.mapM_eq_mapM_toList,Sem.run_bind,Sem.run_map,h];simp only[Result.andThen_ok,Sem.run_pure]
 match vs with
 | []=>simp[resV]
 | [v]=>simp[resV]
 | v::u::r=>simp[resV]
theorem jt7{w:World}{O:Nat->Prop}:∀{ds:List D}{vs:List Value},RepT w O ds vs->Rep w O (resD ds) (resV vs)
 | [],vs,h=>by simp only[RepT] at h;subst h;simp only[resD,Rep,resV];exact⟨[],rfl,by simp[RepT]⟩
 | [d],vs,h=>by
  simp only[RepT] at h;obtain⟨c,cr,rfl,h1,rfl⟩:=h;exact h1
 | d::e::r,vs,h=>by
  have hl:=h.length
  match vs,hl with
  | v::u::q,_=>simp only[resD,Rep,resV];exact⟨v::u::q,rfl,h⟩
structure Post(P:Program)(rs:List ResultVar)(R:D->Heap->Prop)(e:Exit)(env:Env)(H:Heap):Prop where
 out:(e=.ret\/e=.normal)/\∃ds K,ResL P env H rs ds/\Keep H K/\R (resD ds) K
theorem jaS{rs R env H ds K}(h:ResL P env H rs ds)(hk:Keep H K)(hR:R (resD ds) K):Post P rs R .ret env H:=⟨⟨.inl rfl,ds,K,h,hk,hR⟩⟩
theorem Rd.app{F:Nat->Prop}{s:Nat}{w:World}{P:Program}{α:Type}{m:Sem α}(h:Rd F s es)(k:Rd F s (m.events P w #[])):Rd F s (m.events P w es):=by
 rw[Sem.events_acc];intro e he;rcases Array.mem_append.1 he with he | he
 ·exact h e he
 ·exact k e he
theorem ResL.ev{F M w0 env H a w}(hr:Rel F M w0 n env H a w){rs ds}(h:ResL P env H rs ds):Rd F w.heap.size ((rs.mapM (resOf a.tmps)).events P w #[]):=by
 induction h with
 | nil=>simpa using Rd.nil
 | @tmp t d rs ds h hrs ih =>
  obtain⟨vs,h1,h2⟩:=hrs.run hr;rw[List.mapM_cons,Sem.events_bind];simp only[resOf,Sem.run_pure,Result.evThen_ok,Sem.events_pure,Sem.events_bind,h2];exact ih
 | @cell t ty b bty cs f rs ds h hk hg hs hrs ih =>
  obtain⟨vs,h1,h2⟩:=hrs.run hr;have h3:a.tmps.getD t undef=.pointer (some ⟨b,0,none⟩):=by have:=hr.eval h;simpa[Rep,Act.eval] using this
  obtain⟨us,q1,q2⟩:=hr.heap.holds _ hk.mem
  have hc:∀j u,us[j]?=some u->w.cell? ((⟨b,0,none⟩:Addr).add j)=some u:=λj u hu=>by
   rw[jbN,cell_of_row w b _ us.toArray bty (0,0) q1];simpa using hu
  have hl:=run_loadCells_list (P:=P) w ⟨b,0,none⟩ us hc;have hrd:Rd F w.heap.size ((loadCells ⟨b,0,none⟩ us.length).events P w #[]):=jm5 hc (Array.getElem?_eq_some_iff.1 q1).1 (λh=>hr.heap.disj b (jaG hk.mem rfl) h)
  have e1:(resOf a.tmps (.cell t ty)).run P w=.ok (.agg us.toArray) w:=by
   rw[<-q2.length] at hl;simp only[resOf,Sem.run_bind,h3,asAddr,Sem.run_pure,Result.andThen_ok,loadVar,jaB hg,if_true,jat hs,hl]
  have e2:Rd F w.heap.size ((resOf a.tmps (.cell t ty)).events P w #[]):=by
   rw[<-q2.length] at hl hrd;simp only[resOf,Sem.events_bind,Sem.run_bind,h3,asAddr,Sem.run_pure,Sem.events_pure,Result.andThen_ok,Result.evThen_ok,loadVar,jaB hg,events_isAgg,if_true,jat hs,events_sizeOf,hl];exact hrd
  rw[List.mapM_cons,Sem.events_bind,e1];simp only[Result.evThen_ok,Sem.events_bind,h2,Sem.events_pure];exact e2.app ih
 | @cell1 t ty b bty d f rs ds h hk hg hrs ih =>
  obtain⟨vs,h1,h2⟩:=hrs.run hr;have h3:a.tmps.getD t undef=.pointer (some ⟨b,0,none⟩):=by have:=hr.eval h;simpa[Rep,Act.eval] using this
  obtain⟨us,q1,q2⟩:=hr.heap.holds _ hk.mem;simp only[RepL] at q2;obtain⟨c,cr,rfl,k1,k2,rfl⟩:=q2;have hc:w.cell? ⟨b,0,none⟩=some c:=by rw[cell_of_row w b _ [c].toArray bty (0,0) q1];rfl
  have e1:(resOf a.tmps (.cell t ty)).run P w=.ok c w:=by
   simp only[resOf,Sem.run_bind,h3,asAddr,Sem.run_pure,Result.andThen_ok,loadVar,jaB hg,Bool.false_eq_true,if_false,run_load,hc]
  have e2:Rd F w.heap.size ((resOf a.tmps (.cell t ty)).events P w #[]):=by
   simp only[resOf,Sem.events_bind,Sem.run_bind,h3,asAddr,Sem.run_pure,Sem.events_pure,Result.andThen_ok,Result.evThen_ok,loadVar,jaB hg,events_isAgg,Bool.false_eq_true,if_false,events_load,hc];exact jfJ (World.block_lt_of_cell? w _ hc) (λh=>hr.heap.disj b (jaG hk.mem rfl) h)
  rw[List.mapM_cons,Sem.events_bind,e1];simp only[Result.evThen_ok,Sem.events_bind,h2,Sem.events_pure];exact e2.app ih
theorem jpi{tmps:Array Value}{w:World}{F:Nat->Prop}{vs:List Value}(h:(fn.results.toList.mapM (resOf tmps)).run P w=.ok vs w)
 (he:Rd F w.heap.size ((fn.results.toList.mapM (resOf tmps)).events P w #[])):Rd F w.heap.size ((results fn tmps).events P w #[]):=by
 have e:results fn tmps=(do let vs <-fn.results.mapM (resOf tmps);pure (if h:vs.size=1 then vs[0] else .tuple vs)):=rfl;rw[e,Array.mapM_eq_mapM_toList,Sem.events_bind,Sem.run_map,Sem.events_map,h];simpa using he
theorem jkW{main:Bool}{b:Frame}{a:Act}{w:World}{cs:List Frame}{todo:List Item}{c:Frame}{v:Value}(hn:b.kind=.normal)(hd:a.defers=[])(hf:P.funcs[b.fn]?=some fn)(hr:(results fn a.tmps).run P w=.ok v w) :
 stepG P main (Conc.G { b.at a todo with mode:=.returning } (c::cs)) w=.go (Conc.G (c.finish v) cs) w (seen P b.fn ((results fn a.tmps).events P w #[])):=by
 simp[Conc.G,stepG,unwind,doReturn,Frame.at,hn,hd,hf,hr,GStep.after]
theorem jmB{b:Frame}{a:Act}{w:World}{todo:List Item}{v:Value}(hn:b.kind=.normal)(hd:a.defers=[])(hf:P.funcs[b.fn]?=some fn)(hi:P.inits.idxOf? b.fn=none)(hr:(results fn a.tmps).run P w=.ok v w) :
 stepG P true (Conc.G { b.at a todo with mode:=.returning } []) w=.ended (.done v) w (seen P b.fn ((results fn a.tmps).events P w #[])):=by
 simp[Conc.G,stepG,unwind,doReturn,Frame.at,hn,hd,hf,hr,hi,GStep.after]
theorem jfL{f:FuncId}{c:Code}(hf:P.funcs[f]?=some fn)(hb:fn.body=some c)(hcall:∀(vs:Array Value)(w:World),(callFunc f vs).run P w=.ok (.enter f vs) w)(vs:Array Value)(w:World):(callFunc f vs).events P w #[]=#[]:=by
 have hn : (fn.name == "runtime.NumGoroutine") = false := by
  cases hx : (fn.name == "runtime.NumGoroutine") with
  | false=>rfl
  | true =>
   have h:=hcall vs w;simp[callFunc,hf,eq_of_beq hx] at h
 have h1 : ¬ fn.name = "runtime.NumGoroutine" := by simpa using hn
 simp[callFunc,hf,h1,hb]
theorem jar{f:FuncId}{c:Code}{args:List D}{H:Heap}{R:D->Heap->Prop}(hf:P.funcs[f]?=some fn)(hb:fn.body=some c)
 (hcall:∀(vs:Array Value)(w:World),(callFunc f vs).run P w=.ok (.enter f vs) w) (hlen:Nat.ble args.length fn.ntmps=true)
 (h:AWp κ P fn.ntmps c (argEnv 0 args) H (Post P fn.results.toList R)):Con κ P f args H R:=by
 have start:∀{C O X:Nat->Prop}{w:World}{vs:List Value},RelC C X (Hb H) w 0 [] H O X nact w->RepT w (Own (λb=>C b\/X b) H) args vs ->
  RelC C X (Hb H) w fn.ntmps (argEnv 0 args) H O X { tmps:=vs.toArray++Array.replicate (fn.ntmps - vs.toArray.size) undef,defers:=[] } w:=by
  intro C O X w vs hr0 hargs;have hl:=hargs.length;have hlen':args.length<=fn.ntmps:=by simpa using hlen
  refine⟨⟨λi d hi=>?_,hr0.rel.heap,Fr.refl _ _,λb hb=>.inl hb,hr0.rel.heap.frb,rfl,?_⟩,hr0.own,hr0.dis,hr0.olt,rfl,rfl,rfl,Nat.le_refl _,λ_ _ _ _=>rfl,λ_ hb=>hb,λ_ hb=>.inl hb,λ_ hb=>.inl hb,λb hb=>hr0.rel.heap.frb b (.inl hb)⟩
  ·obtain⟨h1,h2⟩:=jea args 0 i d hi
   simp only[Nat.sub_zero] at h2;obtain⟨u,h3,h4⟩:=hargs.get h2;refine⟨u,?_,h4⟩;have hil:i<vs.length:=(List.getElem?_eq_some_iff.1 h3).1;rw[Array.getElem?_append_left (by simpa using hil)];simpa using h3
  ·simp only[Array.size_append,List.size_toArray,Array.size_replicate];omega
 -- what the results are,in whatever world the others have left
 have fin:∀{C O' X' X₁ X:Nat->Prop}{w w' w₁:World}{a':Act}{env' H' ds K},RelC C X (Hb H) w fn.ntmps env' H' O' X' a' w'->ResL P env' H' fn.results.toList ds->Keep H' K->Fan.Rely X' w' X₁ w₁ ->
  ∃v,a'.defers=[]/\(results fn a'.tmps).run P w₁=.ok v w₁/\(∀e∈seen P f ((results fn a'.tmps).events P w₁ #[]),Fan.Ok O' X₁ w₁.heap.size w₁.heap.size e)/\Rep w₁ (Own (λb=>C b\/X₁ b) K) (resD ds) v/\RelC C X (Hb H) w 0 [] K O' X₁ nact w₁:=by
  intro C O' X' X₁ X w w' w₁ a' env' H' ds K hr' hres hkeep hRl;obtain⟨Rm,hp⟩:=hkeep.perm;have hr1:=hr'.rely hRl;obtain⟨us,k1,k2⟩:=hres.run hr1.rel;have hev:=jpi k2 (hres.ev hr1.rel);refine⟨_,hr1.rel.dfr,jmo k2,λe he=>?_,(jt7 k1).iff (jgR hp),?_⟩
  ·obtain⟨ad,rfl,q1,q2⟩:=hev e (Conc.mem_seen he)
   exact .inl ⟨ad,rfl,q1,λhx=>q2 (.inr hx),λh=>by cases h⟩
  ·have hok:=hr1.rel.heap.perm hp
   exact⟨ji0 hok,λb hb=>hr1.own b (hb.imp id (jk2 hp b)),hr1.dis,hr1.olt,hr1.os,hr1.tape,hr1.output,hr1.size,hr1.block,hr1.xs,hr1.xn,λb hb=>hr1.mine b (jk2 hp b hb),hr1.c0⟩
 refine⟨λvs w=>⟨hcall vs w,jfL hf hb hcall vs w⟩,λ{main T} fit C O X w vs hr0 hargs c0 cs hK=>?_,λ{Post} fit hi C O X w vs hr0 hargs hK=>?_⟩
 ·rw[Conc.enter_at _ hf hb]
  refine h.out fit (start hr0 hargs) (b:=Conc.base f) (k:=[]) (by simp[Conc.base]) λe a' w' O' X' env' H' ⟨⟨he,ds,K,hres,hkeep,hR⟩⟩ hr'=>?_
  have fin':∀todo,T O' X' (Conc.G { (Conc.base f).at a' todo with mode:=.returning } (c0::cs)) w':=λtodo=>by
   refine fit.closed.step _ _ _ _ rfl λX₁ w₁ hRl=>?_;obtain⟨v,q1,q2,q3,q4,q5⟩:=fin hr' hres hkeep hRl;refine⟨_,w₁,_,jkW (b:=Conc.base f) rfl q1 hf q2,Fan.ji1 q3,?_⟩;rw[Fan.jbm];exact hK v (resD ds) K _ _ w₁ hR q4 q5
  rcases he with rfl | rfl
  ·exact fin'
  ·exact fit.closed.idle rfl (λw=>Conc.stepG_end) (fin' [])
 ·rw[Conc.enter_at _ hf hb]
  refine h.out fit (start hr0 hargs) (b:=Conc.base f) (k:=[]) (by simp[Conc.base]) λe a' w' O' X' env' H' ⟨⟨he,ds,K,hres,hkeep,hR⟩⟩ hr'=>?_
  have fin':∀todo,Fan.GoM P Post none O' X' (Conc.G { (Conc.base f).at a' todo with mode:=.returning } []) w':=λtodo=>by
   refine .done rfl λX₁ w₁ hRl=>?_;obtain⟨v,q1,q2,q3,q4,q5⟩:=fin hr' hres hkeep hRl;exact⟨v,_,jmB (b:=Conc.base f) rfl q1 hf hi q2,q3,hK v (resD ds) K _ _ w₁ hR q4 q5⟩
  rcases he with rfl | rfl
  ·exact fin'
  ·exact fit.closed.idle rfl (λw=>Conc.stepG_end) (fin' [])
end
variable{κ:Kind}
section generic
variable{P:Program}{T:Tgt}{ops:Array Oper}{Q:Act->(Nat->Prop)->(Nat->Prop)->World->Prop}{md:Region.Mode}{stop:List Nat}{Y:Type}{G:Y->(Nat->Prop)->World->Y->(Nat->Prop)->World->Prop}
def Op1(P:Program)(T:Tgt)(ops:Array Oper)(i:Nat)(K:Act->(Nat->Prop)->(Nat->Prop)->World->Prop)(a:Act)(O X:Nat->Prop)(w:World):Prop :=
 match ops[i]? with
 | none=>False
 | some o=>if Region.wanted o (yielded ops a.tmps)=true then upS P T (λv O' X' w'=>K (a.put o.dst v) O' X' w') O X w ((execOp a.eval o).events P w #[]) ((execOp a.eval o).run P w) else K (a.put o.dst undef) O X w
theorem jgi{Ka Kb:Value->(Nat->Prop)->(Nat->Prop)->World->Prop}{O X:Nat->Prop}{w:World}{r:Result Next}(hk:∀v O' X' w',Ka v O' X' w'->Kb v O' X' w')(h:upS P T Ka O X w es r):upS P T Kb O X w es r:=by
 match r,h with
 | .ok (.value v) w',h1=>exact⟨h1.1,hk _ _ _ _ h1.2⟩
 | .ok .skip w',h1=>exact⟨h1.1,hk _ _ _ _ h1.2⟩
 | .ok (.enter f args) w',h1=>exact⟨h1.1,h1.2.1,λhq=>h1.2.2 (λv O' X' w' q=>hq v O' X' w' (hk _ _ _ _ q))⟩
theorem Op1.mono{i:Nat}{K K':Act->(Nat->Prop)->(Nat->Prop)->World->Prop}{a:Act}{O X:Nat->Prop}{w:World}(hk:∀a' O' X' w',K a' O' X' w'->K' a' O' X' w')(h:Op1 P T ops i K a O X w):Op1 P T ops i K' a O X w:=by
 unfold Op1 at *;cases ho:ops[i]? with
 | none=>rw[ho] at h;exact h
 | some o =>
  rw[ho] at h;simp only at h ⊢;split
  ·rename_i hw
   rw[qf hw] at h;exact jgi (λv O' X' w' q=>hk _ _ _ _ q) h
  ·rename_i hw
   rw[qe hw] at h;exact hk _ _ _ _ h
def anyS(stop:List Nat)(P:Program)(T:Tgt)(md:Region.Mode)(ops:Array Oper)(Q:Act->(Nat->Prop)->(Nat->Prop)->World->Prop)(G:Y->(Nat->Prop)->World->Y->(Nat->Prop)->World->Prop):Nat->Array Bool->Act->(Nat->Prop)->(Nat->Prop)->World->Y->Prop
 | 0,listed,a,O,X,w,_=>∀X₁ w₁,Fan.Rely X w X₁ w₁->Region.ready md ops listed=[]/\(stop=[]->Q a O X₁ w₁)
 | fuel+1,listed,a,O,X,w,x=>∀X₁ w₁,Fan.Rely X w X₁ w₁ ->
  (Region.ready md ops listed=stop->Q a O X₁ w₁) /\
  ∀i∈Region.ready md ops listed,i∉stop->Op1 P T ops i (λa' O' X' w'=>∃x',G x X₁ w₁ x' X' w'/\anyS stop P T md ops Q G fuel (listed.setIfInBounds i true) a' O' X' w' x') a O X₁ w₁
theorem anyS.rely{fuel:Nat}{listed:Array Bool}{a:Act}{O X X₁:Nat->Prop}{w w₁:World}{x:Y}(h:anyS stop P T md ops Q G fuel listed a O X w x)(hR:Fan.Rely X w X₁ w₁):anyS stop P T md ops Q G fuel listed a O X₁ w₁ x:=by
 cases fuel with
 | zero=>exact λX₂ w₂ h2=>h X₂ w₂ (hR.trans h2)
 | succ fuel=>exact λX₂ w₂ h2=>h X₂ w₂ (hR.trans h2)
def YS(P:Program)(ops:Array Oper)(S:(Nat->Prop)->World->Prop)(o:Oper)(v:Value)(a:Act):Prop :=
 (Region.wanted o (yielded ops a.tmps)=true/\∀X w,S X w->(execOp a.eval o).run P w=.ok (.value v) w/\Rd X w.heap.size ((execOp a.eval o).events P w #[]))\/(Region.wanted o (yielded ops a.tmps)=false/\v=undef)
theorem Op1.putIf{S:(Nat->Prop)->World->Prop}{j:Nat}{oi oj:Oper}{v:Value}(hj:ops[j]?=some oj)(hap:oi.apart ops oj=true)(hsi:∀cs b,oi.op≠.select cs b)(hsj:∀cs b,oj.op≠.select cs b){K:Act->(Nat->Prop)->(Nat->Prop)->World->Prop}{a:Act}{O X:Nat->Prop}{w:World} 
 (hy:YS P ops S oi v a) (h:Op1 P T ops j K (a.put oi.dst v) O X w):Op1 P T ops j (λa' O' X' w'=>YS P ops S oi v a'/\K (a'.put oi.dst v) O' X' w') a O X w:=by
 obtain⟨h1,h2,h3⟩:=Oper.apart_spec hap
 have keep:∀u,YS P ops S oi v (a.put oj.dst u):=λu=>by
  unfold YS at *;rw[execOp_put oi hsi a oj.dst u h3,wanted_put oi a oj.dst u h3];exact hy
 unfold Op1 at *;simp only[hj] at *;rw[wanted_put oj a oi.dst v h1] at h;split
 ·rename_i hw
  rw[qf hw,execOp_put oj hsj a oi.dst v h1] at h;exact jgi (λu O' X' w' q=>⟨keep u,by rw[<-Act.put_comm a v u h2];exact q⟩) h
 ·rename_i hw
  rw[qe hw] at h;exact⟨keep _,by rw[<-Act.put_comm a v undef h2];exact h⟩
theorem jrP{O X:Nat->Prop}{w:World}(h:Rd X w.heap.size es):Fan.Guar O X w w es :=
 Fan.ji1 (λe he=>by obtain⟨a,rfl,k2,k3⟩:=h e he;exact .inl ⟨a,rfl,k2,k3,λh=>by cases h⟩)
theorem jdQ(hrefl:∀x X w,G x X w x X w)(hrel:∀x X w X₁ w₁,Fan.Rely X w X₁ w₁->G x X w x X₁ w₁)(htrans:∀x X w x' X' w' x'' X'' w'',G x X w x' X' w'->G x' X' w' x'' X'' w''->G x X w x'' X'' w''){i:Nat}(his:i∉stop){oi:Oper}{v:Value}(hi:ops[i]?=some oi)(hsel:∀(j:Nat)(o:Oper) cs b,ops[j]?=some o->o.op≠.select cs b) :
 ∀(fuel:Nat)(listed:Array Bool)(a:Act)(O X:Nat->Prop)(w:World)(x:Y),
  (∀j oj,ops[j]?=some oj->j≠i->listed.getD j true=false->(∀e∈oj.after,Region.binds md e=true->e.on≠i)->oi.apart ops oj=true) ->
  i∈Region.ready md ops listed->YS P ops (λX' w'=>∃x',G x X w x' X' w') oi v a ->
  anyS stop P T md ops Q G fuel (listed.setIfInBounds i true) (a.put oi.dst v) O X w x->anyS stop P T md ops Q G (fuel+1) listed a O X w x:=by
 have own:∀(fuel:Nat)(listed:Array Bool)(a:Act)(O X:Nat->Prop)(w:World)(x:Y),YS P ops (λX' w'=>∃x',G x X w x' X' w') oi v a->anyS stop P T md ops Q G fuel (listed.setIfInBounds i true) (a.put oi.dst v) O X w x ->
  Op1 P T ops i (λa' O' X' w'=>∃x',G x X w x' X' w'/\anyS stop P T md ops Q G fuel (listed.setIfInBounds i true) a' O' X' w' x') a O X w:=by
  intro fuel listed a O X w x hy H;unfold Op1;simp only[hi];rcases hy with⟨hw,hv⟩ | ⟨hw,rfl⟩
  ·rw[qf hw]
   obtain⟨k1,k2⟩:=hv X w ⟨x,hrefl x X w⟩;rw[k1];exact⟨jrP k2,x,hrefl x X w,by rw[Fan.jbm];exact H⟩
  ·rw[qe (by simp[hw])]
   exact⟨x,hrefl x X w,H⟩
 have base:∀(a:Act)(x:Y)(X X₁:Nat->Prop)(w w₁:World)(x₁:Y),G x X w x₁ X₁ w₁->YS P ops (λX' w'=>∃x',G x X w x' X' w') oi v a->YS P ops (λX' w'=>∃x',G x₁ X₁ w₁ x' X' w') oi v a:=by
  intro a x X X₁ w w₁ x₁ hG hy;rcases hy with⟨k1,k2⟩ | k
  ·exact .inl ⟨k1,λX' w' ⟨x',h'⟩=>k2 X' w' ⟨x',htrans _ _ _ _ _ _ _ _ _ hG h'⟩⟩
  ·exact .inr k
 intro fuel
 induction fuel with
 | zero =>
  intro listed a O X w x _ hr hy H X₁ w₁ hR;have hy1:=base a x X X₁ w w₁ x (hrel x X w X₁ w₁ hR) hy;refine⟨λh=>(by rw[h] at hr;exact qp hr his),λj hj hjs=>?_⟩
  by_cases hji:j=i
  ·subst hji;exact own 0 listed a O X₁ w₁ x hy1 (H.rely hR)
  ·have:=ready_mono hj hji
   rw[(H X₁ w₁ hR).1] at this;cases this
 | succ fuel ih =>
  intro listed a O X w x hfree hr hy H X₁ w₁ hR;have hy1:=base a x X X₁ w w₁ x (hrel x X w X₁ w₁ hR) hy;refine⟨λh=>(by rw[h] at hr;exact qp hr his),λj hj hjs=>?_⟩
  by_cases hji:j=i
  ·subst hji;exact own _ listed a O X₁ w₁ x hy1 (H.rely hR)
  ·have h1:=(H X₁ w₁ hR).2 j (ready_mono hj hji) hjs
   obtain⟨hjun,oj,hoj,hall⟩:=mem_ready.1 hj
   have hnot:∀e∈oj.after,Region.binds md e=true->e.on≠i:=λe he hb heq=>by
    have h1:=hall e he hb;have h0:=(mem_ready.1 hr).1;rw[heq] at h1;rcases Nat.lt_or_ge i listed.size with h' | h'
    ·simp[h'] at h0 h1;rw[h0] at h1;cases h1
    ·simp[Array.getElem?_eq_none h'] at h1
   have h2:=Op1.putIf hoj (hfree j oj hoj hji hjun hnot) (λcs b=>hsel i oi cs b hi) (λcs b=>hsel j oj cs b hoj) hy1 h1
   have hfree':∀k ok,ops[k]?=some ok->k≠i->(listed.setIfInBounds j true).getD k true=false ->
    (∀e∈ok.after,Region.binds md e=true->e.on≠i)->oi.apart ops ok=true:=λk ok hk hki hun hno=>by
    refine hfree k ok hk hki ?_ hno
    by_cases hjk:j=k
    ·subst hjk;exact hjun
    ·rw[getD_set_ne true hjk] at hun;exact hun
   refine Op1.mono (λa' O' X' w' h3=>?_) h2;obtain⟨hy',x',hG,h4⟩:=h3;refine⟨x',hG,ih (listed.setIfInBounds j true) a' O' X' w' x' hfree' (ready_mono hr (Ne.symm hji)) (base _ _ _ _ _ _ _ hG hy') ?_⟩;rw[Array.setIfInBounds_comm _ _ hji];exact h4
theorem jhU{main:Bool}(hT:Fan.Closed P main T){b:Frame}{k:List Item}{cs:List Frame}(hb:b.kind≠.early)
 (hne:∀l:Array Bool,Region.ready md ops l=[]->stop=[]) (hsx:∀(l:Array Bool) i,i∈Region.ready md ops l->i∈stop->Region.ready md ops l=stop)
 (hQ:∀fuel t listed a O X w,(fuel=0->stop=[])->Region.ready md ops listed=stop->Q a O X w->T O X (Conc.G (b.at a (.inRegion ops (Region.linearise.go md ops fuel t listed [])::k)) cs) w):∀(fuel t:Nat)(listed:Array Bool)(a:Act)(O X:Nat->Prop)(w:World)(x:Y),
 anyS stop P T md ops Q G fuel listed a O X w x->T O X (Conc.G (b.at a (.inRegion ops (Region.linearise.go md ops fuel t listed [])::k)) cs) w:=by
 intro fuel
 induction fuel with
 | zero =>
  intro t listed a O X w x h;have h1:=h X w (Fan.Rely.refl X w);have hs:=hne listed h1.1;exact hQ 0 t listed a O X w (λ_=>hs) (h1.1.trans hs.symm) (h1.2 hs)
 | succ fuel ih =>
  intro t listed a O X w x h
  by_cases hst:Region.ready md ops listed=stop
  ·exact hQ (fuel+1) t listed a O X w (λh=>by cases h) hst ((h X w (Fan.Rely.refl X w)).1 hst)
  simp only[Region.linearise.go]
  change T O X (Conc.G (b.at a (.inRegion ops (match (Region.ready md ops listed)[t % (Region.ready md ops listed).length]? with
   | some i=>Region.linearise.go md ops fuel (t / (Region.ready md ops listed).length) (listed.setIfInBounds i true) [i]
   | none=>[].reverse)::k)) cs) w
  cases hi:(Region.ready md ops listed)[t % (Region.ready md ops listed).length]? with
  | none =>
   have hnil:Region.ready md ops listed=[]:=by
    cases hr:Region.ready md ops listed with
    | nil=>rfl
    | cons x xs =>
     rw[hr] at hi;have hlt:t % (x::xs).length<(x::xs).length:=Nat.mod_lt _ (by simp);simp at hi;simp at hlt;omega
   exact qp (hnil.trans (hne listed hnil).symm) hst
  | some i =>
   have hmem:=qk hi;have his:i∉stop:=λh=>hst (hsx listed i hmem h);simp only[];rw[linearise_go_acc,List.reverse_singleton,List.singleton_append];cases ho:ops[i]? with
   | none=>have:=(h X w (Fan.Rely.refl X w)).2 i hmem his;unfold Op1 at this;rw[ho] at this;exact this.elim
   | some o =>
    by_cases hw:Region.wanted o (yielded ops a.tmps)=true
    ·have hS:SemS P T (execOp a.eval o) (λv O' X' w'=>T O' X' (Conc.G (b.at (a.put o.dst v) (.inRegion ops (Region.linearise.go md ops fuel (t / (Region.ready md ops listed).length) (listed.setIfInBounds i true) [])::k)) cs) w') O X w:=by
      intro X₁ w₁ hR;have h1:=(h X₁ w₁ hR).2 i hmem his;unfold Op1 at h1;rw[ho] at h1;simp only at h1;rw[qf hw] at h1;exact jgi (λv O' X' w' ⟨x',_,h'⟩=>ih _ _ _ _ _ _ x' h') h1
     exact hS.step hT hb ho hw (λv O' X' w' q=>q)
    ·have h1:=(h X w (Fan.Rely.refl X w)).2 i hmem his
     unfold Op1 at h1;rw[ho] at h1;simp only at h1;rw[qe hw] at h1;obtain⟨x',_,h'⟩:=h1;exact hT.idle rfl (λw=>Conc.stepG_unwanted ho (by simpa using hw)) (ih _ _ _ _ _ _ x' h')
theorem js3{fuel t:Nat}{listed:Array Bool}(h:Region.ready md ops listed=[]):Region.linearise.go md ops fuel t listed []=[]:=by
 cases fuel with
 | zero=>simp[Region.linearise.go]
 | succ fuel =>
  simp only[Region.linearise.go]
  change (match (Region.ready md ops listed)[t % (Region.ready md ops listed).length]? with
   | some i=>Region.linearise.go md ops fuel (t / (Region.ready md ops listed).length) (listed.setIfInBounds i true) [i]
   | none=>[].reverse)=[]
  rw[h];rfl
end generic
inductive Gd(ops:Array Oper)(env:Env)(o:Oper):Bool->Prop
 | none (h:o.guard=none):Gd ops env o true
 | yes {j want c} (h:o.guard=some (j,want)) (hl:((ops[j]?).bind (·.dst)).bind (look env)=some (D.b c)) (hc:c=want):Gd ops env o true
 | no {j want c} (h:o.guard=some (j,want)) (hl:((ops[j]?).bind (·.dst)).bind (look env)=some (D.b c)) (hc:c=!want):Gd ops env o false
 | nou {j want} (h:o.guard=some (j,want)) (hl:((ops[j]?).bind (·.dst)).bind (look env)=some (D.v undef)):Gd ops env o false
theorem Gd.wanted{n:Nat}{env:Env}{H:Heap}{o:Oper}{g F M w0 a w}(h:Gd ops env o g)(hr:Rel F M w0 n env H a w):Region.wanted o (yielded ops a.tmps)=g:=by
 cases h with
 | none h=>simp[Region.wanted,h]
 | yes h hl hc=>simp[Region.wanted,h,jfb hr hl,hc]
 | no h hl hc=>rename_i j want c;subst hc;simp[Region.wanted,h,jfb hr hl]
 | nou h hl=>rename_i j want;have:=jgK (want:=want) hr hl (by unfold undef;intro e;cases e);simp[Region.wanted,h];exact this
structure Gr(x:Heap)(X:Nat->Prop)(w:World)(x':Heap)(X':Nat->Prop)(w':World):Prop where
 size:w.heap.size<=w'.heap.size
 block:∀b,b<w.heap.size->b∉Hb x->¬X b->w'.heap[b]?=w.heap[b]?
 mine:∀b∈Hb x',b∈Hb x\/w.heap.size<=b
 xs:∀b,X b->X' b
 xn:∀b,X' b->X b\/w.heap.size<=b
theorem Gr.refl(x X w):Gr x X w x X w:=⟨Nat.le_refl _,λ_ _ _ _=>rfl,λ_ h=>.inl h,λ_ h=>h,λ_ h=>.inl h⟩
theorem Gr.rely(x:Heap)(X w X₁ w₁)(h:Fan.Rely X w X₁ w₁):Gr x X w x X₁ w₁ :=
 ⟨h.size,λb hb _ hX=>h.block b hb hX,λ_ h=>.inl h,λb hb=>(h.iff b).2 (.inl hb),λb hb=>((h.iff b).1 hb).imp id And.left⟩
theorem Gr.trans(x X w x' X' w' x'' X'' w'')(h:Gr x X w x' X' w')(k:Gr x' X' w' x'' X'' w''):Gr x X w x'' X'' w'':=by
 refine⟨Nat.le_trans h.size k.size,λb hb hx hX=>?_,λb hb=>?_,λb hb=>k.xs b (h.xs b hb),λb hb=>?_⟩
 ·have hx':b∉Hb x':=λhm=>by rcases h.mine b hm with h' | h';exact hx h';omega
  have hX':¬X' b:=λhm=>by rcases h.xn b hm with h' | h';exact hX h';omega
  exact(k.block b (qA hb h.size) hx' hX').trans (h.block b hb hx hX)
 ·rcases k.mine b hb with h' | h'
  ·exact h.mine b h'
  ·exact .inr (Nat.le_trans h.size h')
 ·rcases k.xn b hb with h' | h'
  ·exact h.xn b h'
  ·exact .inr (Nat.le_trans h.size h')
def Rest(F:Nat->Prop)(H Hr:Heap)(w:World):Prop:=∀o∈Hr,(∀b,o.blk=some b->F b)/\o.Holds w (Own F H)
def RestC(C X:Nat->Prop)(H Hr:Heap)(w:World):Prop:=∀o∈Hr,(∀b,o.blk=some b->C b)/\o.Holds w (Own (λb=>C b\/X b) H)
theorem RestC.rest{C X:Nat->Prop}{H Hr:Heap}{w:World}(h:RestC C X H Hr w):Rest (λb=>C b\/X b) H Hr w:=λo ho=>⟨λb hb=>.inl ((h o ho).1 b hb),(h o ho).2⟩
section
variable{P:Program}{n:Nat}{env:Env}{H Hr:Heap}{dst:Option Tmp}{ty:TypeId}{pos:String}{after:Array Edge}{gd:Option (Nat × Bool)}{x y z:Operand}
structure AR(P:Program)(n:Nat)(Hr:Heap)(o:Oper)(env:Env)(H:Heap)(d:D):Prop where
 out:∀F M w0 a w (Y:Nat->Prop),Rel F M w0 n env H a w->Rest F H Hr w->(∀b,Y b->F b)->(∀o∈Hr,∀b,o.blk=some b->¬Y b)->∃v,Rep w (Own F H) d v/\∀w',(∀b,b<w.heap.size->b∉Hb H->¬Y b->w'.heap[b]?=w.heap[b]?) ->
  (execOp a.eval o).run P w'=.ok (.value v) w'/\Rd Y w.heap.size ((execOp a.eval o).events P w' #[])
structure AAny(κ:Kind)(P:Program)(n:Nat)(Hr:Heap)(ops:Array Oper)(fuel:Nat)(listed:Array Bool)(env:Env)(H:Heap)(K:Env->Heap->Prop):Prop where
 out:∀{main T},Fit κ P main T->∀{C X0 M w0 O X a w},RelC C X0 M w0 n env H O X a w->RestC C X H Hr w->∀(Q:Act->(Nat->Prop)->(Nat->Prop)->World->Prop),
  (∀env' H' a' O' X' w',K env' H'->RelC C X0 M w0 n env' H' O' X' a' w'->Q a' O' X' w')->anyS [] P T .any ops Q Gr fuel listed a O X w H
theorem AP.ar{o d}(h:AP P n o env H d):AR P n Hr o env H d:=⟨λF M w0 a w Y hr _ _ _=>let ⟨v,h1,h2⟩:=h.out F M w0 a w hr;⟨v,h1,λw' _=>⟨(h2 w').1,by rw[(h2 w').2];exact Rd.nil⟩⟩⟩
theorem AQ.ar{o d}(h:AQ P n (Hb H) o env H d):AR P n Hr o env H d:=⟨λF M w0 a w Y hr _ hY _=>let ⟨v,h1,h2⟩:=h.out F M w0 a w hr;⟨v,h1,λw' hw=>let ⟨k1,k2⟩:=h2 w' (λb hb hm hF=>hw b hb hm (λhy=>hF (hY b hy)));⟨k1,λe he=>let ⟨a',q1,q2,q3⟩:=k2 e he;⟨a',q1,q2,λhy=>q3 (hY _ hy)⟩⟩⟩⟩
theorem Rest.mem{F w}(h:Rest F H Hr w)(hok:HeapOk F H w){o f b}(hk:UpdF Hr o f)(hb:o.blk=some b):b∉Hb H/\o.Holds w (Own F H) :=
 ⟨λhm=>hok.disj b hm ((h o hk.mem).1 b hb),(h o hk.mem).2⟩
theorem jxq{t b off bty cs sz r f}(hx:opd env x=some (.p b off))(hk:UpdF Hr (.box b bty cs) f)(hg:tagg P t=some true)(hs:tsize P t=some sz)(hr:SubL cs off sz r) :
 AR P n Hr ⟨dst,.load t x,ty,pos,after,gd⟩ env H (.agg r):=by
 refine⟨λF M w0 a w Y hr' hrest hY hYr=>?_⟩;have h1:=hr'.opdv hx;obtain⟨hm,vs,h2,h3⟩:=hrest.mem hr'.heap hk rfl;obtain⟨q1,q2⟩:=hr.eq;have hlen:=h3.length;refine⟨.agg ((vs.drop off).take sz).toArray,by simp only[Rep];exact⟨_,rfl,by rw[q1];exact(h3.drop off).take sz⟩,λw' hw=>?_⟩;have hb:w'.heap[b]?=some (.cells vs.toArray bty (0,0)):=by rw[hw b (Array.getElem?_eq_some_iff.1 h2).1 hm (hYr _ hk.mem b rfl)];exact h2
 have hsz:((vs.drop off).take sz).length=sz:=by simp;omega
 have hl:=run_loadCells_list (P:=P) w' ⟨b,off,none⟩ ((vs.drop off).take sz) (λj u hu=>by
  rw[jbN,cell_of_row w' b _ vs.toArray bty (0,0) hb];rw[List.getElem?_take] at hu;split at hu
  ·rw[List.getElem?_drop] at hu;simpa using hu
  ·cases hu)
 rw[hsz] at hl;simp[execOp,h1,Instr.loadAt,Instr.sureAddr,loadVar,jaB hg,jat hs,hl];simp only[List.length_take,List.length_drop] at hsz;exact ji3 (λj hj=>by rw[jbN,cell_of_row w' b _ vs.toArray bty (0,0) hb];simp;omega) (Array.getElem?_eq_some_iff.1 h2).1 (hYr _ hk.mem b rfl)
theorem juN{t b off bty cs d f}(hx:opd env x=some (.p b off))(hk:UpdF Hr (.box b bty cs) f)(hg:tagg P t=some false)(hr:SubL cs off 1 [d]) :
 AR P n Hr ⟨dst,.load t x,ty,pos,after,gd⟩ env H d:=by
 refine⟨λF M w0 a w Y hr' hrest hY hYr=>?_⟩;have h1:=hr'.opdv hx;obtain⟨hm,vs,h2,h3⟩:=hrest.mem hr'.heap hk rfl;obtain⟨c,h4,h5,h6⟩:=h3.get (jnh hr);refine⟨c,h5,λw' hw=>?_⟩;have hb:w'.heap[b]?=some (.cells vs.toArray bty (0,0)):=by rw[hw b (Array.getElem?_eq_some_iff.1 h2).1 hm (hYr _ hk.mem b rfl)];exact h2
 have hc:w'.cell? ⟨b,off,none⟩=some c:=by rw[cell_of_row w' b _ vs.toArray bty (0,0) hb];simpa using h4
 simp[execOp,h1,Instr.loadAt,Instr.sureAddr,loadVar,jaB hg,hc];exact jfJ (Array.getElem?_eq_some_iff.1 h2).1 (hYr _ hk.mem b rfl)
theorem jpT{t e v ety sz l f}(hx:opd env x=some (.v v))(hk:UpdF Hr (.arr v ety sz l) f)(ht:telem P t=some e):AR P n Hr ⟨dst,.call { callee:=.builtin .len,args:=#[x],argTypes:=#[t] },ty,pos,after,gd⟩ env H (.i (l.length:Int)):=by
 refine⟨λF M w0 a w Y hr hrest hY hYr=>?_⟩;have h1:=hr.opdv hx;obtain⟨_,_,xs,hown,_⟩:=(hrest _ hk.mem).2;refine⟨.int .i64 l.length,by simp[Rep],λw' _=>?_⟩;rcases hown.2 with⟨hv,hl⟩ | ⟨g,cap,cur,hv,_⟩
 ·rw[hv] at h1
  simp[execOp,resolve,invoke,builtin,h1,Builtin.len_,run_underlying (jao ht),goInt];exact⟨by omega,Rd.nil⟩
 ·rw[hv] at h1
  simp[execOp,resolve,invoke,builtin,h1,Builtin.len_,run_underlying (jao ht),goInt];exact Rd.nil
theorem RelC.rebase{C X0 M w0 O X a w}(h:RelC C X0 M w0 n env H O X a w):RelC C X (Hb H) w n env H O X a w :=
 ⟨h.rel,h.own,h.dis,h.olt,rfl,rfl,rfl,Nat.le_refl _,λ_ _ _ _=>rfl,λ_ hb=>hb,λ_ hb=>.inl hb,λ_ hb=>.inl hb,λb hb=>h.rel.heap.frb b (.inl hb)⟩
theorem RelC.unbase{C X0 M w0 O X a w env' H' O' X' a' w'}(h:RelC C X0 M w0 n env H O X a w)(k:RelC C X (Hb H) w n env' H' O' X' a' w'):RelC C X0 M w0 n env' H' O' X' a' w':=by
 refine⟨k.rel,k.own,k.dis,k.olt,k.os.trans h.os,k.tape.trans h.tape,k.output.trans h.output,Nat.le_trans h.size k.size,λb hb hM hX=>?_,λb hb=>k.xs b (h.xs b hb),λb hb=>?_,λb hb=>?_,h.c0⟩
 ·rw[k.block b (qA hb h.size) (λhm=>?_) (λhx=>?_)]
  ·exact h.block b hb hM hX
  ·rcases h.mine b hm with h' | h'
   ·exact hM h'
   ·omega
  ·rcases h.xn b hx with h' | h'
   ·exact hX h'
   ·omega
 ·rcases k.xn b hb with h' | h'
  ·exact h.xn b h'
  ·exact .inr (Nat.le_trans h.size h')
 ·rcases k.mine b hb with h' | h'
  ·exact h.mine b h'
  ·exact .inr (Nat.le_trans h.size h')
theorem RelC.gr{C X w env' H' O' X' a' w'}(k:RelC C X (Hb H) w n env' H' O' X' a' w'):Gr H X w H' X' w' :=
 ⟨k.size,k.block,k.mine,k.xs,k.xn⟩
theorem RestC.step{C X X' w w' H'}(h:RestC C X H Hr w)(hd:∀b,C b->¬X b)(hok:HeapOk (λb=>C b\/X b) H w)(k:Gr H X w H' X' w'):RestC C X' H' Hr w':=λo ho=>by
 obtain⟨h1,h2⟩:=h o ho;refine⟨h1,h2.mono (λb hb hO=>⟨λhO'=>?_,k.block b hb (λhm=>hO (.inr hm)) (λhx=>hO (.inl (.inr hx)))⟩) (λb hb=>k.block b (h2.blk_lt hb) (λhm=>hok.disj b hm (.inl (h1 b hb))) (hd b (h1 b hb)))⟩;rcases hO' with(hO' | hO') | hO'
 ·exact hO (.inl (.inl hO'))
 ·rcases k.xn b hO' with h' | h'
  ·exact hO (.inl (.inr h'))
  ·omega
 ·rcases k.mine b hO' with h' | h'
  ·exact hO (.inr h')
  ·omega
theorem RelC.cx{C X0 M w0 O X a w}(h:RelC C X0 M w0 n env H O X a w):∀b,C b->¬X b:=λb hb=>h.dis b (h.own b (.inl hb))
def GuardOk(κ:Kind)(P:Program)(n:Nat)(Hr:Heap)(ops:Array Oper)(fuel:Nat)(listed:Array Bool)(i:Nat)(env:Env)(H:Heap)(K:Env->Heap->Prop):Prop :=
 ∃o,ops[i]?=some o/\Gd ops env o true/\AStep κ P n o env H (λenv' H'=>AAny κ P n Hr ops fuel (listed.setIfInBounds i true) env' H' K)
theorem jnU{ops fuel listed K}{rs:List Nat}(hr:Region.ready .any ops listed=rs)(hne:rs.isEmpty=false)
 (h:∀i∈rs,GuardOk κ P n Hr ops fuel listed i env H K):AAny κ P n Hr ops (fuel+1) listed env H K:=by
 refine⟨λ{main T} fit C X0 M w0 O X a w hrel hrest Q hQ X₁ w₁ hR=>⟨λh0=>?_,λi hi _=>?_⟩⟩
 ·rw[hr] at h0;subst h0;simp at hne
 ·obtain⟨o,ho,hg,hst⟩:=h i (hr ▸ hi)
  have hr1:=hrel.rely hR;have hrest1:RestC C X₁ H Hr w₁:=hrest.step hrel.cx hrel.rel.heap (Gr.rely H X w X₁ w₁ hR);unfold Op1;simp only[ho];rw[qf (hg.wanted hr1.rel)]
  exact(hst.out fit hr1.rebase (λa' O' X' w'=>∃x',Gr H X₁ w₁ x' X' w'/\anyS [] P T .any ops Q Gr fuel (listed.setIfInBounds i true) a' O' X' w' x') (λenv' H' a' O' X' w' hk hr' =>
   ⟨H',hr'.gr,hk.out fit (hr1.unbase hr') (hrest1.step hr1.cx hr1.rel.heap (hr'.gr)) Q hQ⟩)) X₁ w₁ (Fan.Rely.refl _ _)
theorem ju6{ops fuel listed}{K:Env->Heap->Prop}(hr:Region.ready .any ops listed=[])(hk:K env H):AAny κ P n Hr ops fuel listed env H K:=by
 refine⟨λ{main T} fit C X0 M w0 O X a w hrel hrest Q hQ=>?_⟩;cases fuel with
 | zero=>exact λX₁ w₁ hR=>⟨hr,λ_=>hQ _ _ _ _ _ _ hk (hrel.rely hR)⟩
 | succ fuel=>exact λX₁ w₁ hR=>⟨λ_=>hQ _ _ _ _ _ _ hk (hrel.rely hR),λi hi _=>by rw[hr] at hi;cases hi⟩
variable{Q:Exit->Env->Heap->Prop}
theorem RelC.forget{C X0 M w0 O X a w}(h:RelC C X0 M w0 n env H O X a w):RelC C X0 M w0 0 [] H O X nact w :=
 ⟨ji0 h.rel.heap,h.own,h.dis,h.olt,h.os,h.tape,h.output,h.size,h.block,h.xs,h.xn,h.mine,h.c0⟩
theorem juC{id:Nat}{l:List Oper}{Hm}(hmix:P.follows .mixedOrders=true)(hs:Split H Hm Hr)
 (h:AAny κ P n Hr l.toArray l.toArray.size (Array.replicate l.toArray.size false) env Hm (λenv' H'=>Q .normal env' (H'++Hr))):AWp κ P n (.region id l.toArray true) env H Q:=by
 refine⟨λ{main T} fit C X0 M w0 O X a w hr0 b k cs hb hQ=>?_⟩;refine fit.closed.step _ _ _ _ rfl λX₁ w₁ hR=>?_;refine⟨_,_,_,Conc.stepG_region_draw,⟨rfl,rfl,rfl,Nat.le_refl _,λ_ _ _=>rfl,by simp⟩,?_⟩;have hr:RelC C X0 M w0 n env H O X₁ a { w₁ with drawn:=w₁.drawn+1 }:=(hr0.rely hR).rely (Fan.Rely.at X₁ w₁ (w₁.drawn+1));have eg:Fan.grow O w₁.heap.size ({ w₁ with drawn:=w₁.drawn+1 }:World).heap.size=O:=Fan.jbm O _;rw[eg];simp only[Region.schedule,hmix,Bool.true_or,if_true];have hc:=hr.call hs
 have hspE:RelC (λb=>C b\/b∈Hb Hr) X₁ (Hb Hm) { w₁ with drawn:=w₁.drawn+1 } n env Hm O X₁ a { w₁ with drawn:=w₁.drawn+1 }:=by
  refine⟨⟨λi d hi=>?_,hc.rel.heap,Fr.refl _ _,λb hb=>.inl hb,hc.rel.heap.frb,hr.rel.dfr,hr.rel.tsz⟩,hc.own,hc.dis,hc.olt,hc.os,hc.tape,hc.output,hc.size,hc.block,hc.xs,hc.xn,hc.mine,hc.c0⟩;obtain⟨v,h1,h2⟩:=hr.rel.env i d hi;refine⟨v,h1,?_⟩;rw[jd1];exact h2.iff (λb hb=>(hs.own b).1 hb)
 refine jhU (Q:=λa O X w=>T O X (Conc.G (b.at a (.inRegion l.toArray []::k)) cs) w) fit.closed hb (λ_ _=>rfl) (λl i _ h=>by cases h) (λfuel t listed a O X w _ hrd q=>by rw[js3 hrd];exact q) _ _ _ a O X₁ _ Hm (h.out fit hspE (λo ho=>⟨λb hb=>.inr (jaG ho hb),?_⟩) _ (λenv' H' a' O' X' w' hk hr'=>?_))
 ·rw[jd1]
  exact(hr.rel.heap.holds o ((hs.mem o).2 (.inr ho))).iff (λb hb=>(hs.own b).1 hb)
 ·have hbk:=hr.back hs hr'.forget
  refine fit.closed.idle rfl (λw=>Conc.stepG_region_end) (hQ .normal a' w' O' X' env' (H'++Hr) hk ⟨⟨λi d hi=>?_,hbk.rel.heap,hbk.rel.fr,hbk.rel.mine,hbk.rel.f0,hr'.rel.dfr,hr'.rel.tsz⟩,hbk.own,hbk.dis,hbk.olt,hbk.os,hbk.tape,hbk.output,hbk.size,hbk.block,hbk.xs,hbk.xn,hbk.mine,hbk.c0⟩);obtain⟨v,h1,h2⟩:=hr'.rel.env i d hi;rw[jd1] at h2;exact⟨v,h1,h2.iff (λb hb=>(jcM b).1 hb)⟩
end
variable{κ:Kind}
inductive Sel(env:Env):List Nat->Env->Prop
 | nil:Sel env [] []
 | cons {i d is r} (h:look env i=some d) (hr:Sel env is r):Sel env (i::is) ((i,d)::r)
inductive RemAt:Heap->Nat->Ob->Heap->Prop
 | here {o r}:RemAt (o::r) 0 o r
 | there {x r k o r'} (h:RemAt r k o r'):RemAt (x::r) (k+1) o (x::r')
inductive Pk:Heap->List Nat->Heap->Prop
 | nil {H}:Pk H [] []
 | cons {H k ks o H1 r} (h:RemAt H k o H1) (hr:Pk H1 ks r):Pk H (k::ks) (o::r)
section
variable{P:Program}{n:Nat}{env:Env}{H Hr:Heap}{dst:Option Tmp}{ty:TypeId}{pos:String}{after:Array Edge}{gd:Option (Nat × Bool)}{x y z:Operand}
theorem jam{ops fuel listed K d t}(i:Nat){o:Oper}(ho:ops[i]?=some o)(hgd:Gd ops env o true)(hs:Region.noSelect ops=true)(hf:Region.free .any ops listed i=true)(hr:(Region.ready .any ops listed).contains i=true)
 (h:AR P n Hr o env H d) (hd:o.dst=some t) (ht:Nat.blt t n=true) (hk:AAny κ P n Hr ops fuel (listed.setIfInBounds i true) ((t,d)::env) H K):AAny κ P n Hr ops (fuel+1) listed env H K:=by
 refine⟨λ{main T} fit C X0 M w0 O X a w hrel hrest Q hQ=>?_⟩;obtain⟨v,h1,h2⟩:=h.out _ _ _ a w X hrel.rel hrest.rest (λb hb=>.inr hb) (λo ho b hb=>hrel.cx b ((hrest o ho).1 b hb));refine jdQ (v:=v) Gr.refl Gr.rely Gr.trans (by simp) ho (Region.noSelect_spec hs) fuel listed a O X w H (Region.free_spec ho hf) (by simpa using hr) (.inl ⟨hgd.wanted hrel.rel,λX' w' ⟨x',hG⟩=>?_⟩) ?_
 ·obtain⟨k1,k2⟩:=h2 w' hG.block
  exact⟨k1,λe he=>by
   obtain⟨ad,q1,q2,q3⟩:=k2 e he;refine⟨ad,q1,qA q2 hG.size,λhx=>?_⟩;rcases hG.xn _ hx with h' | h'
   ·exact q3 h'
   ·omega⟩
 ·rw[hd]
  exact hk.out fit (hrel.put h1 (by simpa[Nat.blt_eq] using ht)) hrest Q hQ
theorem jss{ops fuel listed K t}(i:Nat){o:Oper}(ho:ops[i]?=some o)(hgd:Gd ops env o false)(hs:Region.noSelect ops=true)(hf:Region.free .any ops listed i=true)(hr:(Region.ready .any ops listed).contains i=true)
 (hd:o.dst=some t) (hl:look env t=none) (hk:AAny κ P n Hr ops fuel (listed.setIfInBounds i true) env H K):AAny κ P n Hr ops (fuel+1) listed env H K:=by
 refine⟨λ{main T} fit C X0 M w0 O X a w hrel hrest Q hQ=>?_⟩;refine jdQ (v:=undef) Gr.refl Gr.rely Gr.trans (by simp) ho (Region.noSelect_spec hs) fuel listed a O X w H (Region.free_spec ho hf) (by simpa using hr) (.inr ⟨hgd.wanted hrel.rel,rfl⟩) ?_;rw[hd];exact hk.out fit (hrel.drop hl _) hrest Q hQ
theorem jtM{ops fuel listed K}(i:Nat){op:Op}(hr:Region.ready .any ops listed=[i])(ho:ops[i]?=some ⟨dst,op,ty,pos,after,gd⟩)(hgd:Gd ops env ⟨dst,op,ty,pos,after,gd⟩ true)
 (h:AOps κ P n ops [⟨dst,op,ty,pos,after,none⟩] env H (λenv' H'=>AAny κ P n Hr ops fuel (listed.setIfInBounds i true) env' H' K)):AAny κ P n Hr ops (fuel+1) listed env H K:=by
 have h':=h.out;unfold AOpsR at h';refine⟨λ{main T} fit C X0 M w0 O X a w hrel hrest Q hQ X₁ w₁ hR=>⟨λh0=>qp (hr.symm.trans h0) (by simp),λj hj _=>?_⟩⟩;obtain rfl:j=i:=by rw[hr] at hj;simpa using hj
 have hr1:=hrel.rely hR;have hrest1:RestC C X₁ H Hr w₁:=hrest.step hrel.cx hrel.rel.heap (Gr.rely H X w X₁ w₁ hR);unfold Op1;simp only[ho];rw[qf (hgd.wanted hr1.rel)]
 exact(h'.out fit hr1.rebase (λa' O' X' w'=>∃x',Gr H X₁ w₁ x' X' w'/\anyS [] P T .any ops Q Gr fuel (listed.setIfInBounds j true) a' O' X' w' x') (λenv' H' a' O' X' w' hk hr' =>
  ⟨H',hr'.gr,(show AAny κ P n Hr ops fuel (listed.setIfInBounds j true) env' H' K from hk).out fit (hr1.unbase hr') (hrest1.step hr1.cx hr1.rel.heap hr'.gr) Q hQ⟩)) X₁ w₁ (Fan.Rely.refl _ _)
theorem jpV{ops fuel listed K}(c:Bool)(h:c=true->AAny κ P n Hr ops fuel listed env H K)(h':c=false->AAny κ P n Hr ops fuel listed env H K):AAny κ P n Hr ops fuel listed env H K:=by
 cases c
 ·exact h' rfl
 ·exact h rfl
theorem jai{ops fuel listed K}{c:Bool}(j:Nat)(hl:((ops[j]?).bind (·.dst)).bind (look env)=some (D.b c))(h:c=true->AAny κ P n Hr ops fuel listed env H K)(h':c=false->AAny κ P n Hr ops fuel listed env H K):AAny κ P n Hr ops fuel listed env H K:=jpV c h h'
theorem jpR{ops fuel listed K}(i j:Nat){dst':Option Tmp}{ty':TypeId}{pos':String}{after':Array Edge}{gd':Option (Nat × Bool)}{op op':Op}(hr:Region.ready .any ops listed=[i,j])
 (ho:ops[i]?=some ⟨dst,op,ty,pos,after,gd⟩) (hgd:Gd ops env ⟨dst,op,ty,pos,after,gd⟩ true) (h:AOps κ P n ops [⟨dst,op,ty,pos,after,none⟩] env H (λenv' H'=>AAny κ P n Hr ops fuel (listed.setIfInBounds i true) env' H' K))
 (ho':ops[j]?=some ⟨dst',op',ty',pos',after',gd'⟩) (hgd':Gd ops env ⟨dst',op',ty',pos',after',gd'⟩ true) (h':AOps κ P n ops [⟨dst',op',ty',pos',after',none⟩] env H (λenv' H'=>AAny κ P n Hr ops fuel (listed.setIfInBounds j true) env' H' K)):AAny κ P n Hr ops (fuel+1) listed env H K:=by
 refine jnU hr rfl λk hk=>?_
 have key:∀(k:Nat){dst:Option Tmp}{ty:TypeId}{pos:String}{after:Array Edge}{gd:Option (Nat × Bool)}{op:Op},ops[k]?=some ⟨dst,op,ty,pos,after,gd⟩->Gd ops env ⟨dst,op,ty,pos,after,gd⟩ true ->
  AOps κ P n ops [⟨dst,op,ty,pos,after,none⟩] env H (λenv' H'=>AAny κ P n Hr ops fuel (listed.setIfInBounds k true) env' H' K)->GuardOk κ P n Hr ops fuel listed k env H K:=by
  intro k dst ty pos after gd op ho hgd h;refine⟨_,ho,hgd,?_⟩;have h':=h.out;unfold AOpsR at h';exact⟨λfit _ _ _ _ _ _ _ _ hr Kc hK=>h'.out fit hr Kc hK⟩
 rcases zf hk with rfl | hk
 ·exact key _ ho hgd h
 ·obtain rfl:k=j:=by simpa using hk
  exact key _ ho' hgd' h'
variable{Q:Exit->Env->Heap->Prop}
theorem jah{α:Type}{c:Code}(live:List Nat){e0}(h0:Heap)(U:α->Env->Env)(V:α->Heap->Heap)(I:α->Prop)(μ:α->Nat)(a0:α)(hs:Sel env live e0)(hI:I a0)(hw:Wk env H (U a0 e0) (V a0 h0))
 (round:∀a,I a->AWp κ P n c (U a e0) (V a h0) (seqQ (λenv' H'=>∃a',I a'/\μ a'<μ a/\Wk env' H' (U a' e0) (V a' h0)) Q)):AWp κ P n (.loop c) env H Q :=
 jgb (λa=>U a e0) (λa=>V a h0) I μ a0 hI hw round
theorem jag{α β:Type}{c:Code}(live:List Nat){e0}(h0:Heap)(U:α->β->Env->Env)(V:α->β->Heap->Heap)(I:α->β->Prop)(μ:α->β->Nat)(a0:α)(b0:β)(hs:Sel env live e0)(hI:I a0 b0)(hw:Wk env H (U a0 b0 e0) (V a0 b0 h0))
 (round:∀a b,I a b->AWp κ P n c (U a b e0) (V a b h0) (seqQ (λenv' H'=>∃a' b',I a' b'/\μ a' b'<μ a b/\Wk env' H' (U a' b' e0) (V a' b' h0)) Q)):AWp κ P n (.loop c) env H Q :=
 jgb (ι:=α × β) (λp=>U p.1 p.2 e0) (λp=>V p.1 p.2 h0) (λp=>I p.1 p.2) (λp=>μ p.1 p.2) (a0,b0) hI hw (λp hp=>jj9 (round p.1 p.2 hp) (λe env' H' hq=>by
  cases e with
  | normal=>obtain⟨⟨a',b',h⟩⟩:=hq;exact⟨⟨(a',b'),h⟩⟩
  | _=>exact⟨hq.out⟩))
theorem jax{α β γ:Type}{c:Code}(live:List Nat){e0}(h0:Heap)(U:α->β->γ->Env->Env)(V:α->β->γ->Heap->Heap)(I:α->β->γ->Prop)(μ:α->β->γ->Nat)(a0:α)(b0:β)(c0:γ)(hs:Sel env live e0)(hI:I a0 b0 c0)(hw:Wk env H (U a0 b0 c0 e0) (V a0 b0 c0 h0))
 (round:∀a b d,I a b d->AWp κ P n c (U a b d e0) (V a b d h0) (seqQ (λenv' H'=>∃a' b' d',I a' b' d'/\μ a' b' d'<μ a b d/\Wk env' H' (U a' b' d' e0) (V a' b' d' h0)) Q)):AWp κ P n (.loop c) env H Q :=
 jgb (ι:=α × β × γ) (λp=>U p.1 p.2.1 p.2.2 e0) (λp=>V p.1 p.2.1 p.2.2 h0) (λp=>I p.1 p.2.1 p.2.2) (λp=>μ p.1 p.2.1 p.2.2) (a0,b0,c0) hI hw (λp hp=>jj9 (round p.1 p.2.1 p.2.2 hp) (λe env' H' hq=>by
  cases e with
  | normal=>obtain⟨⟨a',b',d',h⟩⟩:=hq;exact⟨⟨(a',b',d'),h⟩⟩
  | _=>exact⟨hq.out⟩))
theorem jbq{α β γ δ:Type}{c:Code}(live:List Nat){e0}(h0:Heap)(U:α->β->γ->δ->Env->Env)(V:α->β->γ->δ->Heap->Heap)(I:α->β->γ->δ->Prop)(μ:α->β->γ->δ->Nat)(a0:α)(b0:β)(c0:γ)(d0:δ)(hs:Sel env live e0)(hI:I a0 b0 c0 d0)(hw:Wk env H (U a0 b0 c0 d0 e0) (V a0 b0 c0 d0 h0))
 (round:∀a b d e,I a b d e->AWp κ P n c (U a b d e e0) (V a b d e h0) (seqQ (λenv' H'=>∃a' b' d' e',I a' b' d' e'/\μ a' b' d' e'<μ a b d e/\Wk env' H' (U a' b' d' e' e0) (V a' b' d' e' h0)) Q)):AWp κ P n (.loop c) env H Q :=
 jgb (ι:=α × β × γ × δ) (λp=>U p.1 p.2.1 p.2.2.1 p.2.2.2 e0) (λp=>V p.1 p.2.1 p.2.2.1 p.2.2.2 h0) (λp=>I p.1 p.2.1 p.2.2.1 p.2.2.2) (λp=>μ p.1 p.2.1 p.2.2.1 p.2.2.2) (a0,b0,c0,d0) hI hw (λp hp=>jj9 (round p.1 p.2.1 p.2.2.1 p.2.2.2 hp) (λe env' H' hq=>by
  cases e with
  | normal=>obtain⟨⟨a',b',d',e',h⟩⟩:=hq;exact⟨⟨(a',b',d',e'),h⟩⟩
  | _=>exact⟨hq.out⟩))
abbrev Is(d:D)(H:Heap):D->Heap->Prop:=λd' H'=>d'=d/\H'=H
theorem jlP{ops rest g xs ds Hin H' Hr d K d'}{tys:Array TypeId}(ha:ArgsL env xs ds)(hc:Con κ P g ds Hin (Is d H'))(hs:Split H Hin Hr)(hd:dst=some d')(hn:Nat.blt d' n=true)
 (hk:AOps κ P n ops rest ((d',d)::env) (H'++Hr) K):AOps κ P n ops (⟨dst,.call { callee:=.value (.func g),args:=xs.toArray,argTypes:=tys },ty,pos,after,none⟩::rest) env H K :=
 jas ha hc hs hd hn (λd H' ⟨h1,h2⟩=>by subst h1;subst h2;exact hk)
theorem jaa{ops rest g xs ds d K d'}{tys:Array TypeId}(ha:ArgsL env xs ds)(hc:Con κ P g ds [] (Is d []))(hd:dst=some d')(hn:Nat.blt d' n=true)
 (hk:AOps κ P n ops rest ((d',d)::env) H K):AOps κ P n ops (⟨dst,.call { callee:=.value (.func g),args:=xs.toArray,argTypes:=tys },ty,pos,after,none⟩::rest) env H K :=
 jas ha hc (Split.none H) hd hn (λd H' ⟨h1,h2⟩=>by subst h1;subst h2;exact hk)
theorem jlC{ops rest g xs ds d K d'}{c:Operand}{tys:Array TypeId}(hf:opd env c=some (.v (.func (.func g) #[] caps.toArray)))(ha:ArgsL env xs ds)(hc:Con κ P g (ds++caps.map .v) [] (Is d []))(hd:dst=some d')(hn:Nat.blt d' n=true)
 (hk:AOps κ P n ops rest ((d',d)::env) H K):AOps κ P n ops (⟨dst,.call { callee:=.value c,args:=xs.toArray,argTypes:=tys },ty,pos,after,none⟩::rest) env H K :=
 jfC hf ha hc (Split.none H) hd hn (λd H' ⟨h1,h2⟩=>by subst h1;subst h2;exact hk)
theorem jaq{rs:List ResultVar}{d:D}{K:Heap}{ds}(h:ResL P env H rs ds)(hk:Keep H K)(hd:resD ds=d):Post P rs (Is d K) .ret env H:=jaS h hk ⟨hd,rfl⟩
theorem Con.is{f args d d'}{H H'}(h:Con κ P f args H (Is d H'))(e:d=d'):Con κ P f args H (Is d' H'):=e ▸ h
theorem jtw{t:TypeId}(hu:P.underlying t=some .bool)(p q:Bool)(w:World):(Op.equal t (.bool p) (.bool q)).run P w=.ok (p == q) w:=by
 have h:∀d,(Op.equalIn (d+1) t (.bool p) (.bool q)).run P w=.ok (p == q) w:=λd=>by
  simp only[Op.equalIn,Sem.run_bind,run_underlying hu,Result.andThen_ok,Sem.run_pure]
 exact h 9999
theorem jid{t:TypeId}(hu:P.underlying t=some .bool)(p q:Bool)(w:World)(es:Array Event):(Op.equal t (.bool p) (.bool q)).events P w es=es:=by
 have h:∀d,(Op.equalIn (d+1) t (.bool p) (.bool q)).events P w es=es:=λd=>by
  simp only[Op.equalIn,Sem.events_bind,run_underlying hu,events_underlying,Result.evThen_ok,Sem.events_pure]
 exact h 9999
theorem jzs{t u}{p q:Bool}(hx:opd env x=some (.b p))(hy:opd env y=some (.b q))(hu:P.underlying t=some .bool):AP P n ⟨dst,.binOp .eql t x y u,ty,pos,after,gd⟩ env H (.b (p == q)):=by
 refine⟨λF M w0 a w hr=>?_⟩;have h1:=hr.opdv hx;have h2:=hr.opdv hy;refine⟨.bool (p == q),by simp[Rep],λw'=>?_⟩;simp[execOp,h1,h2,eqGuard,binOp,jtw hu,jid hu]
theorem jy0{t u}{p q:Bool}(hx:opd env x=some (.b p))(hy:opd env y=some (.b q))(hu:P.underlying t=some .bool):AP P n ⟨dst,.binOp .neq t x y u,ty,pos,after,gd⟩ env H (.b (p != q)):=by
 refine⟨λF M w0 a w hr=>?_⟩;have h1:=hr.opdv hx;have h2:=hr.opdv hy;refine⟨.bool (p != q),by simp[Rep],λw'=>?_⟩;simp[execOp,h1,h2,eqGuard,binOp,jtw hu,jid hu];cases p<;>cases q<;>rfl
theorem jr5{ops o rest t sz l K}(hg:o.guard=none)(hx:look env t=some (.sl sz l))(h:l.length<=capB->AOps κ P n ops (o::rest) env H K):AOps κ P n ops (o::rest) env H K:=by
 refine⟨?_⟩;unfold AOpsR;rw[hg];refine⟨λfit _ _ _ _ _ _ _ _ hr Kc hK=>?_⟩;have h1:=hr.rel.eval hx;simp only[Rep] at h1;have h2:=(h h1.1).out;unfold AOpsR at h2;rw[hg] at h2;exact h2.out fit hr Kc hK
theorem jfX{c:Code}{v e sz l f}(hk:UpdF H (.arr v e sz l) f)(hl:l≠[])(h:∀g cap,v=.slice (some ⟨g,0,none⟩) l.length cap->AWp κ P n c env H Q):AWp κ P n c env H Q:=by
 refine⟨λfit _ _ _ _ _ _ _ _ hr _ _ _ hb hQ=>?_⟩;obtain⟨_,_,xs,hown,_⟩:=hr.rel.heap.holds _ hk.mem;rcases hown.2 with⟨_,h2⟩ | ⟨g,cap,cur,h2,_⟩
 ·exact qp (List.eq_nil_of_length_eq_zero h2) hl
 ·exact(h g cap h2).out fit hr hb hQ
theorem RepE.set1{w:World}{O:Nat->Prop}:∀{l:List D}{cs:List Value}{k:Nat}{d:D}{c:Value},RepE w O 1 l cs->Rep w O d c->c.cells=#[c]->c.oneCell'=true->RepE w O 1 (l.set k d) (cs.set k c)
 | [],cs,k,d,c,h,_,_,_=>by simp only[RepE] at h;subst h;simp[RepE]
 | e::r,cs,k,d,c,h,hd,hc,h1=>by
  simp only[RepE] at h;obtain⟨c',cr,rfl,h2,h3,h4,h5⟩:=h;have hl:c'.cells.toList.length=1:=by simpa using h2
  obtain⟨q,hq⟩:∃q,c'.cells.toList=[q]:=by
   match hcl:c'.cells.toList,hl with
   | [q],_=>exact⟨q,rfl⟩
  cases k with
  | zero =>
   simp only[List.set_cons_zero,RepE];refine⟨c,cr,by simp[hq,hc],by simp[hc],by simp[hc,h1],hd,h5⟩
  | succ k =>
   simp only[List.set_cons_succ,RepE];refine⟨c',cr.set k c,by simp[hq],h2,h3,h4,RepE.set1 h5 hd hc h1⟩
theorem jgU{ops rest t g k len cap ety l d f K}(hx:opd env x=some (.p g (k * 1)))(hy:opd env y=some d)(hsc:Scal d)(hk:UpdF H (.arr (.slice (some ⟨g,0,none⟩) len cap) ety 1 l) f)(hs:tsize P t=some 1)(hkl:k<l.length)
 (h:AOps κ P n ops rest env (f (.arr (.slice (some ⟨g,0,none⟩) len cap) ety 1 (l.set k d))) K):AOps κ P n ops (⟨none,.store t x y,ty,pos,after,none⟩::rest) env H K:=by
 refine jaH rfl (.of_op ⟨λF M w0 a w hr Kc hK=>?_,λF M w0 a w hr=>?_⟩);have h1:=hr.opdv hx;have h2:=hr.opd hy;have hc:=hsc.cells h2
 have h1c:(a.eval y).oneCell'=true:=by
  cases hsc with
  | v hv=>simp only[Rep] at h2;rw[h2];exact hv
  | sl=>simp only[Rep] at h2;obtain⟨_,cs,_,⟨a',cap',h,_⟩ | ⟨h,_⟩⟩:=h2<;>rw[h]<;>rfl
 obtain⟨kk,hk1,hk2⟩:=hk.set;obtain⟨hsz,hlb,xs,hown,hE⟩:=hr.heap.holds _ hk.mem;rcases hown.2 with⟨hv,_⟩ | ⟨g',cap',cur,hv,h3,h4,h5,h6,h7,h8⟩
 ·cases hv
 ·simp only[Value.slice.injEq,qs,Addr.mk.injEq] at hv
  obtain⟨⟨rfl,_,_⟩,rfl,rfl⟩:=hv;have hlen:=hE.len;have hxl:k<cur.size:=by omega
  have hrun:=run_storeCells_at P g (k * 1) ety [a.eval y] 0 cur w h4 (by simp;omega) (by simpa using h1c);simp only[Nat.add_zero,Nat.mul_one] at hrun
  have hr1:=hr.upd (o':=.arr (.slice (some ⟨g,0,none⟩) l.length cap) ety 1 (l.set k d)) hk1 (Fr.setRow w g (cur.toList.take k++[a.eval y]++cur.toList.drop (k+[a.eval y].length)).toArray)
   (λO' hO=>by
     have hm:∀bb,bb<w.heap.size->¬Own F H bb->¬O' bb/\(w.setRow g (cur.toList.take k++[a.eval y]++cur.toList.drop (k+[a.eval y].length)).toArray).heap[bb]?=w.heap[bb]?:=λbb hb hb' =>
      ⟨hO bb hb hb',setRow_other w g bb _ (λe=>hb' (.inr (jaG hk.mem (by simp[Ob.blk,Value.ownBlock,e]))))⟩
     have hset:cur.toList.take k++[a.eval y]++cur.toList.drop (k+[a.eval y].length)=cur.toList.set k (a.eval y):=by
      rw[List.set_eq_take_append_cons_drop,qf (by simpa using hxl)];simp
     refine⟨hsz,by simpa using hlb,xs.set k (a.eval y),⟨by simpa using hown.1,.inr ⟨g,cap,_,by simp,Nat.zero_le _,setRow_heap w g cur _ ety _ h4,by simpa using h5,h6,?_,?_⟩⟩,RepE.set1 (RepE.mono hm _ _ _ hE) (Rep.mono hm _ _ h2) hc h1c⟩
     ·rw[hset];simpa using h7
     ·rw[hset,<-h8]
      simp only[List.toList_toArray,List.length_set,Nat.mul_one]
      rw[List.take_set])
   (.inl rfl)
  unfold wpv;simp only[execOp,h1,Instr.storeAt,Instr.sureAddr,storeVar,Sem.run_bind,Sem.run_pure,Result.andThen_ok,jat hs,hc];simp only[Nat.mul_one,List.size_toArray,qi,qu,Nat.zero_add,ne_eq,not_true_eq_false,if_false,hrun,Sem.run_pure,Result.andThen_ok,jjo,Sem.run_ite,Sem.run_bind,List.toList_toArray];have:=hK env (f (.arr (.slice (some ⟨g,0,none⟩) l.length cap) ety 1 (l.set k d))) (a.put none undef) _ h (by rw[hk2];exact hr1);exact this
 have h1:=hr.opdv hx;have h2:=hr.opd hy;have hc:=hsc.cells h2
 have h1c:(a.eval y).oneCell'=true:=by
  cases hsc with
  | v hv=>simp only[Rep] at h2;rw[h2];exact hv
  | sl=>simp only[Rep] at h2;obtain⟨_,cs,_,⟨a',cap',h,_⟩ | ⟨h,_⟩⟩:=h2<;>rw[h]<;>rfl
 obtain⟨hsz,hlb,xs,hown,hE⟩:=hr.heap.holds _ hk.mem;rcases hown.2 with⟨hv,_⟩ | ⟨g',cap',cur,hv,h3,h4,h5,h6,h7,h8⟩
 ·cases hv
 ·simp only[Value.slice.injEq,qs,Addr.mk.injEq] at hv
  obtain⟨⟨rfl,_,_⟩,rfl,rfl⟩:=hv
  have hxl:k<cur.size:=by
   have hlen:=hE.len;omega
  refine jjS (jaG hk.mem rfl) hr.heap λe he=>?_;simp only[execOp,h1,Instr.storeAt,Instr.sureAddr,storeVar,Sem.events_bind,Sem.run_bind,Sem.events_pure,Sem.run_pure,Result.andThen_ok,Result.evThen_ok,jat hs,events_sizeOf,hc] at he;simp only[List.size_toArray,qi,qu,Nat.zero_add,ne_eq,not_true_eq_false,if_false,List.toList_toArray,Sem.run_ite,Sem.events_ite] at he;have hrun:=run_storeCells_at P g (k * 1) ety [a.eval y] 0 cur w h4 (by simp;omega) (by simpa using h1c);simp only[Nat.add_zero] at hrun;simp only[hrun,Result.evThen_ok,Sem.events_pure,Sem.run_pure,Result.andThen_ok,Sem.events_bind] at he;rcases jdo [a.eval y] 0 cur w #[] h4 (by simp;omega) (by simpa using h1c) e he with h | ⟨a',rfl,hb⟩
  ·simp at h
  ·exact⟨a',rfl,hb⟩
end
theorem jab{α:Type}{l:List α}{k:Nat}(h:k<l.length):∃x,l[k]?=some x/\l.drop k=x::l.drop (k+1) :=
 ⟨l[k],ze h,List.drop_eq_getElem_cons h⟩
theorem jae{α:Type}{l:List α}{k:Nat}(h:l.length<=k):l.drop k=[]:=List.drop_eq_nil_of_le h
theorem jad{α β:Type}{l:List α}{k:Nat}{x:α}(f:α->β)(h:l[k]?=some x):(l.map f)[k]?=some (f x):=by simp[h]
variable{κ:Kind}
inductive SelC(v:Value)(sz:Nat)(l:List D)(env:Env):List Nat->Env->Prop
 | nil:SelC v sz l env [] []
 | cons {i d d' is r} (h:look env i=some d) (hc:Cv v sz l d d') (hr:SelC v sz l env is r):SelC v sz l env (i::is) ((i,d')::r)
theorem SelC.sub{v sz l env is r}(h:SelC v sz l env is r):SubC v sz l env r:=by
 induction h with
 | nil=>exact .nil
 | cons h hc hr ih=>exact .cons h hc ih
inductive HeapA(v:Value)(sz:Nat)(l:List D):Heap->Heap->Prop
 | nil:HeapA v sz l [] []
 | box {b ty cs cs' H1 r} (hc:CvL v sz l cs cs') (hr:HeapA v sz l H1 r):HeapA v sz l (.box b ty cs::H1) (.box b ty cs'::r)
 | arr {u ety s cs H1 r} (hr:HeapA v sz l H1 r):HeapA v sz l (.arr u ety s cs::H1) (.arr u ety s cs::r)
theorem HeapA.heapC{v sz l H H'}(h:HeapA v sz l H H'):HeapC v sz l H H':=by
 induction h with
 | nil=>exact .nil
 | box hc hr ih=>exact .box .here hc ih
 | arr hr ih=>exact .arr .here rfl CvE.same ih
section
variable{P:Program}{n:Nat}{env:Env}{H Hr:Heap}{dst:Option Tmp}{ty:TypeId}{pos:String}{after:Array Edge}{gd:Option (Nat × Bool)}{x y z:Operand}
variable{Q:Exit->Env->Heap->Prop}
theorem jpn{c:Code}(v:Value)(live:List Nat){ety sz l H1 H' env'}(hk:Rem H (.arr v ety sz l) H1)(he:SelC v sz l env live env')(hh:HeapA v sz l H1 H')(h:AWp κ P n c env' H' Q):AWp κ P n c env H Q :=
 jod (jeP hk he.sub hh.heapC) h
theorem jhq{c:Code}(e sz:Nat)(hsz:Nat.blt 0 sz=true)(h:AWp κ P n c env (.arr (.slice none 0 0) e sz []::H) Q):AWp κ P n c env H Q :=
 jod (jaF e sz hsz) h
theorem jlI{t g k len cap ety l d f}(hx:opd env x=some (.p g (k * 1)))(hk:UpdF Hr (.arr (.slice (some ⟨g,0,none⟩) len cap) ety 1 l) f)(hg:tagg P t=some false)(hd:l[k]?=some d)(hsc:Scal d) :
 AR P n Hr ⟨dst,.load t x,ty,pos,after,gd⟩ env H d:=by
 refine⟨λF M w0 a w Y hr' hrest hY hYr=>?_⟩;have h1:=hr'.opdv hx;obtain⟨hm,_,_,xs,hown,hE⟩:=hrest.mem hr'.heap hk rfl;obtain⟨c,g1,g2,g3,g4⟩:=hE.get hd;rcases hown.2 with⟨hv,_⟩ | ⟨g',cap',cur,hv,h3,h4,h5,h6,h7,h8⟩
 ·cases hv
 ·simp only[Value.slice.injEq,qs,Addr.mk.injEq] at hv
  obtain⟨⟨rfl,_,_⟩,_,_⟩:=hv;refine⟨c,g3,λw' hw=>?_⟩;have hb:w'.heap[g]?=some (.cells cur ety (0,0)):=by rw[hw g (Array.getElem?_eq_some_iff.1 h4).1 hm (hYr _ hk.mem g rfl)];exact h4
  have hx2:=g4 0 c (by rw[hsc.cells g3];rfl);rw[<-h8,List.getElem?_take] at hx2;split at hx2
  ·have hc:w'.cell? ⟨g,k * 1,none⟩=some c:=by rw[cell_of_row w' g _ cur ety (0,0) hb];simpa using hx2
   simp[execOp,h1,Instr.loadAt,Instr.sureAddr,loadVar,jaB hg];simp only[Nat.mul_one] at hc;simp[hc];exact jfJ (Array.getElem?_eq_some_iff.1 h4).1 (hYr _ hk.mem g rfl)
  ·cases hx2
end
variable{κ:Kind}
section
variable{P:Program}{n:Nat}{env env':Env}{H H':Heap}{K:Env->Heap->Prop}
theorem jrY{o rest}(hg:o.guard=none)(hw:Wk env H env' H')(h:AOps κ P n ops (o::rest) env' H' K):AOps κ P n ops (o::rest) env H K:=by
 have h1:=h.out;unfold AOpsR at h1;rw[hg] at h1;exact jaH hg ⟨λfit _ _ _ _ _ _ _ _ hr Kc hK=>h1.out fit (hr.wk hw) Kc (λe1 H1 a' O' X' w' k r=>hK e1 H1 a' O' X' w' ⟨k⟩ r)⟩
theorem jau{o rest}(live:List Nat)(sz:Nat)(hsz:Nat.blt 0 sz=true)(hg:o.guard=none)(he:SelC (.slice none 0 0) sz [] env live env')(hh:HeapA (.slice none 0 0) sz [] H H')(h:AOps κ P n ops (o::rest) env' H' K):AOps κ P n ops (o::rest) env H K :=
 jrY hg (jaF 0 sz hsz) (jrY hg (jeP .here he.sub hh.heapC) h)
theorem jak{c:Code}{Q}(live:List Nat)(sz:Nat)(hsz:Nat.blt 0 sz=true)(he:SelC (.slice none 0 0) sz [] env live env')(hh:HeapA (.slice none 0 0) sz [] H H')(h:AWp κ P n c env' H' Q):AWp κ P n c env H Q :=
 jod (jaF 0 sz hsz) (jod (jeP .here he.sub hh.heapC) h)
theorem jbE{ty:TypeId}{pos:String}{after:Array Edge}{rest g xs ds d'}{v:Bool}{tys:Array TypeId}(ha:ArgsL env xs ds)(hc:Con κ P g ds [] (Is (.b v) []))(hd:dst=some d')(hn:Nat.blt d' n=true)
 (hk:∀c:Bool,v=c->AOps κ P n ops rest ((d',.b c)::env) H K):AOps κ P n ops (⟨dst,.call { callee:=.value (.func g),args:=xs.toArray,argTypes:=tys },ty,pos,after,none⟩::rest) env H K :=
 jaa ha hc hd hn (hk v rfl)
section
variable{dst:Option Tmp}{ty:TypeId}{pos:String}{after:Array Edge}{gd:Option (Nat × Bool)}{x y:Operand}
theorem jrv{p q t u}(hx:opd env x=some (.i p))(hy:opd env y=some (.i q))(h:0<=p/\p<=9223372036854775807/\0<q):AP P n ⟨dst,.binOp .quo t x y u,ty,pos,after,gd⟩ env H (.i (p / q)):=by
 have h1:=jv5 (P:=P) (n:=n) (H:=H) (dst:=dst) (ty:=ty) (pos:=pos) (after:=after) (gd:=gd) (t:=t) (u:=u) hx hy zo;have e:p.tdiv q=p / q:=Int.tdiv_eq_ediv_of_nonneg h.1;have e2:p / q<=p:=Int.ediv_le_self q h.1;have e3:0<=p / q:=Int.ediv_nonneg h.1 zo;rw[e,jfE zo zo] at h1;exact h1
theorem jyl{p q t u}(hx:opd env x=some (.i p))(hy:opd env y=some (.i q))(h:0<=p/\0<q):AP P n ⟨dst,.binOp .rem t x y u,ty,pos,after,gd⟩ env H (.i (p % q)):=by
 have h1:=jv2 (P:=P) (n:=n) (H:=H) (dst:=dst) (ty:=ty) (pos:=pos) (after:=after) (gd:=gd) (t:=t) (u:=u) hx hy zo;have e:p.tmod q=p % q:=Int.tmod_eq_emod_of_nonneg h.1;rw[e] at h1;exact h1
end
section
variable{Hr:Heap}{o:Oper}
theorem cho{ops fuel listed}{k:Nat}{ty:TypeId}{gd:Option (Nat × Bool)}{op:Op}(ho:ops[k]?=some ⟨dst,op,ty,pos,after,gd⟩)(hgd:Gd ops env ⟨dst,op,ty,pos,after,gd⟩ true)
 (h:AOps κ P n ops [⟨dst,op,ty,pos,after,none⟩] env H (λenv' H'=>AAny κ P n Hr ops fuel (listed.setIfInBounds k true) env' H' K)):GuardOk κ P n Hr ops fuel listed k env H K:=by
 refine⟨_,ho,hgd,?_⟩;have h':=h.out;unfold AOpsR at h';exact⟨λfit _ _ _ _ _ _ _ _ hr Kc hK=>h'.out fit hr Kc hK⟩
theorem jdS{ops fuel listed}(i j k:Nat)(hr:Region.ready .any ops listed=[i,j,k])(h1:GuardOk κ P n Hr ops fuel listed i env H K)(h2:GuardOk κ P n Hr ops fuel listed j env H K)(h3:GuardOk κ P n Hr ops fuel listed k env H K):AAny κ P n Hr ops (fuel+1) listed env H K:=by
 refine jnU hr rfl λm hm=>?_;rcases zf hm with rfl | hm
 ·exact h1
 rcases zf hm with rfl | hm
 ·exact h2
 obtain rfl:m=k:=by simpa using hm
 exact h3
end
end
open Go Go.RowKit
theorem jeK(w:World)(O:Nat->Prop):∀l:List Int,RepE w O 1 (l.map .i) (l.map (.int .i64))
 | []=>by simp[RepE]
 | z::r=>by
  simp only[List.map_cons,RepE];exact⟨.int .i64 z,_,by simp[Value.cells],by simp[Value.cells],by simp[Value.cells,Value.oneCell'],by simp[Rep],jeK w O r⟩
variable{κ:Kind}
section
variable{P:Program}{n:Nat}{env:Env}{H:Heap}{dst:Option Tmp}{ty:TypeId}{pos:String}{after:Array Edge}{gd:Option (Nat × Bool)}{x y:Operand}
theorem jf2{s t k0 k p u}(hx:opd env x=some (.v (.int k0 p)))(hs:P.underlying s=some u)(ht:P.underlying t=some (.int k)):AP P n ⟨dst,.convert s t x,ty,pos,after,gd⟩ env H (.v (.int k (k.wrap p))):=by
 refine⟨λF M w0 a w hr=>?_⟩;have h1:=hr.opdv hx;refine⟨.int k (k.wrap p),by simp[Rep],λw'=>?_⟩;simp[execOp,h1,convert,run_underlying hs,run_underlying ht,Conv.intToInt]
theorem jjH{k p yk t u}(hx:opd env x=some (.v (.int k p)))(hy:opd env y=some (.v (.int yk (m:Int))))(hm:Nat.ble m k.bits=true):AP P n ⟨dst,.binOp .shl t x y u,ty,pos,after,gd⟩ env H (.v (.int k (k.wrap (p * 2^m)))):=by
 refine⟨λF M w0 a w hr=>?_⟩;have h1:=hr.opdv hx;have h2:=hr.opdv hy;refine⟨.int k (k.wrap (p * 2^m)),by simp[Rep],λw'=>?_⟩;have hm':min m k.bits=m:=Nat.min_eq_left (Nat.le_of_ble_eq_true hm);have h0:¬((m:Int)<0):=by omega
 simp[execOp,h1,h2,eqGuard,binOp,Op.shift,hm',h0]
theorem jjT{k p yk t u}(hx:opd env x=some (.v (.int k p)))(hy:opd env y=some (.v (.int yk (m:Int))))(hm:Nat.ble m k.bits=true):AP P n ⟨dst,.binOp .shr t x y u,ty,pos,after,gd⟩ env H (.v (.int k (p.fdiv (2^m)))):=by
 refine⟨λF M w0 a w hr=>?_⟩;have h1:=hr.opdv hx;have h2:=hr.opdv hy;refine⟨.int k (p.fdiv (2^m)),by simp[Rep],λw'=>?_⟩;have hm':min m k.bits=m:=Nat.min_eq_left (Nat.le_of_ble_eq_true hm);have h0:¬((m:Int)<0):=by omega
 simp[execOp,h1,h2,eqGuard,binOp,Op.shift,hm',h0]
theorem jxr{k p q t u}(hx:opd env x=some (.v (.int k p)))(hy:opd env y=some (.v (.int k q))):AP P n ⟨dst,.binOp .xor t x y u,ty,pos,after,gd⟩ env H (.v (.int k (k.wrap ((BitVec.ofInt k.bits p ^^^ BitVec.ofInt k.bits q).toNat:Int)))):=by
 refine⟨λF M w0 a w hr=>?_⟩;have h1:=hr.opdv hx;have h2:=hr.opdv hy;refine⟨.int k (k.wrap ((BitVec.ofInt k.bits p ^^^ BitVec.ofInt k.bits q).toNat:Int)),by simp[Rep],λw'=>?_⟩;simp[execOp,h1,h2,eqGuard,binOp,Op.intBits]
end
section
variable{P:Program}{n:Nat}{env:Env}{H:Heap}{K:Env->Heap->Prop}
theorem jdg{ty:TypeId}{pos:String}{after:Array Edge}{rest g xs ds d'}{v:Bool}{c:Operand}{tys:Array TypeId}(hf:opd env c=some (.v (.func (.func g) #[] caps.toArray)))(ha:ArgsL env xs ds)(hc:Con κ P g (ds++caps.map .v) [] (Is (.b v) []))(hd:dst=some d')(hn:Nat.blt d' n=true)
 (h:∀c':Bool,v=c'->AOps κ P n ops rest ((d',.b c')::env) H K):AOps κ P n ops (⟨dst,.call { callee:=.value c,args:=xs.toArray,argTypes:=tys },ty,pos,after,none⟩::rest) env H K :=
 jlC hf ha hc hd hn (h v rfl)
theorem jp2{Hr:Heap}{ops fuel listed t}(i:Nat){o:Oper}(ho:ops[i]?=some o)(hgd:Gd ops env o false)(hs:Region.noSelect ops=true)(hf:Region.free .any ops listed i=true)(hr:(Region.ready .any ops listed).contains i=true)
 (hd:o.dst=some t) (ht:Nat.blt t n=true) (hk:AAny κ P n Hr ops fuel (listed.setIfInBounds i true) ((t,.v undef)::env) H K):AAny κ P n Hr ops (fuel+1) listed env H K:=by
 refine⟨λ{main T} fit C X0 M w0 O X a w hrel hrest Q hQ=>?_⟩;refine jdQ (v:=undef) Gr.refl Gr.rely Gr.trans (by simp) ho (Region.noSelect_spec hs) fuel listed a O X w H (Region.free_spec ho hf) (by simpa using hr) (.inr ⟨hgd.wanted hrel.rel,rfl⟩) ?_;rw[hd];exact hk.out fit (hrel.put (by simp[Rep]) (by simpa[Nat.blt_eq] using ht)) hrest Q hQ
end
open Go Go.RowKit Go.ChangeShapes
variable{κ:Kind}
abbrev Nob:Nat->Prop:=Own (λ_=>False) []
theorem nob{b:Nat}:¬Nob b:=by simp[Own,Hb]
structure OpN(P:Program)(w:World)(t:TypeId)(n:Nat)(A:Type)(toC:A->List D):Prop where
 out:∀{H:Type}(enc:TypeId × Value->H)(cs:List Value)(x:DataW H × List MemPlace),DataW.trod enc P w 0 (λ_=>true) true n t cs=some x ->
  (∀k∈x.1.weights P t,k<=reachBytes)->∃a,RepL w Nob (toC a) cs
section
variable{P:Program}{w:World}{n:Nat}
theorem jzv{t:TypeId}(ht:P.underlying t=some (.int .i64)):OpN P w t n Int (λz=>[.i z]):=by
 refine⟨λenc cs x h _=>?_⟩;obtain⟨z,rfl,_,_⟩:=DataW.trod_int ht h;exact⟨z,by simp only[RepL,Rep];exact⟨_,_,rfl,rfl,rfl,rfl⟩⟩
def totalOf(P:Program):List Field->Nat
 | []=>0
 | f::r=>P.cellsOf f.type+totalOf P r
structure OpF(P:Program)(w:World)(fs:List Field)(off n:Nat)(A:Type)(toC:A->List D):Prop where
 out:∀{H:Type}(enc:TypeId × Value->H)(cs:List Value)(xs:List (DataW H × List MemPlace)),xs.length=fs.length ->
  (∀(i:Nat)(f:Field),fs[i]?=some f->DataW.trod enc P w 0 (λ_=>true) true n f.type ((cs.drop f.offset).take (P.cellsOf f.type))=xs[i]?) ->
  (∀k∈DataW.weightsEach P (fs.map (·.type)) (xs.map (·.1)),k<=reachBytes)->∃a,RepL w Nob (toC a) ((cs.drop off).take (totalOf P fs))
theorem jq0{A:Type}{Q:Nat->A->Prop}:∀(m:Nat),(∀i,i<m->∃a,Q i a)->∃l:List A,l.length=m/\∀i a,l[i]?=some a->Q i a
 | 0,_=>⟨[],rfl,λi a h=>by simp at h⟩
 | m+1,h=>by
  obtain⟨l,hl,hq⟩:=jq0 m (λi hi=>h i zo);obtain⟨a,ha⟩:=h m zo;refine⟨l++[a],by simp[hl],λi b hb=>?_⟩;rcases Nat.lt_or_ge i m with hi | hi
  ·rw[List.getElem?_append_left zo] at hb
   exact hq i b hb
  ·rw[List.getElem?_append_right zo,hl] at hb
   have:i - m=0:=by
    rcases Nat.eq_zero_or_pos (i - m) with h0 | h0
    ·exact h0
    ·rw[List.getElem?_eq_none (by simp;omega)] at hb;cases hb
   rw[this] at hb;simp only[List.getElem?_cons_zero,qs] at hb;subst hb;obtain rfl:i=m:=by omega
   exact ha
theorem joR{A:Type}{toC:A->List D}{mk:A->D}{sz:Nat}(hmk:∀a cs,RepL w Nob (toC a) cs->∃c:Value,c.cells.toList=cs/\Rep w Nob (mk a) c){x:Addr} :
 ∀(l:List A)(k:Nat),(∀i a,l[i]?=some a->∃cs,w.cells? 0 (x.add ((k+i) * sz)) sz=some cs/\RepL w Nob (toC a) cs) ->
  ∃cs,RepE w Nob sz (l.map mk) cs/\∀j c,cs[j]?=some c->w.cell? (x.add (k * sz+j))=some c
 | [],k,_=>⟨[],by simp[RepE],λj c h=>by simp at h⟩
 | a::r,k,h=>by
  obtain⟨cs0,h0,h1⟩:=h 0 a rfl;obtain⟨cr,h2,h3⟩:=joR hmk r (k+1) (λi b hb=>by rw[show k+1+i=k+(i+1) from by omega];exact h (i+1) b (by simpa using hb));obtain⟨c,hc1,hc2⟩:=hmk a cs0 h1;obtain⟨_,hlen,hcell⟩:=World.cells?_some h0;refine⟨c.cells.toList++cr,?_,λj d hj=>?_⟩
  ·simp only[List.map_cons,RepE]
   exact⟨c,cr,rfl,by rw[<-hlen,<-hc1];simp,by rw[hc1];exact h1.one,hc2,h2⟩
  ·rw[hc1] at hj
   rcases Nat.lt_or_ge j sz with hjs | hjs
   ·rw[List.getElem?_append_left zo] at hj
    have:=hcell j hjs;rw[hj,Nat.add_zero] at this;rw[<-this]
    congr 1
    by_cases e:k * sz=0
    ·simp[Addr.add,e]
    ·by_cases e':j=0
     ·subst e';simp[Addr.add]
     ·have e2:¬(k * sz+j=0):=by omega
      simp only[Addr.add,e,e',e2,if_false];simp[Nat.add_assoc]
   ·rw[List.getElem?_append_right zo,hlen] at hj
    have:=h3 (j - sz) d hj;rw[<-this]
    congr 2
    rw[Nat.add_mul,Nat.one_mul];omega
theorem jsD:reachBytes<=capB:=by decide
theorem jvI{t e:TypeId}{sz:Nat}{A:Type}{toC:A->List D}{mk:A->D}(ht:P.underlying t=some (.slice e))(hc:P.cellsOf e=sz)(hsz:0<sz)(hb:1<=P.bytesOf e)
 (hmk:∀a cs,RepL w Nob (toC a) cs->∃c:Value,c.cells.toList=cs/\Rep w Nob (mk a) c) (h:∀m,m+1=n->OpN P w e m A toC):OpN P w t n (List A) (λl=>[.sl sz (l.map mk)]):=by
 refine⟨λenc cs x hx hw=>?_⟩;rcases DataW.trod_slice ht hx with⟨rfl,rfl⟩ | ⟨a,len,cap,elems,rest,m,rfl,rfl,rfl,h0,hl,hm,hlen,hel,hsp,hns⟩
 ·refine⟨[],?_⟩
  simp only[RepL,Rep,List.map_nil];exact⟨_,_,rfl,⟨by simp[capB],[],by simp[RepE],.inr ⟨rfl,trivial⟩⟩,by simp[Value.oneCell'],rfl⟩
 ·have hwl:len<=capB:=by
   have h1:=hw ((elems.length+rest.length) * P.bytesOf e) (by simp[DataW.weights,ht]);have h2:elems.length+rest.length<=(elems.length+rest.length) * P.bytesOf e:=Nat.le_mul_of_pos_right _ hb;have:=jsD;omega
  have hwe:∀y∈elems,∀k∈y.1.weights P e,k<=reachBytes:=by
   intro y hy k hk;refine hw k ?_;simp only[DataW.weights,ht,List.mem_cons,List.mem_append];refine .inr (.inl ?_)
   have:∀(l:List (DataW _ × List MemPlace)),y∈l->k∈DataW.weightsAll P e (l.map (·.1)):=by
    intro l
    induction l with
    | nil=>intro h;cases h
    | cons z r ih =>
     intro h;simp only[List.map_cons,DataW.weightsAll,List.mem_append];rcases zf h with rfl | h
     ·exact .inl hk
     ·exact .inr (ih h)
   exact this _ hy
  obtain⟨l,hll,hq⟩:=jq0 (A:=A) (Q:=λi a'=>∃cs,w.cells? 0 (a.add ((0+i) * sz)) sz=some cs/\RepL w Nob (toC a') cs) len (λi hi=>by
   have h1:=hel i hi;have h2:elems[i]?=some elems[i]:=ze zo;rw[h2,hc,Option.bind_eq_some_iff] at h1;obtain⟨cs',h3,h4⟩:=h1;obtain⟨a',h5⟩:=(h m rfl).out enc cs' _ h4 (hwe _ (List.getElem_mem ..))
   exact⟨a',cs',by rw[Nat.zero_add];exact h3,h5⟩)
  obtain⟨cs,h1,h2⟩:=joR hmk l 0 hq;refine⟨l,?_⟩;simp only[RepL,Rep];refine⟨_,_,rfl,⟨by simp;omega,cs,h1,.inl ⟨a,cap,by simp[hll],by simp;omega,?_⟩⟩,by simp[Value.oneCell'],rfl⟩;cases cs with
  | nil=>exact .inl rfl
  | cons c0 cr =>
   right
   have h00:=h2 0 c0 rfl;have hspot:a.spot=none:=by simpa[Addr.add] using World.cell?_spot h00
   refine⟨nob,hspot,λj c hj=>?_⟩;have:=h2 j c hj;rw[Nat.zero_mul,Nat.zero_add] at this;obtain⟨b,off,spot⟩:=a;subst hspot
   by_cases e:j=0
   ·subst e;simpa[Addr.add] using this
   ·simpa[Addr.add,e] using this
theorem jyC(a:Int)(cs:List Value)(h:RepL w Nob [.i a] cs):∃c:Value,c.cells.toList=cs/\Rep w Nob (.i a) c:=by
 simp only[RepL,Rep] at h;obtain⟨_,_,rfl,rfl,_,rfl⟩:=h;exact⟨.int .i64 a,by simp[Value.cells],by simp[Rep]⟩
end
end Go.Av
