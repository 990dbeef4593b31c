/- Rules for walking through the model's code over a symbolic state: what a function is called with, what it owns, what it answers. No condition beyond what each rule says. -/
import Derived.Test.YtgmpjpaekpefdaaGreatAvS
import Derived.Laws.OwnMore
import Derived.Laws.Strings
import Derived.Laws.StructEq
import Derived.Conc.Own2
import Derived.Conc.SmallLaws
import Derived.Below
import Derived.Laws.MakeOwn
namespace Go.Av
open Go
set_option linter.unusedVariables false
variable{id:Nat}{v:Value}{o:Oper}{l:List Oper}{t:TypeId}{fn:Func}{pd:List Value}
variable{κ:Kind}
set_option linter.unusedSimpArgs false
theorem jrW{α:Type}{cs us:List α}{p o sz:Nat}(h1:o+us.length<=sz)(h2:p+sz<=cs.length) :
 cs.take (p+o)++us++cs.drop (p+o+us.length)=cs.take p++(((cs.drop p).take sz).take o++us++((cs.drop p).take sz).drop (o+us.length))++cs.drop (p+sz):=by
 have e1:cs.take (p+o)=cs.take p++(cs.drop p).take o:=List.take_add ..;have e2:((cs.drop p).take sz).take o=(cs.drop p).take o:=by rw[List.take_take];congr 1;omega
 have hl:((cs.drop p).take sz).length=sz:=by simp;omega
 have e3:cs.drop (p+o+us.length)=((cs.drop p).take sz).drop (o+us.length)++cs.drop (p+sz):=by
  have h3:cs.drop p=(cs.drop p).take sz++(cs.drop p).drop sz:=(List.take_append_drop _ _).symm;have h4:cs.drop (p+o+us.length)=(cs.drop p).drop (o+us.length):=by rw[List.drop_drop];congr 1;omega
  rw[h4]
  have h5:((cs.drop p).take sz++(cs.drop p).drop sz).drop (o+us.length)=((cs.drop p).take sz).drop (o+us.length)++(cs.drop p).drop sz:=by
   rw[List.drop_append,show o+us.length - ((cs.drop p).take sz).length=0 from by omega,List.drop_zero]
  rw[<-h3] at h5;rw[h5,List.drop_drop]
 rw[e1,e2,e3];simp only[List.append_assoc]
section
variable{w:World}{O:Nat->Prop}
theorem RepE.setN{sz:Nat}:∀{l:List D}{cs:List Value}{k:Nat}{d0 d:D}{c:Value},RepE w O sz l cs->l[k]?=some d0->c.cells.size=sz->(∀u∈c.cells.toList,u.oneCell'=true)->Rep w O d c ->
 RepE w O sz (l.set k d) (cs.take (k * sz)++c.cells.toList++cs.drop (k * sz+sz))
 | [],cs,k,d0,d,c,h,hk,_,_,_=>by simp at hk
 | e::r,cs,k,d0,d,c,h,hk,h1,h2,h3=>by
  simp only[RepE] at h;obtain⟨c',cr,rfl,g2,g3,g4,g5⟩:=h;have hl:c'.cells.toList.length=sz:=by simpa using g2
  cases k with
  | zero =>
   simp only[List.set_cons_zero,RepE];refine⟨c,cr,?_,h1,h2,h3,g5⟩;rw[Nat.zero_mul,List.take_zero,List.nil_append,Nat.zero_add,<-hl,List.drop_left]
  | succ k =>
   simp only[List.set_cons_succ,RepE];refine⟨c',cr.take (k * sz)++c.cells.toList++cr.drop (k * sz+sz),?_,g2,g3,g4,RepE.setN g5 (by simpa using hk) h1 h2 h3⟩;have e1:(k+1) * sz=c'.cells.toList.length+k * sz:=by rw[hl,Nat.add_mul,Nat.one_mul];omega
   rw[e1,List.take_append,qC zo,Nat.add_sub_cancel_left,List.drop_append,List.drop_of_length_le zo,List.nil_append];rw[show c'.cells.toList.length+k * sz+sz - c'.cells.toList.length=k * sz+sz from by omega];simp only[List.append_assoc]
theorem RepE.cells{sz:Nat}:∀{l:List D}{cs:List Value}{k:Nat}{d:D},RepE w O sz l cs->l[k]?=some d ->
 ∃c,c.cells.toList=(cs.drop (k * sz)).take sz/\c.cells.size=sz/\(∀u∈c.cells.toList,u.oneCell'=true)/\Rep w O d c/\k * sz+sz<=cs.length
 | [],cs,k,d,h,hi=>by simp at hi
 | e::r,cs,k,d,h,hi=>by
  simp only[RepE] at h;obtain⟨c,cr,rfl,h2,h3,h4,h5⟩:=h;have hl:c.cells.toList.length=sz:=by simpa using h2
  cases k with
  | zero =>
   simp only[List.getElem?_cons_zero,qs] at hi;subst hi;exact⟨c,by rw[Nat.zero_mul,List.drop_zero,<-hl,List.take_left],h2,h3,h4,by simp only[qm];omega⟩
  | succ k =>
   simp only[List.getElem?_cons_succ] at hi;obtain⟨c',g1,g2,g3,g4,g5⟩:=RepE.cells h5 hi;have e1:(k+1) * sz=c.cells.toList.length+k * sz:=by rw[hl,Nat.add_mul,Nat.one_mul];omega
   refine⟨c',?_,g2,g3,g4,by simp only[qm];omega⟩;rw[g1,e1,List.drop_append,List.drop_of_length_le (l:=c.cells.toList) zo,List.nil_append,Nat.add_sub_cancel_left]
end
section
variable{P:Program}{n:Nat}{env:Env}{H:Heap}{dst:Option Tmp}{ty:TypeId}{pos:String}{after:Array Edge}{gd:Option (Nat × Bool)}{x y:Operand}{ops:Array Oper}{rest:List Oper}
theorem jtZ{F M w0 a w}(hr':Rel F M w0 n env H a w){g k off len cap ety sz l r nn q f}(hk:UpdF H (.arr (.slice (some ⟨g,0,none⟩) len cap) ety sz l) f)(hd:l[k]?=some (.agg r))(hs:SubL r off nn q) :
 ∃(cur:Array Value) (us:List Value),w.heap[g]?=some (.cells cur ety (0,0))/\RepL w (Own F H) q us/\us.length=nn/\∀j u,us[j]?=some u->cur[k * sz+off+j]?=some u:=by
 obtain⟨_,_,xs,hown,hE⟩:=hr'.heap.holds _ hk.mem;obtain⟨c,g1,g2,g3,g4,g5⟩:=RepE.cells hE hd;rcases hown.2 with⟨hv,_⟩ | ⟨g',cap',cur,hv,h3,h4,h5,h6,h7,h8⟩
 ·cases hv
 ·simp only[Value.slice.injEq,qs,Addr.mk.injEq] at hv
  obtain⟨⟨rfl,_,_⟩,_,_⟩:=hv;simp only[Rep] at g4;obtain⟨vs,rfl,hvs⟩:=g4;obtain⟨q1,q2⟩:=hs.eq;have hlen:=hvs.length;have hcl:(Value.agg vs.toArray).cells.toList=vs:=by simp[Value.cells]
  rw[hcl] at g1 g3;refine⟨cur,(vs.drop off).take nn,h4,by rw[q1];exact(hvs.drop off).take nn,by simp;omega,λj u hu=>?_⟩;rw[List.getElem?_take] at hu;split at hu
  ·rw[List.getElem?_drop,g1,List.getElem?_take] at hu
   split at hu
   ·rw[List.getElem?_drop,<-h8,List.getElem?_take] at hu
    split at hu
    ·rw[<-hu]
     simp only[Array.getElem?_toList]
     congr 1
     omega
    ·cases hu
   ·cases hu
  ·cases hu
theorem jjB{Mod:List Nat}{t g k off len cap ety sz l r d f}(hx:opd env x=some (.p g (k * sz+off)))(hk:UpdF H (.arr (.slice (some ⟨g,0,none⟩) len cap) ety sz l) f)(hm:g∉Mod)(hg:tagg P t=some false)(hd:l[k]?=some (.agg r))(hs:SubL r off 1 [d]) :
 AQ P n Mod ⟨dst,.load t x,ty,pos,after,gd⟩ env H d:=by
 refine⟨λF M w0 a w hr'=>?_⟩;have h1:=hr'.opdv hx;obtain⟨cur,us,h4,h5,h6,h7⟩:=jtZ hr' hk hd hs;simp only[RepL] at h5;obtain⟨c,cr,rfl,h8,h9,rfl⟩:=h5;refine⟨c,h8,λw' hw=>?_⟩;have hb:w'.heap[g]?=some (.cells cur ety (0,0)):=by rw[hw g (Array.getElem?_eq_some_iff.1 h4).1 hm (λh=>hr'.heap.disj g (jaG hk.mem rfl) h)];exact h4
 have hc:w'.cell? ⟨g,k * sz+off,none⟩=some c:=by rw[cell_of_row w' g _ cur ety (0,0) hb];simpa using h7 0 c rfl
 simp[execOp,h1,Instr.loadAt,Instr.sureAddr,loadVar,jaB hg,hc];exact jfJ (Array.getElem?_eq_some_iff.1 h4).1 (λh=>hr'.heap.disj g (jaG hk.mem rfl) h)
theorem jaD{t g k off len cap ety sz l r r' d ds f K}(hx:opd env x=some (.p g (k * sz+off)))(hy:opd env y=some d)(hfl:Flat d ds)(hk:UpdF H (.arr (.slice (some ⟨g,0,none⟩) len cap) ety sz l) f)(hs:tsize P t=some ds.length)(hl:l[k]?=some (.agg r))(hsp:Spl r off ds r')
 (h:AOps κ P n ops rest env (f (.arr (.slice (some ⟨g,0,none⟩) len cap) ety sz (l.set k (.agg r')))) K):AOps κ P n ops (⟨none,.store t x y,ty,pos,after,none⟩::rest) env H K:=by
 refine jaH rfl (.of_op ⟨λF M w0 a w hr Kc hK=>?_,λF M w0 a w hr=>?_⟩);have h1:=hr.opdv hx;obtain⟨us,h2,hus⟩:=hfl.rep (hr.opd hy);obtain⟨kk,hk1,hk2⟩:=hk.set;obtain⟨hsz,hlb,xs,hown,hE⟩:=hr.heap.holds _ hk.mem;obtain⟨q1,q2⟩:=hsp.eq;have hul:=hus.length;rcases hown.2 with⟨hv,_⟩ | ⟨g',cap',cur,hv,h3,h4,h5,h6,h7,h8⟩
 ·cases hv
 ·simp only[Value.slice.injEq,qs,Addr.mk.injEq] at hv
  obtain⟨⟨rfl,_,_⟩,rfl,rfl⟩:=hv;obtain⟨c,g1,g2,g3,g4,g5⟩:=RepE.cells hE hl;have hlen:=hE.len;simp only[Rep] at g4;obtain⟨vs,rfl,hvs⟩:=g4;have hcl:(Value.agg vs.toArray).cells.toList=vs:=by simp[Value.cells]
  have hvl:vs.length=sz:=by simpa[Value.cells] using g2
  have hrl:=hvs.length;rw[hcl] at g1 g3;have hxc:xs.length<=cur.size:=by rw[<-h8,List.length_take,Array.length_toList];exact Nat.min_le_right _ _
  have hrun:=run_storeCells_at P g (k * sz+off) ety us 0 cur w h4 zo hus.one;simp only[Nat.add_zero] at hrun
  -- the cells of the element behind it
  have hnew:((cur.toList.take (k * sz+off)++us++cur.toList.drop (k * sz+off+us.length)).take (l.length * sz))=xs.take (k * sz)++(vs.take off++us++vs.drop (off+us.length))++xs.drop (k * sz+sz):=by
   have e1:=jrW (cs:=xs) (us:=us) (p:=k * sz) (o:=off) (sz:=sz) zo g5;rw[<-g1] at e1;rw[<-e1,<-h8,<-hlen];have hA:(cur.toList.take (k * sz+off)).length=k * sz+off:=by simp;omega
   rw[List.take_append,List.take_append,qm,hA,List.take_take,List.take_take,List.drop_take];rw[qC (l:=us) zo]
   congr 2
   congr 1;omega
  have hr1:=hr.upd (o':=.arr (.slice (some ⟨g,0,none⟩) l.length cap) ety sz (l.set k (.agg r'))) hk1 (Fr.setRow w g (cur.toList.take (k * sz+off)++us++cur.toList.drop (k * sz+off+us.length)).toArray)
   (λO' hO=>by
     have hm:∀bb,bb<w.heap.size->¬Own F H bb->¬O' bb/\(w.setRow g (cur.toList.take (k * sz+off)++us++cur.toList.drop (k * sz+off+us.length)).toArray).heap[bb]?=w.heap[bb]?:=λbb hb hb' =>
      ⟨hO bb hb hb',setRow_other w g bb _ (λe=>hb' (.inr (jaG hk.mem (by simp[Ob.blk,Value.ownBlock,e]))))⟩
     have hE':=RepE.setN (d:=.agg r') (c:=.agg (vs.take off++us++vs.drop (off+us.length)).toArray) (RepE.mono hm _ _ _ hE) hl (by simp[Value.cells];omega)
      (by
       have hL:=RepL.one (RepL.append (RepL.append (hvs.take off) hus) (hvs.drop (off+us.length)))
       simpa[Value.cells] using hL)
      (by simp only[Rep];exact⟨_,rfl,by rw[q1,hul];exact RepL.append (RepL.append ((RepL.mono hm _ _ hvs).take off) (RepL.mono hm _ _ hus)) ((RepL.mono hm _ _ hvs).drop _)⟩)
     have hcl2:(Value.agg (vs.take off++us++vs.drop (off+us.length)).toArray).cells.toList=vs.take off++us++vs.drop (off+us.length):=by simp[Value.cells]
     rw[hcl2,<-hnew] at hE';have hsize:(cur.toList.take (k * sz+off)++us++cur.toList.drop (k * sz+off+us.length)).length=cur.size:=by simp;omega
     refine⟨hsz,by simpa using hlb,_,⟨by rw[List.length_take,hsize,List.length_set];omega,.inr ⟨g,cap,_,by simp,Nat.zero_le _,setRow_heap w g cur _ ety _ h4,by simpa using h5,h6,?_,?_⟩⟩,hE'⟩
     ·rw[List.size_toArray,hsize];exact h7
     ·simp only[List.toList_toArray,List.length_set])
   (.inl rfl)
  unfold wpv;simp only[execOp,h1,Instr.storeAt,Instr.sureAddr,storeVar,Sem.run_bind,Sem.run_pure,Result.andThen_ok,jat hs,h2];simp only[List.size_toArray,hul,ne_eq,not_true_eq_false,if_false,hrun,Sem.run_pure,Result.andThen_ok,jjo,Sem.run_ite,Sem.run_bind,List.toList_toArray];have:=hK env (f (.arr (.slice (some ⟨g,0,none⟩) l.length cap) ety sz (l.set k (.agg r')))) (a.put none undef) _ h (by rw[hk2];exact hr1);exact this
 have h1:=hr.opdv hx;obtain⟨us,h2,hus⟩:=hfl.rep (hr.opd hy);obtain⟨hsz,hlb,xs,hown,hE⟩:=hr.heap.holds _ hk.mem;obtain⟨q1,q2⟩:=hsp.eq;have hul:=hus.length;rcases hown.2 with⟨hv,_⟩ | ⟨g',cap',cur,hv,h3,h4,h5,h6,h7,h8⟩
 ·cases hv
 ·simp only[Value.slice.injEq,qs,Addr.mk.injEq] at hv
  obtain⟨⟨rfl,_,_⟩,rfl,rfl⟩:=hv;obtain⟨c,g1,g2,g3,g4,g5⟩:=RepE.cells hE hl;have hlen:=hE.len;simp only[Rep] at g4;obtain⟨vs,rfl,hvs⟩:=g4;have hvl:vs.length=sz:=by simpa[Value.cells] using g2
  have hrl:=hvs.length;have hxc:xs.length<=cur.size:=by rw[<-h8,List.length_take,Array.length_toList];exact Nat.min_le_right _ _
  refine jjS (jaG hk.mem rfl) hr.heap λe he=>?_;simp only[execOp,h1,Instr.storeAt,Instr.sureAddr,storeVar,Sem.events_bind,Sem.run_bind,Sem.events_pure,Sem.run_pure,Result.andThen_ok,Result.evThen_ok,jat hs,events_sizeOf,h2] at he;simp only[List.size_toArray,hul,ne_eq,not_true_eq_false,if_false,List.toList_toArray,Sem.run_ite,Sem.events_ite] at he;have hrun:=run_storeCells_at P g (k * sz+off) ety us 0 cur w h4 zo hus.one;simp only[Nat.add_zero] at hrun;simp only[hrun,Result.evThen_ok,Sem.events_pure,Sem.run_pure,Result.andThen_ok,Sem.events_bind] at he;rcases jdo us 0 cur w #[] h4 zo hus.one e he with h | ⟨a',rfl,hb⟩
  ·simp at h
  ·exact⟨a',rfl,hb⟩
end
theorem jwy{w:World}{O:Nat->Prop}{d:D}(hv:v.cells.toList=[v])(h:RepL w O [d] v.cells.toList):Rep w O d v:=by
 rw[hv] at h;simp only[RepL] at h;obtain⟨c,cr,h1,h2,_,h3⟩:=h;simp only[List.cons.injEq] at h1;rw[h1.1];exact h2
variable{κ:Kind}
section
variable{P:Program}{n:Nat}{env:Env}{H:Heap}{dst:Option Tmp}{ty:TypeId}{pos:String}{after:Array Edge}{gd:Option (Nat × Bool)}{x y:Operand}
theorem jtv{t us cs parts out len e sz}(ha:P.underlying t=some (.array len e))(hs:tsize P e=some sz)(hz:tzero P t=some us)(hu:AllV us cs)(hf:FillL (plc sz) env parts cs out) :
 AP P n ⟨dst,.build t parts.toArray,ty,pos,after,gd⟩ env H (.agg out):=by
 refine⟨λF M w0 a w hr=>?_⟩;obtain⟨vs,g1,g2⟩:=hf.run hr us hu.rep;refine⟨.agg vs.toArray,by simp only[Rep];exact⟨vs,rfl,g2⟩,λw'=>?_⟩;obtain⟨zv,z1,z2⟩:=jcK hz w';unfold plc at g1;refine⟨?_,?_⟩
 ·simp only[execOp,Instr.build,Sem.run_bind,z1,Result.andThen_ok,run_underlying ha,jat hs,List.map_toArray,List.toList_toArray,z2]
  simp only[g1,Sem.run_pure,Result.andThen_ok]
 ·simp only[execOp,Instr.build,Sem.events_bind,Sem.run_bind,z1,Result.andThen_ok,Result.evThen_ok,events_zeroValue,events_underlying,events_sizeOf,run_underlying ha,jat hs,List.map_toArray,List.toList_toArray,z2]
  simp only[g1,Sem.run_pure,Sem.events_pure,Result.andThen_ok,Result.evThen_ok]
theorem jkk{s t k0 p u}(hx:opd env x=some (.v (.int k0 p)))(hs:P.underlying s=some u)(ht:P.underlying t=some (.int .i64))(hb:-9223372036854775808<=p/\p<=9223372036854775807):AP P n ⟨dst,.convert s t x,ty,pos,after,gd⟩ env H (.i p):=by
 have:=jf2 (P:=P) (n:=n) (env:=env) (H:=H) (dst:=dst) (ty:=ty) (pos:=pos) (after:=after) (gd:=gd) hx hs ht
 rwa [jfE hb.1 hb.2] at this
end
section
variable{P:Program}{n:Nat}{env:Env}{H:Heap}{dst:Option Tmp}{ty:TypeId}{pos:String}{after:Array Edge}{gd:Option (Nat × Bool)}{x y:Operand}
theorem jwB{k p q t u}(hx:opd env x=some (.v (.int k p)))(hy:opd env y=some (.v (.int k q))):AP P n ⟨dst,.binOp .and t x y u,ty,pos,after,gd⟩ env H (.v (.int k (k.wrap ((BitVec.ofInt k.bits p&&&BitVec.ofInt k.bits q).toNat:Int)))):=by
 refine⟨λF M w0 a w hr=>?_⟩;have h1:=hr.opdv hx;have h2:=hr.opdv hy;refine⟨.int k (k.wrap ((BitVec.ofInt k.bits p&&&BitVec.ofInt k.bits q).toNat:Int)),by simp[Rep],λw'=>?_⟩;simp[execOp,h1,h2,eqGuard,binOp,Op.intBits]
end
variable{κ:Kind}
section
variable{P:Program}{n:Nat}{env:Env}{H:Heap}{dst:Option Tmp}{ty:TypeId}{pos:String}{after:Array Edge}{x y:Operand}
def tmade(P:Program)(e:TypeId)(m:Nat):Option (List Value):=((P.info? e).bind (·.zero)).map λz=>(madeCells z.cells m).toList
theorem jfR(w:World)(t e:TypeId)(i:TypeInfo)(z:Value)(ht:P.underlying t=some (.slice e))(hi:P.info? e=some i)(hz:i.zero=some z)
 (kl kc:IntKind) (l c:Int) (h0:0<=l) (hlc:l<=c) (hbytes:(i.bytes:Int) * c<=281474976710656) (h63:c<=9223372036854775807) :
 ∀ev∈(Instr.makeSlice t (.int kl l) (.int kc c)).events P w #[],∃m,ev=⟨.mark m,false,true⟩/\Conc.Neutral m:=by
 have wl:IntKind.i64.wrap l=l:=by rw[IntKind.wrap_i64];omega
 have wc:IntKind.i64.wrap c=c:=by rw[IntKind.wrap_i64];omega
 have n1:¬c<0:=by omega
 have n2:¬(281474976710656<(i.bytes:Int) * c):=by omega
 have n3:¬l<0:=by omega
 have n4:¬c<l:=by omega
 have ask:∀(b:Nat) ev,ev∈(askRoom b).events P w #[]->∃m,ev=⟨.mark m,false,true⟩/\Conc.Neutral m:=λb ev h=>by
  rcases Conc.events_askRoom b w #[] ev h with h | h
  ·simp at h
  ·exact h
 have ra:∀b,(askRoom b).run P w=.ok () w:=λb=>by unfold askRoom;split<;>simp
 intro ev hev
 by_cases hn:c.toNat * i.size=0
 ·simp[Instr.makeSlice,run_underlying ht,asInt,asIntOf,typeInfo,hi,sizeOf,wl,wc,n1,n2,n3,n4,hn,newRow,ra] at hev
  exact ask _ _ hev
 ·simp[Instr.makeSlice,run_underlying ht,asInt,asIntOf,typeInfo,hi,sizeOf,zeroValue,hz,wl,wc,n1,n2,n3,n4,newRow,ra] at hev
  exact ask _ _ hev
theorem jeY{ops rest t e sz by_ d K l cs}{N:Nat}{kl kc:IntKind}(hx:opd env x=some (.v (.int kl (N:Int))))(hy:opd env y=some (.v (.int kc (N:Int))))(ht:telem P t=some e)(hi:tinfo P e=some (sz,by_))
 (hm:tmade P e (N * sz)=some cs) (hl:l.length=N) (hE:∀w O,RepE w O sz l cs) (hb:by_ * N<=281474976710656/\N<=capB) (hd:dst=some d) (hn:Nat.blt d n=true)
 (h:∀g:Nat,AOps κ P n ops rest ((d,.v (.slice (some ⟨g,0,none⟩) N N))::env) (.arr (.slice (some ⟨g,0,none⟩) N N) e sz l::H) K) :
 AOps κ P n ops (⟨dst,.makeSlice t x y,ty,pos,after,none⟩::rest) env H K:=by
 refine jaH rfl (.of_op ⟨λF M w0 a w hr Kc hK=>?_,λF M w0 a w hr=>?_⟩);have hx':=hr.opdv hx;have hy':=hr.opdv hy;obtain⟨i,z,h1,h2,h3,h4,h5,h6⟩:=jaN hi;have hcap:capB=140737488355328:=rfl;obtain⟨w',hrun,r1,r2⟩:=run_make_full (P:=P) w 0 t e i z sz (jao ht) h1 h2 h3 kl kc N (by rw[h4];exact hb.1) (by unfold maxLen;omega) (Nat.zero_le _)
 have hcs:(madeCells z.cells (N * sz)).toList=cs:=by
  unfold tmade at hm;rw[h1] at hm;simpa[h2] using hm
 rw[hcs] at r1;have hr1:=hr.add (o':=.arr (.slice (some ⟨w.heap.size,0,none⟩) N N) e sz l) (by simpa using Fr.grown r2) (λO' hO=>⟨h6,by rw[hl];exact hb.2,cs,by rw[hl];exact r1,hE _ _⟩) (λb hb=>by simp[Ob.blk,Value.ownBlock] at hb;omega);unfold wpv
 have e1:(execOp a.eval ⟨dst,.makeSlice t x y,ty,pos,after,none⟩)=(do pure (.value (<-Instr.makeSlice t (a.eval x) (a.eval y)))):=by
  simp[execOp]
 rw[e1,Sem.run_bind,hx',hy',hrun,Result.andThen_ok,Sem.run_pure,jbO,hd];exact hK _ _ _ _ (h w.heap.size) (hr1.put (by simp[Rep]) (by simpa[Nat.blt_eq] using hn));have hx':=hr.opdv hx;have hy':=hr.opdv hy;obtain⟨i,z,h1,h2,h3,h4,h5,h6⟩:=jaN hi;have hcap:capB=140737488355328:=rfl;obtain⟨w',hrun,r1,r2⟩:=run_make_full (P:=P) w 0 t e i z sz (jao ht) h1 h2 h3 kl kc N (by rw[h4];exact hb.1) (by unfold maxLen;omega) (Nat.zero_le _)
 have e1:(execOp a.eval ⟨dst,.makeSlice t x y,ty,pos,after,none⟩)=(do pure (.value (<-Instr.makeSlice t (a.eval x) (a.eval y)))):=by
  simp[execOp]
 intro ev hev;rw[e1,Sem.events_bind,hx',hy',hrun] at hev;simp only[Result.evThen_ok,Sem.events_pure] at hev;refine .inr (jfR (P:=P) w t e i z (jao ht) h1 h2 kl kc N N zo (Int.le_refl _) ?_ zo ev hev);have hb1:((i.bytes * N:Nat):Int)<=281474976710656:=by rw[h4];omega
 rwa [Int.natCast_mul] at hb1
end
variable{κ:Kind}
section
variable{P:Program}{n:Nat}{env:Env}{H:Heap}{dst:Option Tmp}{ty:TypeId}{pos:String}{after:Array Edge}{gd:Option (Nat × Bool)}{x y:Operand}{ops:Array Oper}{rest:List Oper}
def cutAt(cap k sz:Nat):Nat:=if cap=k then 0 else k * sz
theorem jbR{t e sz g len cap ety l j k f}(hx:opd env x=some (.v (.slice (some ⟨g,0,none⟩) len cap)))(hk':UpdF H (.arr (.slice (some ⟨g,0,none⟩) len cap) ety sz l) f)(hy:opd env y=some (.i j))(ht:telem P t=some e)(hs:tsize P e=some sz)(hj:j=((k:Nat):Int))(hk:k<=l.length) :
 AP P n ⟨dst,.slice t x (some y) none none,ty,pos,after,gd⟩ env H (.v (.slice (some ⟨g,cutAt cap k sz,none⟩) (l.length - k) (cap - k))):=by
 refine⟨λF M w0 a w hr=>?_⟩;have h1:=hr.opdv hx;have h2:=hr.opdv hy;subst hj;obtain⟨_,_,xs,hown,hE⟩:=hr.heap.holds _ hk'.mem;rcases hown.2 with⟨hv,_⟩ | ⟨g',cap',cur,hv,h3,h4,h5,h6,h7,h8⟩
 ·cases hv
 ·simp only[Value.slice.injEq,qs,Addr.mk.injEq] at hv
  obtain⟨⟨rfl,_,_⟩,rfl,rfl⟩:=hv;refine⟨.slice (some ⟨g,cutAt cap k sz,none⟩) (l.length - k) (cap - k),by simp only[Rep],λw'=>?_⟩;have hi:(0:Int)<=(k:Int)/\(k:Int)<=(cap:Int):=by omega
  have hi':¬l.length<k:=by omega
  simp[hk,execOp,h1,h2,Instr.sliceAt,Instr.slice,run_underlying (jao ht),Instr.sliceBounds,Instr.sliceBound,asIntOf,hi,jat hs,Addr.add];unfold cutAt
  by_cases hck:cap=k
  ·simp[hck]
  ·simp[hck]
   by_cases hz:k * sz=0
   ·simp[hz]
   ·simp[hz]
variable{Q:Exit->Env->Heap->Prop}
theorem jjs{c:Code}{v e sz l f}(hk:UpdF H (.arr v e sz l) f)(hl:l≠[])(h:∀g cap,l.length<=cap->v=.slice (some ⟨g,0,none⟩) l.length cap->AWp κ P n c env H Q):AWp κ P n c env H Q:=by
 refine⟨λfit _ _ _ _ _ _ _ _ hr _ _ _ hb hQ=>?_⟩;obtain⟨_,_,xs,hown,_⟩:=hr.rel.heap.holds _ hk.mem;rcases hown.2 with⟨_,h2⟩ | ⟨g,cap,cur,h2,_,_,h5,_⟩
 ·exact qp (List.eq_nil_of_length_eq_zero h2) hl
 ·exact(h g cap h5 h2).out fit hr hb hQ
end
variable{κ:Kind}
theorem jy6(x y:ByteArray):(x.toList == y.toList)=decide (x=y):=by
 have h:=beq_toListBytes x y;rw[<-h,Bool.eq_iff_iff,decide_eq_true_iff];constructor
 ·intro h2
  rw[h] at h2;have h3:x.toList=y.toList:=by simpa using h2
  have h4:x.data.toList=y.data.toList:=by simpa[ByteArray.toList_eq] using h3
  cases x;cases y;simp only[ByteArray.mk.injEq];exact Array.toList_inj.1 h4
 ·rintro rfl
  rw[h];simp
def cmpS:BinOp->ByteArray->ByteArray->Option Bool
 | .eql,a,b=>some (decide (a=b))
 | .neq,a,b=>some (!decide (a=b))
 | .lss,a,b=>some (Op.bytesLess a.toList b.toList)
 | .gtr,a,b=>some (!(Op.bytesLess a.toList b.toList||decide (a=b)))
 | _,_,_=>none
section
variable{P:Program}{n:Nat}{env:Env}{H:Heap}{dst:Option Tmp}{ty:TypeId}{pos:String}{after:Array Edge}{gd:Option (Nat × Bool)}{x y:Operand}{ops:Array Oper}{rest:List Oper}
theorem jtb{op p q c t u}(hx:opd env x=some (.v (.string p)))(hy:opd env y=some (.v (.string q)))(hc:cmpS op p q=some c):AP P n ⟨dst,.binOp op t x y u,ty,pos,after,gd⟩ env H (.b c):=by
 refine⟨λF M w0 a w hr=>?_⟩;have h1:=hr.opdv hx;have h2:=hr.opdv hy;refine⟨.bool c,by simp[Rep],λw'=>?_⟩
 cases op<;>simp only[cmpS,qs,reduceCtorEq] at hc<;>subst hc <;>
  simp[execOp,h1,h2,eqGuard,binOp,Op.stringOp,jy6]<;>rfl
theorem jqm{t s}(hx:opd env x=some (.v (.string s)))(ht:P.underlying t=some .string):AP P n ⟨dst,.call { callee:=.builtin .len,args:=#[x],argTypes:=#[t] },ty,pos,after,gd⟩ env H (.i (s.size:Int)):=by
 refine⟨λF M w0 a w hr=>?_⟩;have h1:=hr.opdv hx;refine⟨.int .i64 (s.size:Int),by simp[Rep],λw'=>?_⟩;simp[execOp,resolve,invoke,builtin,h1,Builtin.len_,run_underlying ht,goInt]
end
variable{κ:Kind}
section
variable{P:Program}{n:Nat}{env:Env}{H:Heap}{dst:Option Tmp}{ty:TypeId}{pos:String}{after:Array Edge}{gd:Option (Nat × Bool)}{x y:Operand}{ops:Array Oper}{rest:List Oper}
theorem jeW{t e sz l j k}(hx:opd env x=some (.sl sz l))(hy:opd env y=some (.i j))(ht:telem P t=some e)(hs:tsize P e=some sz)(hj:j=((k:Nat):Int))(hk:k<=l.length) :
 AP P n ⟨dst,.slice t x (some y) none none,ty,pos,after,gd⟩ env H (.sl sz (l.drop k)):=by
 refine⟨λF M w0 a w hr=>?_⟩;have h1:=hr.opd hx;have h2:=hr.opdv hy;subst hj;simp only[Rep] at h1;obtain⟨hb,cs,hE,⟨ad,cap,h1,h3,h4⟩ | ⟨h1,rfl⟩⟩:=h1
 ·refine⟨.slice (some (if cap - k=0 then ad else ad.add (k * sz))) (l.length - k) (cap - k),?_,λw'=>?_⟩
  ·simp only[Rep]
   have hlk:(l.drop k).length=l.length - k:=by simp
   refine⟨by omega,cs.drop (k * sz),hE.drop k,.inl ⟨_,cap - k,by rw[hlk],by omega,?_⟩⟩;have hlen:=hE.len
   by_cases hc:cap - k=0
   ·have:cs.drop (k * sz)=[]:=List.drop_eq_nil_of_le (by rw[hlen];exact Nat.mul_le_mul_right _ zo)
    exact .inl this
   ·rw[qe hc]
    rcases h4 with h4 | ⟨h4,h5,h6⟩
    ·exact .inl (by simp[h4])
    ·have e1:ad.add (k * sz)=⟨ad.block,ad.off+k * sz,none⟩:=by
      cases ad with
      | mk b o s =>
       simp only at h5;subst h5;rw[jbN]
     rw[e1];refine .inr ⟨h4,rfl,λj c hj=>?_⟩;rw[List.getElem?_drop] at hj;have:=h6 (k * sz+j) c hj
     rwa [<-Nat.add_assoc] at this
  ·have hi':¬l.length<k:=by omega
   have e:(if cap=k then ad else ad.add (k * sz))=(if cap - k=0 then ad else ad.add (k * sz)):=by
    by_cases h:cap=k
    ·rw[qf h,qf zo]
    ·rw[qe h,qe zo]
   rw[<-e];simp[hk,execOp,h1,h2,Instr.sliceAt,Instr.slice,run_underlying (jao ht),Instr.sliceBounds,Instr.sliceBound,asIntOf,jat hs];split<;>rfl
 ·have hk0:k=0:=by simpa using hk
  subst hk0;refine⟨.slice none 0 0,?_,λw'=>?_⟩
  ·simp only[Rep]
   exact⟨by simp,[],by simp[RepE],.inr (by simp)⟩
  ·simp[execOp,h1,h2,Instr.sliceAt,Instr.slice,run_underlying (jao ht),Instr.sliceBounds,Instr.sliceBound,asIntOf,jat hs]
theorem jkG{t e len sz l j k r}(hx:opd env x=some (.agg l))(hy:opd env y=some (.i j))(ha:P.underlying t=some (.array len e))(hg:tagg P e=some true)(hs:tsize P e=some sz)(hj:j=((k:Nat):Int))(hk:k<len)(hr0:SubL l (k * sz) sz r) :
 AP P n ⟨dst,.index t x y,ty,pos,after,gd⟩ env H (.agg r):=by
 refine⟨λF M w0 a w hr=>?_⟩;have h1:=hr.opd hx;have h2:=hr.opdv hy;subst hj;obtain⟨q1,q2⟩:=hr0.eq;simp only[Rep] at h1;obtain⟨cs,h1,h3⟩:=h1;refine⟨.agg ((cs.drop (k * sz)).take sz).toArray,by simp only[Rep];exact⟨_,rfl,by rw[q1];exact(h3.drop _).take sz⟩,λw'=>?_⟩;simp[execOp,h1,h2,Instr.index,run_underlying ha,asIntOf,part,jaB hg,jat hs,hk]
theorem jie{t e len l j k d}(hx:opd env x=some (.agg l))(hy:opd env y=some (.i j))(ha:P.underlying t=some (.array len e))(hg:tagg P e=some false)(hs:tsize P e=some 1)(hj:j=((k:Nat):Int))(hk:k<len)(hr0:SubL l (k * 1) 1 [d]) :
 AP P n ⟨dst,.index t x y,ty,pos,after,gd⟩ env H d:=by
 refine⟨λF M w0 a w hr=>?_⟩;have h1:=hr.opd hx;have h2:=hr.opdv hy;subst hj;simp only[Rep] at h1;obtain⟨cs,h1,h3⟩:=h1;obtain⟨c,h4,h5,h6⟩:=h3.get (jnh hr0);rw[Nat.mul_one] at h4;refine⟨c,h5,λw'=>?_⟩;simp[execOp,h1,h2,Instr.index,run_underlying ha,asIntOf,part,jaB hg,jat hs,hk,h4]
end
variable{κ:Kind}
structure Gw(X:Nat->Prop)(w:World)(X':Nat->Prop)(w':World):Prop where
 size:w.heap.size<=w'.heap.size
 block:∀b,b<w.heap.size->¬X b->w'.heap[b]?=w.heap[b]?
 xn:∀b,X' b->X b\/w.heap.size<=b
theorem Gw.refl(X w):Gw X w X w:=⟨Nat.le_refl _,λ_ _ _=>rfl,λ_ h=>.inl h⟩
theorem Gw.rely(X w X₁ w₁)(h:Fan.Rely X w X₁ w₁):Gw X w X₁ w₁:=⟨h.size,λb hb hX=>h.block b hb hX,λb hb=>((h.iff b).1 hb).imp id And.left⟩
theorem Gw.trans(X w X' w' X'' w'')(h:Gw X w X' w')(k:Gw X' w' X'' w''):Gw X w X'' w'':=by
 refine⟨Nat.le_trans h.size k.size,λb hb hX=>?_,λb hb=>?_⟩
 ·exact(k.block b (qA hb h.size) (λhm=>by rcases h.xn b hm with h' | h';exact hX h';omega)).trans (h.block b hb hX)
 ·rcases k.xn b hb with h' | h'
  ·exact h.xn b h'
  ·exact .inr (Nat.le_trans h.size h')
section generic
variable{P:Program}{T:Tgt}{ops:Array Oper}{Q:Act->(Nat->Prop)->(Nat->Prop)->World->Prop}{B:Nat->Bool}
def anyL(B:Nat->Bool)(P:Program)(T:Tgt)(ops:Array Oper)(Q:Act->(Nat->Prop)->(Nat->Prop)->World->Prop):Nat->Array Bool->Act->(Nat->Prop)->(Nat->Prop)->World->Prop
 | 0,listed,a,O,X,w=>∀X₁ w₁,Fan.Rely X w X₁ w₁->Region.ready .any ops listed=[]/\Q a O X₁ w₁
 | fuel+1,listed,a,O,X,w=>∀X₁ w₁,Fan.Rely X w X₁ w₁ ->
  (Region.ready .any ops listed=[]->Q a O X₁ w₁) /\
  ∀i∈Region.ready .any ops listed,Op1 P T ops i (λa' O' X' w'=>(B i=false->Gw X₁ w₁ X' w')/\anyL B P T ops Q fuel (listed.setIfInBounds i true) a' O' X' w') a O X₁ w₁
theorem anyL.rely{fuel:Nat}{listed:Array Bool}{a:Act}{O X X₁:Nat->Prop}{w w₁:World}(h:anyL B P T ops Q fuel listed a O X w)(hR:Fan.Rely X w X₁ w₁):anyL B P T ops Q fuel listed a O X₁ w₁:=by
 cases fuel with
 | zero=>exact λX₂ w₂ h2=>h X₂ w₂ (hR.trans h2)
 | succ fuel=>exact λX₂ w₂ h2=>h X₂ w₂ (hR.trans h2)
theorem jkJ:∀(fuel:Nat)(listed:Array Bool)(a:Act)(O X:Nat->Prop)(w:World),anyL B P T ops Q fuel listed a O X w->anyS (Y:=Unit) [] P T .any ops Q (λ_ _ _ _ _ _=>True) fuel listed a O X w ()
 | 0,_,_,_,_,_,h=>λX₁ w₁ hR=>⟨(h X₁ w₁ hR).1,λ_=>(h X₁ w₁ hR).2⟩
 | fuel+1,_,_,_,_,_,h=>λX₁ w₁ hR=>⟨(h X₁ w₁ hR).1,λi hi _=>Op1.mono (λa' O' X' w' ⟨_,h'⟩=>⟨(),trivial,jkJ fuel _ a' O' X' w' h'⟩) ((h X₁ w₁ hR).2 i hi)⟩
theorem jiT(S:(Nat->Prop)->World->(Nat->Prop)->World->Prop)(Sr:∀X w,S X w X w)(Sy:∀X w X₁ w₁,Fan.Rely X w X₁ w₁->S X w X₁ w₁)(St:∀X w X' w' X'' w'',S X w X' w'->S X' w' X'' w''->S X w X'' w''){i:Nat}{oi:Oper}(hi:ops[i]?=some oi)(hsel:∀(j:Nat)(o:Oper) cs b,ops[j]?=some o->o.op≠.select cs b)
 (hB:∀j oj,ops[j]?=some oj->(∀e∈oj.after,Region.binds .any e=true->e.on≠i)->∀X w X' w',(B j=false->Gw X w X' w')->S X w X' w') :
 ∀(fuel:Nat)(listed:Array Bool)(a:Act)(O X:Nat->Prop)(w:World),
  (∀j oj,ops[j]?=some oj->j≠i->listed.getD j true=false->(∀e∈oj.after,Region.binds .any e=true->e.on≠i)->oi.apart ops oj=true) ->
  i∈Region.ready .any ops listed->YS P ops (λX' w'=>S X w X' w') oi v a ->
  anyL B P T ops Q fuel (listed.setIfInBounds i true) (a.put oi.dst v) O X w->anyL B P T ops Q (fuel+1) listed a O X w:=by
 have own:∀(fuel:Nat)(listed:Array Bool)(a:Act)(O X:Nat->Prop)(w:World),YS P ops (λX' w'=>S X w X' w') oi v a->anyL B P T ops Q fuel (listed.setIfInBounds i true) (a.put oi.dst v) O X w ->
  Op1 P T ops i (λa' O' X' w'=>(B i=false->Gw X w X' w')/\anyL B P T ops Q fuel (listed.setIfInBounds i true) a' O' X' w') a O X w:=by
  intro fuel listed a O X w hy H;unfold Op1;simp only[hi];rcases hy with⟨hw,hv⟩ | ⟨hw,rfl⟩
  ·rw[qf hw]
   obtain⟨k1,k2⟩:=hv X w (Sr X w);rw[k1];exact⟨jrP k2,λ_=>Gw.refl X w,by rw[Fan.jbm];exact H⟩
  ·rw[qe (by simp[hw])]
   exact⟨λ_=>Gw.refl X w,H⟩
 have base:∀(a:Act)(X X₁:Nat->Prop)(w w₁:World),S X w X₁ w₁->YS P ops (λX' w'=>S X w X' w') oi v a->YS P ops (λX' w'=>S X₁ w₁ X' w') oi v a:=by
  intro a X X₁ w w₁ hG hy;rcases hy with⟨k1,k2⟩ | k
  ·exact .inl ⟨k1,λX' w' h'=>k2 X' w' (St _ _ _ _ _ _ hG h')⟩
  ·exact .inr k
 intro fuel
 induction fuel with
 | zero =>
  intro listed a O X w _ hr hy H X₁ w₁ hR;have hy1:=base a X X₁ w w₁ (Sy X w X₁ w₁ hR) hy;refine⟨λh=>(by rw[h] at hr;cases hr),λj hj=>?_⟩
  by_cases hji:j=i
  ·subst hji;exact own 0 listed a O X₁ w₁ hy1 (H.rely hR)
  ·have:=ready_mono hj hji
   rw[(H X₁ w₁ hR).1] at this;cases this
 | succ fuel ih =>
  intro listed a O X w hfree hr hy H X₁ w₁ hR;have hy1:=base a X X₁ w w₁ (Sy X w X₁ w₁ hR) hy;refine⟨λh=>(by rw[h] at hr;cases hr),λj hj=>?_⟩
  by_cases hji:j=i
  ·subst hji;exact own _ listed a O X₁ w₁ hy1 (H.rely hR)
  ·have h1:=(H X₁ w₁ hR).2 j (ready_mono hj hji)
   obtain⟨hjun,oj,hoj,hall⟩:=mem_ready.1 hj
   have hnot:∀e∈oj.after,Region.binds .any e=true->e.on≠i:=λe he hb heq=>by
    have h1:=hall e he hb;have h0:=(mem_ready.1 hr).1;rw[heq] at h1;rcases Nat.lt_or_ge i listed.size with h' | h'
    ·simp[h'] at h0 h1;rw[h0] at h1;cases h1
    ·simp[Array.getElem?_eq_none h'] at h1
   have h2:=Op1.putIf hoj (hfree j oj hoj hji hjun hnot) (λcs b=>hsel i oi cs b hi) (λcs b=>hsel j oj cs b hoj) hy1 h1
   have hfree':∀k ok,ops[k]?=some ok->k≠i->(listed.setIfInBounds j true).getD k true=false ->
    (∀e∈ok.after,Region.binds .any e=true->e.on≠i)->oi.apart ops ok=true:=λk ok hk hki hun hno=>by
    refine hfree k ok hk hki ?_ hno
    by_cases hjk:j=k
    ·subst hjk;exact hjun
    ·rw[getD_set_ne true hjk] at hun;exact hun
   refine Op1.mono (λa' O' X' w' h3=>?_) h2;obtain⟨hy',hG,h4⟩:=h3;refine⟨hG,ih (listed.setIfInBounds j true) a' O' X' w' hfree' (ready_mono hr (Ne.symm hji)) (base _ _ _ _ _ (hB j oj hoj hnot _ _ _ _ hG) hy') ?_⟩;rw[Array.setIfInBounds_comm _ _ hji];exact h4
theorem jk9{Y:Type}{G:Y->(Nat->Prop)->World->Y->(Nat->Prop)->World->Prop}:∀(fuel:Nat)(listed:Array Bool)(a:Act)(O X:Nat->Prop)(w:World)(x:Y),
 (∀j,listed.getD j true=false->B j=true)->anyS [] P T .any ops Q G fuel listed a O X w x->anyL B P T ops Q fuel listed a O X w
 | 0,_,_,_,_,_,_,_,h=>λX₁ w₁ hR=>⟨(h X₁ w₁ hR).1,(h X₁ w₁ hR).2 rfl⟩
 | fuel+1,_,_,_,_,_,x,hB,h=>λX₁ w₁ hR=>⟨(h X₁ w₁ hR).1,λi hi=>Op1.mono (λa' O' X' w' ⟨x',_,h'⟩=>⟨λhb=>(by
  have h1:=(mem_ready.1 hi).1;rw[hB i h1] at hb
  cases hb),jk9 fuel _ a' O' X' w' x' (λj hj=>hB j (by
   by_cases hij:i=j
   ·subst hij;exact(mem_ready.1 hi).1
   ·rw[getD_set_ne true hij] at hj;exact hj)) h'⟩) ((h X₁ w₁ hR).2 i hi (by simp))⟩
end generic
section
variable{P:Program}{n:Nat}{env:Env}{H:Heap}{dst:Option Tmp}{ty:TypeId}{pos:String}{after:Array Edge}{gd:Option (Nat × Bool)}{B:Nat->Bool}{ops:Array Oper}{K:Env->Heap->Prop}
structure AAny2(κ:Kind)(B:Nat->Bool)(P:Program)(n:Nat)(ops:Array Oper)(fuel:Nat)(listed:Array Bool)(env:Env)(H:Heap)(K:Env->Heap->Prop):Prop where
 out:∀{main T},Fit κ P main T->∀{C X0 M w0 O X a w},RelC C X0 M w0 n env H O X a w->∀(Q:Act->(Nat->Prop)->(Nat->Prop)->World->Prop),
  (∀env' H' a' O' X' w',K env' H'->RelC C X0 M w0 n env' H' O' X' a' w'->Q a' O' X' w')->anyL B P T ops Q fuel listed a O X w
def stageOk(B:Nat->Bool)(ops:Array Oper)(i:Nat):Bool:=(List.range ops.size).all λj=>!B j||(match ops[j]? with | some oj=>oj.after.any (λe=>Region.binds .any e&&Nat.beq e.on i) | none=>true)
theorem jlF{i:Nat}(h:stageOk B ops i=true):∀j oj,ops[j]?=some oj->(∀e∈oj.after,Region.binds .any e=true->e.on≠i)->B j=false:=by
 intro j oj hj hno;cases hb:B j with
 | false=>rfl
 | true =>
  have hlt:j<ops.size:=(Array.getElem?_eq_some_iff.1 hj).1;have h1:=List.all_eq_true.1 h j (List.mem_range.2 hlt);rw[hb,hj] at h1;simp only[Bool.not_true,Bool.false_or,Array.any_eq_true',qh] at h1;obtain⟨e,he,h2,h3⟩:=h1;exact qp (Nat.eq_of_beq_eq_true h3) (hno e he h2)
theorem jca{fuel listed d t}(i:Nat)(ho:ops[i]?=some o)(hgd:Gd ops env o true)(hs:Region.noSelect ops=true)(hf:Region.free .any ops listed i=true)(hr:(Region.ready .any ops listed).contains i=true)
 (hB:stageOk B ops i=true)
 (h:AQ P n [] o env H d) (hd:o.dst=some t) (ht:Nat.blt t n=true) (hk:AAny2 κ B P n ops fuel (listed.setIfInBounds i true) ((t,d)::env) H K):AAny2 κ B P n ops (fuel+1) listed env H K:=by
 refine⟨λ{main T} fit C X0 M w0 O X a w hrel Q hQ=>?_⟩;obtain⟨v,h1,h2⟩:=h.out _ _ _ a w hrel.rel;refine jiT Gw Gw.refl Gw.rely Gw.trans ho (Region.noSelect_spec hs) (λj oj h1 h2 X w X' w' h3=>h3 (jlF hB j oj h1 h2)) fuel listed a O X w (Region.free_spec ho hf) (by simpa using hr) (.inl ⟨hgd.wanted hrel.rel,λX' w' hG=>?_⟩) (v:=v) ?_
 ·obtain⟨k1,k2⟩:=h2 w' (λb hb _ hF=>hG.block b hb (λhx=>hF (.inr hx)))
  exact⟨k1,λe he=>by
   obtain⟨ad,q1,q2,q3⟩:=k2 e he;refine⟨ad,q1,qA q2 hG.size,λhx=>?_⟩;rcases hG.xn _ hx with h' | h'
   ·exact q3 (.inr h')
   ·omega⟩
 ·rw[hd]
  exact hk.out fit (hrel.put h1 (by simpa[Nat.blt_eq] using ht)) Q hQ
theorem jbe{fuel listed d t}(i:Nat)(ho:ops[i]?=some o)(hgd:Gd ops env o true)(hs:Region.noSelect ops=true)(hf:Region.free .any ops listed i=true)(hr:(Region.ready .any ops listed).contains i=true)
 (h:AP P n o env H d) (hd:o.dst=some t) (ht:Nat.blt t n=true) (hk:AAny2 κ B P n ops fuel (listed.setIfInBounds i true) ((t,d)::env) H K):AAny2 κ B P n ops (fuel+1) listed env H K:=by
 refine⟨λ{main T} fit C X0 M w0 O X a w hrel Q hQ=>?_⟩;obtain⟨v,h1,h2⟩:=h.out _ _ _ a w hrel.rel;refine jiT (λ_ _ _ _=>True) (λ_ _=>trivial) (λ_ _ _ _ _=>trivial) (λ_ _ _ _ _ _ _ _=>trivial) ho (Region.noSelect_spec hs) (λ_ _ _ _ _ _ _ _ _=>trivial) fuel listed a O X w (Region.free_spec ho hf) (by simpa using hr) (.inl ⟨hgd.wanted hrel.rel,λX' w' _=>⟨(h2 w').1,by rw[(h2 w').2];exact Rd.nil⟩⟩) (v:=v) ?_;rw[hd];exact hk.out fit (hrel.put h1 (by simpa[Nat.blt_eq] using ht)) Q hQ
def stB(l:List Nat)(j:Nat):Bool:=l.any (Nat.beq j)
theorem RelC.part{C X0 M w0 O X a w Hm Hr}(hr:RelC C X0 M w0 n env H O X a w)(hs:Split H Hm Hr):RelC (λb=>C b\/b∈Hb Hr) X (Hb Hm) w n env Hm O X a w:=by
 have hc:=hr.call hs;refine⟨⟨λi d hi=>?_,hc.rel.heap,Fr.refl _ _,λb hb=>.inl hb,hc.rel.heap.frb,hr.rel.dfr,hr.rel.tsz⟩,hc.own,hc.dis,hc.olt,hc.os,hc.tape,hc.output,hc.size,hc.block,hc.xs,hc.xn,hc.mine,hc.c0⟩;obtain⟨v,h1,h2⟩:=hr.rel.env i d hi;refine⟨v,h1,?_⟩;rw[jd1];exact h2.iff (λb hb=>(hs.own b).1 hb)
theorem RelC.whole{C X0 M w0 O X a w Hm Hr env' H' a' O' X' w'}(hr:RelC C X0 M w0 n env H O X a w)(hs:Split H Hm Hr)(hr':RelC (λb=>C b\/b∈Hb Hr) X (Hb Hm) w n env' H' O' X' a' w'):RelC C X0 M w0 n env' (H'++Hr) O' X' a' w':=by
 have hbk:=hr.back hs hr'.forget;refine⟨⟨λi d hi=>?_,hbk.rel.heap,hbk.rel.fr,hbk.rel.mine,hbk.rel.f0,hr'.rel.dfr,hr'.rel.tsz⟩,hbk.own,hbk.dis,hbk.olt,hbk.os,hbk.tape,hbk.output,hbk.size,hbk.block,hbk.xs,hbk.xn,hbk.mine,hbk.c0⟩;obtain⟨v,h1,h2⟩:=hr'.rel.env i d hi;rw[jd1] at h2;exact⟨v,h1,h2.iff (λb hb=>(jcM b).1 hb)⟩
theorem jh9{fuel listed g ds d' R}{xs:List Operand}{tys:Array TypeId}(i:Nat)(hr:Region.ready .any ops listed=[i])(ho:ops[i]?=some ⟨dst,.call { callee:=.value (.func g),args:=xs.toArray,argTypes:=tys },ty,pos,after,none⟩)
 (ha:ArgsL env xs ds) (hc:Con κ P g ds [] R) (hd:dst=some d') (hn:Nat.blt d' n=true)
 (hk:∀d H',R d H'->H'=[]/\AAny2 κ B P n ops fuel (listed.setIfInBounds i true) ((d',d)::env) H K):AAny2 κ B P n ops (fuel+1) listed env H K:=by
 refine⟨λ{main T} fit C X0 M w0 O X a w hrel Q hQ X₁ w₁ hR=>⟨λh0=>qp (hr.symm.trans h0) (by simp),λj hj=>?_⟩⟩;obtain rfl:j=i:=by rw[hr] at hj;simpa using hj
 have hr1:=hrel.rely hR;have hs:Split H [] H:=Split.none H
 have hst:AStep κ P n ⟨dst,.call { callee:=.value (.func g),args:=xs.toArray,argTypes:=tys },ty,pos,after,none⟩ env [] (λenv' H'=>H'=[]/\AAny2 κ B P n ops fuel (listed.setIfInBounds j true) env' H K) :=
  jhD (caps:=[]) (by simpa using hc) rfl ha (Split.none []) hd hn (λd H' hR=>by obtain⟨rfl,h2⟩:=hk d H' hR;exact⟨rfl,h2⟩)
 unfold Op1;simp only[ho];rw[qf (by simp[Region.wanted])];refine(hst.out fit (hr1.part hs) (λa' O' X' w'=>(B j=false->Gw X₁ w₁ X' w')/\anyL B P T ops Q fuel (listed.setIfInBounds j true) a' O' X' w') (λenv' H' a' O' X' w' hk' hr'=>?_)) X₁ w₁ (Fan.Rely.refl _ _);obtain⟨rfl,hk2⟩:=hk';refine⟨λ_=>⟨hr'.size,λb hb hx=>hr'.block b hb (by simp[Hb]) hx,hr'.xn⟩,?_⟩;exact hk2.out fit (by simpa using hr1.whole hs hr') Q hQ
theorem jkx{fuel listed Hm Hr}(hl:(List.range ops.size).all (λj=>listed.getD j true||B j)=true)(hls:listed.size=ops.size)(hs:Split H Hm Hr)
 (h:AAny κ P n Hr ops fuel listed env Hm (λenv' H'=>K env' (H'++Hr))):AAny2 κ B P n ops fuel listed env H K:=by
 refine⟨λ{main T} fit C X0 M w0 O X a w hr Q hQ=>?_⟩;refine jk9 (G:=Gr) fuel listed a O X w Hm (λj hj=>?_) ?_
 ·have hlt:j<ops.size:=by
   rcases Nat.lt_or_ge j listed.size with h' | h'
   ·omega
   ·simp[Array.getElem?_eq_none h'] at hj
  have h1:=List.all_eq_true.1 hl j (List.mem_range.2 hlt);rw[hj,Bool.false_or] at h1;exact h1
 refine h.out fit (hr.part hs) (λo ho=>⟨λb hb=>.inr (jaG ho hb),?_⟩) Q (λenv' H' a' O' X' w' hk hr'=>hQ env' (H'++Hr) a' O' X' w' hk (hr.whole hs hr'));rw[jd1];exact(hr.rel.heap.holds o ((hs.mem o).2 (.inr ho))).iff (λb hb=>(hs.own b).1 hb)
variable{Q:Exit->Env->Heap->Prop}
theorem jqQ(B:Nat->Bool)(hmix:P.follows .mixedOrders=true)
 (h:AAny2 κ B P n l.toArray l.toArray.size (Array.replicate l.toArray.size false) env H (λenv' H'=>Q .normal env' H')):AWp κ P n (.region id l.toArray true) env H Q:=by
 refine⟨λ{main T} fit C X0 M w0 O X a w hr0 b k cs hb hQ=>?_⟩;refine fit.closed.step _ _ _ _ rfl λX₁ w₁ hR=>?_;refine⟨_,_,_,Conc.stepG_region_draw,⟨rfl,rfl,rfl,Nat.le_refl _,λ_ _ _=>rfl,by simp⟩,?_⟩;have hr:RelC C X0 M w0 n env H O X₁ a { w₁ with drawn:=w₁.drawn+1 }:=(hr0.rely hR).rely (Fan.Rely.at X₁ w₁ (w₁.drawn+1));have eg:Fan.grow O w₁.heap.size ({ w₁ with drawn:=w₁.drawn+1 }:World).heap.size=O:=Fan.jbm O _;rw[eg];simp only[Region.schedule,hmix,Bool.true_or,if_true];refine jhU (Q:=λa O X w=>T O X (Conc.G (b.at a (.inRegion l.toArray []::k)) cs) w) fit.closed hb (λ_ _=>rfl) (λl i _ h=>by cases h) (λfuel t listed a O X w _ hrd q=>by rw[js3 hrd];exact q) _ _ _ a O X₁ _ () (jkJ (B:=B) _ _ _ _ _ _ (h.out fit hr _ (λenv' H' a' O' X' w' hk hr'=>?_)));exact fit.closed.idle rfl (λw=>Conc.stepG_region_end) (hQ .normal a' w' O' X' env' H' hk hr')
end
inductive BoxD:List D->D->Prop
 | agg {c cs}:BoxD (c::cs) (.agg (c::cs))
 | one {d} (h:Scal d):BoxD [d] d
inductive SubB(b:Nat)(d:D)(env:Env):List Nat->Env->Prop
 | nil:SubB b d env [] []
 | fz {i is r} (h:look env i=some (.p b 0)) (hr:SubB b d env is r):SubB b d env (i::is) ((i,.el d)::r)
 | same {i e is r} (h:look env i=some e) (hr:SubB b d env is r):SubB b d env (i::is) ((i,e)::r)
theorem SubB.look{b d is}{env env':Env}(h:SubB b d env is env'):∀i e,look env' i=some e->look env i=some e\/(look env i=some (.p b 0)/\e=.el d):=by
 induction h with
 | nil=>intro i e h;simp[Av.look] at h
 | @fz j is r h hr ih =>
  intro i e hi;rw[jcQ] at hi
  by_cases e':j=i
  ·subst e';simp only[if_true,qs] at hi;subst hi;exact .inr ⟨h,rfl⟩
  ·rw[qe e'] at hi;exact ih i e hi
 | @same j e1 is r h hr ih =>
  intro i e hi;rw[jcQ] at hi
  by_cases e':j=i
  ·subst e';simp only[if_true,qs] at hi;subst hi;exact .inl h
  ·rw[qe e'] at hi;exact ih i e hi
theorem jiZ{env H env' H1 b ty cs d}{live:List Nat}(hk:Rem H (.box b ty cs) H1)(hd:BoxD cs d)(he:SubB b d env live env'):Wk env H env' H1:=by
 refine⟨λF M w0 n a w hr=>?_⟩;have hp:H.Perm (H1++[.box b ty cs]):=hk.perm.trans (List.perm_append_comm (l₁:=[_]));have hmem:Ob.box b ty cs∈H:=hk.perm.symm.subset (za);have hbH:b∈Hb H:=jaG hmem rfl
 have hnO:¬Own F H1 b:=by
  rintro(hF | hm)
  ·exact hr.heap.disj b hbH hF
  ·have hbn:=((hp.filterMap Ob.blk).nodup_iff.1 hr.heap.nodup)
   rw[List.filterMap_append] at hbn;obtain⟨_,_,hdj⟩:=List.nodup_append.1 hbn;exact hdj b hm b (by simp[Ob.blk]) rfl
 have hE:Rep w (Own F H1) (.el d) (.pointer (some ⟨b,0,none⟩)):=by
  obtain⟨vs,h1,h2⟩:=hr.heap.holds _ hmem;have hcell:∀j c,vs[j]?=some c->w.cell? ⟨b,0+j,none⟩=some c:=λj c hj=>by rw[cell_of_row w b _ vs.toArray ty (0,0) h1];simpa using hj
  have h2':RepL w (Own F H1) cs vs:=RepL.mono (λx _ hx=>⟨λh=>hx (jgR hp x h),rfl⟩) _ _ h2;simp only[Rep];cases hd with
  | @agg c cs =>
   refine⟨⟨b,0,none⟩,.agg vs.toArray,rfl,by simp only[Rep];exact⟨vs,rfl,h2'⟩,λu hu=>h2.one u (by simpa[Value.cells] using hu),?_,.inr ⟨hnO,rfl,λj c hj=>?_⟩⟩
   ·have:=h2.length
    intro e;rw[show (Value.agg vs.toArray).cells.toList=vs from by simp[Value.cells]] at e;rw[e] at this;simp at this
   ·exact hcell j c (by simpa[Value.cells] using hj)
  | one hs =>
   simp only[RepL] at h2';obtain⟨c,cr,rfl,k1,k2,rfl⟩:=h2';have hc:=hs.cells k1;refine⟨⟨b,0,none⟩,c,rfl,k1,λu hu=>?_,by rw[hc];simp,.inr ⟨hnO,rfl,λj u hj=>?_⟩⟩
   ·rw[hc] at hu;obtain rfl:u=c:=by simpa using hu
    exact k2
   ·rw[hc] at hj;exact hcell j u (by simpa using hj)
 refine⟨λi e hi=>?_,hr.heap.perm hp,hr.fr,λx hx=>hr.mine x (jk2 hp x hx),hr.f0,hr.dfr,hr.tsz⟩;rcases he.look i e hi with h' | ⟨h',rfl⟩
 ·obtain⟨v,h1,h2⟩:=hr.env i e h'
  exact⟨v,h1,h2.iff (jgR hp)⟩
 ·obtain⟨v,h1,h2⟩:=hr.env i _ h'
  have:v=.pointer (some ⟨b,0,none⟩):=by simpa[Rep] using h2
  exact⟨v,h1,this ▸ hE⟩
abbrev Pd:=Option (Nat × List Value)
structure AWm(Ps:Value->World->Prop)(P:Program)(n:Nat)(s:Pd)(c:Code)(env:Env)(H:Heap)(Q:Exit->Pd->Env->Heap->Prop):Prop where
 out:∀{C X0 M w0 O X a w},RelC C X0 M w0 n env H O X a w->∀{b:Frame}{k:List Item}{cs:List Frame},b.kind≠.early ->
  (∀e s' a' w' O' X' env' H',Q e s' env' H'->RelC C X0 M w0 n env' H' O' X' a' w'->AfterT (Fan.GoM P Ps s') b k cs e a' O' X' w')->Fan.GoM P Ps s O X (Conc.G (b.at a (.code c::k)) cs) w
section
variable{Ps:Value->World->Prop}{P:Program}{n:Nat}{s:Pd}{env:Env}{H:Heap}{Q:Exit->Pd->Env->Heap->Prop}
theorem jz0{c:Code}{Q':Exit->Env->Heap->Prop}(h:AWp none P n c env H Q')(hq:∀e env' H',Q' e env' H'->Q e s env' H'):AWm Ps P n s c env H Q :=
 ⟨λhr _ _ _ hb hQ=>h.out (κ:=none) (main:=true) (T:=Fan.GoM P Ps s) (Fan.jbQ s) hr hb λe a' w' O' X' env' H' q hr'=>hQ e s a' w' O' X' env' H' (hq _ _ _ q) hr'⟩
theorem jpW{c:Code}{Q':Exit->Env->Heap->Prop}(h:AWm Ps P n none c env H (λe s' env' H'=>s'=none/\Q' e env' H')):AWp (some Ps) P n c env H Q':=by
 refine⟨λ{main T} fit C X0 M w0 O X a w hr b k cs hb hQ=>?_⟩;obtain⟨rfl,rfl⟩:=fit;exact h.out hr hb λe s' a' w' O' X' env' H' ⟨hs,q⟩ hr'=>by subst hs;exact hQ e a' w' O' X' env' H' q hr'
theorem jnp{c:Code}{env' H'}(hw:Wk env H env' H')(h:AWm Ps P n s c env' H' Q):AWm Ps P n s c env H Q :=
 ⟨λhr _ _ _ hb hQ=>h.out (hr.wk hw) hb hQ⟩
theorem jqL{c:Code}{ch:Nat}(h:AWm Ps P n none c env H Q):AWm Ps P n (some (ch,[])) c env H Q :=
 ⟨λhr _ _ _ hb hQ=>.close (h.out hr hb hQ)⟩
def seqM(N:Pd->Env->Heap->Prop)(Q:Exit->Pd->Env->Heap->Prop):Exit->Pd->Env->Heap->Prop
 | .normal,s,e,h=>N s e h
 | x,s,e,h=>Q x s e h
def blockM(id:Nat)(Q:Exit->Pd->Env->Heap->Prop):Exit->Pd->Env->Heap->Prop
 | .exit i,s,e,h=>bif Nat.beq i id then Q .normal s e h else Q (.exit i) s e h
 | x,s,e,h=>Q x s e h
theorem jd0{O X:Nat->Prop}{g g':Goroutine}{w:World}(hs:g.status=.running)(h:∀w,stepG P true g w=.go g' w)(k:Fan.GoM P Ps s O X g' w):Fan.GoM P Ps s O X g w:=(Fan.jbQ s).idle hs h k
theorem jaY{c c':Code}(h:AWm Ps P n s c env H (seqM (λs' env' H'=>AWm Ps P n s' c' env' H' Q) Q)):AWm Ps P n s (.seq c c') env H Q:=by
 refine⟨λhr b k cs hb hQ=>jd0 rfl (λw=>Conc.stepG_seq) (h.out hr hb λe s' a' w' O' X' env' H' hq hr'=>?_)⟩;cases e with
 | normal=>exact AWm.out hq hr' hb hQ
 | _=>exact(hQ _ s' a' w' O' X' env' H' hq hr').push rfl (by simp)
theorem jeI{c:Code}{id}(h:AWm Ps P n s c env H (blockM id Q)):AWm Ps P n s (.block id c) env H Q:=by
 refine⟨λhr b k cs hb hQ=>jd0 rfl (λw=>Conc.stepG_block) (h.out hr hb λe s' a' w' O' X' env' H' hq hr'=>?_)⟩;cases e with
 | normal=>exact jd0 rfl (λw=>Conc.stepG_inBlock) (hQ .normal s' a' w' O' X' env' H' hq hr')
 | exit i =>
  by_cases e:i=id
  ·subst e
   have hq':Q .normal s' env' H':=by simpa[blockM] using hq
   exact⟨k,by simp[exitTo],hQ .normal s' a' w' O' X' env' H' hq' hr'⟩
  ·have hb':Nat.beq i id=false:=Bool.eq_false_iff.2 (λh'=>e (Nat.eq_of_beq_eq_true h'))
   have hq':Q (.exit i) s' env' H':=by simpa[blockM,hb'] using hq
   obtain⟨k',hk',hg⟩:=hQ (.exit i) s' a' w' O' X' env' H' hq' hr';have:(id == i)=false:=by simp;exact λh=>e h.symm
   exact⟨k',by simp[exitTo,this,hk'],hg⟩
 | ret=>exact hQ .ret s' a' w' O' X' env' H' hq hr'
 | _=>exact(hQ _ s' a' w' O' X' env' H' hq hr').elim
theorem jfZ(h:Q .normal s env H):AWm Ps P n s .skip env H Q:=⟨λhr _ _ _ hb hQ=>jd0 rfl (λw=>Conc.stepG_skip) (hQ _ _ _ _ _ _ _ _ h hr)⟩
theorem jnd{id}(h:Q (.exit id) s env H):AWm Ps P n s (.exit id) env H Q:=⟨λhr _ _ _ hb hQ=>by
 obtain⟨k',hk',hg⟩:=hQ _ _ _ _ _ _ _ _ h hr
 exact jd0 rfl (λw=>Conc.stepG_exit hk') hg⟩
theorem jwJ(h:Q .ret s env H):AWm Ps P n s .ret env H Q:=⟨λhr _ _ _ hb hQ=>jd0 rfl (λw=>Conc.stepG_ret') (hQ _ _ _ _ _ _ _ _ h hr _)⟩
theorem jji{c:Operand}{t:Bool}{c1 c2:Code}(hc:opd env c=some (.b t))(ht:t=true->AWm Ps P n s c1 env H Q)(hf:t=false->AWm Ps P n s c2 env H Q):AWm Ps P n s (.cond c c1 c2) env H Q:=by
 refine⟨λhr b k cs hb hQ=>jd0 rfl (λw=>Conc.stepG_cond (hr.rel.opdv hc)) ?_⟩;cases t with
 | true=>exact(ht rfl).out hr hb hQ
 | false=>exact(hf rfl).out hr hb hQ
theorem jnS{ι:Type}{c:Code}(S:ι->Pd)(E:ι->Env)(Hp:ι->Heap)(I:ι->Prop)(μ:ι->Nat)(i0:ι)(h0:I i0)(hs:s=S i0)(hw:Wk env H (E i0) (Hp i0))
 (round:∀i,I i->AWm Ps P n (S i) c (E i) (Hp i) (seqM (λs' env' H'=>∃j,I j/\μ j<μ i/\s'=S j/\Wk env' H' (E j) (Hp j)) Q)):AWm Ps P n s (.loop c) env H Q:=by
 subst hs;refine⟨λ{C X0 M w0 O X a w} hr b k cs hb hQ=>jd0 rfl (λw=>Conc.stepG_loop) ?_⟩
 have key:∀m,∀i,μ i=m->I i->∀O X a w,RelC C X0 M w0 n (E i) (Hp i) O X a w->Fan.GoM P Ps (S i) O X (Conc.G (b.at a (.code c::.inLoop c::k)) cs) w:=by
  intro m
  induction m using Nat.strongRecOn with
  | _ m ih =>
   intro i hm hi O X a w hr;refine(round i hi).out hr hb λe s' a' w' O' X' env' H' hq hr'=>?_;cases e with
   | normal =>
    obtain⟨j,hj,hlt,rfl,hwk⟩:=hq;exact jd0 rfl (λw=>Conc.stepG_inLoop) (ih (μ j) (hm ▸ hlt) j rfl hj O' X' a' w' (hr'.wk hwk))
   | _=>exact(hQ _ s' a' w' O' X' env' H' hq hr').push rfl (by simp)
 exact key _ i0 rfl h0 O X a w (hr.wk hw)
end
section
variable{Ps:Value->World->Prop}{P:Program}{n:Nat}{s:Pd}{env:Env}{H:Heap}{Q:Exit->Pd->Env->Heap->Prop}
def tchan(P:Program)(t:TypeId):Option TypeId:=match P.underlying t with | some (.chan _ e)=>some e | _=>none
theorem jxB{e:TypeId}(h:tchan P t=some e)(hi:(P.info? e).isSome=true)(w:World):(Instr.makeChan t (.int .i64 0)).run P w=.ok (.chan (some w.heap.size)) (w.alloc (.chan 0 #[] false 0 0 false))/\(Instr.makeChan t (.int .i64 0)).events P w #[]=#[]:=by
 unfold tchan at h;cases hu:P.underlying t with
 | none=>rw[hu] at h;cases h
 | some d =>
  rw[hu] at h;cases d<;>simp only[reduceCtorEq,qs] at h
  subst h;obtain⟨i,hi⟩:=Option.isSome_iff_exists.1 hi;exact⟨by simpa using Conc.run_makeChan (P:=P) (w:=w) hu hi .i64 0 zo zo,by simpa using Conc.events_makeChan (P:=P) (w:=w) hu hi .i64 0 zo zo #[]⟩
theorem jpw{e:TypeId}{d:Tmp}{ty pos after rest}(ht:tchan P t=some e)(hi:(P.info? e).isSome=true)(hn:Nat.blt d n=true)
 (h:∀c:Nat,AOps none P n (⟨some d,.makeChan t (.const (.int .i64 0)),ty,pos,after,none⟩::rest:List Oper).toArray rest ((d,.v (.chan (some c)))::env) H (λenv' H'=>Q .normal (some (c,[])) env' H')) :
 AWm Ps P n none (.region id (⟨some d,.makeChan t (.const (.int .i64 0)),ty,pos,after,none⟩::rest:List Oper).toArray false) env H Q:=by
 refine⟨λ{C X0 M w0 O X a w} hr b k cs hb hQ=>jd0 rfl (λw=>Conc.stepG_region) ?_⟩;have er:List.range (⟨some d,.makeChan t (.const (.int .i64 0)),ty,pos,after,none⟩::rest:List Oper).toArray.size=0::(List.range' ([(⟨some d,.makeChan t (.const (.int .i64 0)),ty,pos,after,none⟩:Oper)]).length rest.length++[]):=by simp[List.range_eq_range',List.range'_succ]
 rw[er];refine(Fan.jbQ none).step _ _ _ _ rfl λX₁ w₁ hR=>?_;have hr1:=hr.rely hR;obtain⟨m1,m2⟩:=jxB (P:=P) ht hi w₁;have hex:(execOp a.eval (⟨some d,.makeChan t (.const (.int .i64 0)),ty,pos,after,none⟩:Oper)).run P w₁=.ok (.value (.chan (some w₁.heap.size))) (w₁.alloc (.chan 0 #[] false 0 0 false)):=by simp[execOp,Act.eval,m1]
 have hev:(execOp a.eval (⟨some d,.makeChan t (.const (.int .i64 0)),ty,pos,after,none⟩:Oper)).events P w₁ #[]=#[]:=by simp[execOp,Act.eval,m1,m2]
 have hsz:(w₁.alloc (.chan 0 #[] false 0 0 false)).heap.size=w₁.heap.size+1:=by simp
 have hold:∀x,x<w₁.heap.size->(w₁.alloc (.chan 0 #[] false 0 0 false)).heap[x]?=w₁.heap[x]?:=λx hx =>
  (Fr.alloc w₁ _).block x hx (by simp)
 refine⟨_,_,_,Conc.stepG_value (o:=⟨some d,.makeChan t (.const (.int .i64 0)),ty,pos,after,none⟩) rfl rfl hb hex,?_,?_⟩
 ·unfold Conc.listed
  rw[hev,Conc.seen_none];exact⟨rfl,rfl,rfl,by omega,λx hx _=>hold x hx,by simp⟩
 ·have hXs:¬X₁ w₁.heap.size:=λhx=>by have:=hr1.rel.heap.frb _ (.inr hx);omega
  have hRc:Fan.Rely X₁ w₁ (λx=>X₁ x\/x=w₁.heap.size) (w₁.alloc (.chan 0 #[] false 0 0 false)) :=
   ⟨rfl,rfl,rfl,by omega,λx hx _=>hold x hx,λx=>by rw[hsz];constructor<;>(intro h;rcases h with h | h<;>first | exact .inl h | exact .inr zo)⟩
  have hr2:=hr1.rely hRc;refine .chan w₁.heap.size (.inr ⟨Nat.le_refl _,by omega⟩) hXs (heap_alloc_new w₁ _) ?_
  have hO:(λx=>Fan.grow O w₁.heap.size (w₁.alloc (.chan 0 #[] false 0 0 false)).heap.size x/\x≠w₁.heap.size)=O:=by
   funext x
   simp only[Fan.grow,hsz,eq_iff_iff];constructor
   ·rintro⟨h | h,hne⟩
    ·exact h
    ·omega
   ·intro h
    have:=hr1.olt x h;exact⟨.inl h,by omega⟩
  rw[hO];refine AOpsR.sound (κ:=none) (main:=true) (T:=Fan.GoM P Ps (some (w₁.heap.size,[]))) (post:=[]) (rest:=[]) (Fan.jbQ _) hb rest [_] _ H _ (by simp) (h w₁.heap.size).out O _ _ _ (hr2.put (by simp[Rep]) (by simpa[Nat.blt_eq] using hn)) λenv' H' O' X' a' w' hk hr'=>?_;exact jd0 rfl (λw=>Conc.stepG_region_end) (hQ .normal _ a' w' O' X' env' H' hk hr')
noncomputable def bot (P:Program):Frame:={ (default:Frame) with fn:=P.funcs.size,defers:=[],mode:=.panicking [goexitEntry] }
theorem jsk{g:FuncId}{vs:Array Value}{c:Code}(hf:P.funcs[g]?=some fn)(hb:fn.body=some c)(hcall:∀(vs:Array Value)(w:World),(callFunc g vs).run P w=.ok (.enter g vs) w)(w:World) :
 stepG P false (Conc.born P { target:=.fn (.func g) vs,args:=#[] }) w=.go (Conc.G (Frame.enter P g vs .deferred) [bot P]) w #[]:=by
 have e1:=hcall vs w;have e2:=jfL hf hb hcall vs w;have e0:(#[]:Array Value)++vs=vs:=by simp
 simp[Conc.born,stepG,unwind,callDeferred,invoke,e0,e1,e2,seen,GStep.after,Conc.G,bot]
structure ConW(P:Program)(g:FuncId)(args:List D)(c:Nat)(v:Value):Prop where
 call:∀(vs:Array Value)(w:World),(callFunc g vs).run P w=.ok (.enter g vs) w
 code:∃fn c,P.funcs[g]?=some fn/\fn.body=some c
 run:∀{O X:Nat->Prop}{w:World}{vs:List Value},RelC (λ_=>False) X [] w 0 [] [] O X nact w->RepT w (Own (λb=>False\/X b) []) args vs->Fan.GoW P c v O X (Conc.G (Frame.enter P g vs.toArray .deferred) [bot P]) w
theorem jzY{g:FuncId}{xs:List Operand}{ds:List D}{tf:Tmp}{ty pos after ty2 pos2 after2}{c:Nat}(v:Value)(ha:ArgsL env xs ds)(hl:look env tf=none)(hn:Nat.blt tf n=true)(hW:ConW P g ds c v)
 (h:Q .normal (some (c,v::pd)) env H) :
 AWm Ps P n (some (c,pd)) (.region id #[⟨some tf,.makeFunc (.func g) #[] xs.toArray,ty,pos,after,none⟩,⟨none,.go { callee:=.value (.tmp tf),args:=#[],argTypes:=#[] },ty2,pos2,after2,none⟩] false) env H Q:=by
 have htf:tf<n:=by simpa[Nat.blt_eq] using hn
 refine⟨λ{C X0 M w0 O X a w} hr b k cs hb hQ=>jd0 rfl (λw=>Conc.stepG_region) ?_⟩
 generalize hops:(#[⟨some tf,.makeFunc (.func g) #[] xs.toArray,ty,pos,after,none⟩,⟨none,.go { callee:=.value (.tmp tf),args:=#[],argTypes:=#[] },ty2,pos2,after2,none⟩]:Array Oper)=ops
 have h0:ops[0]?=some ⟨some tf,.makeFunc (.func g) #[] xs.toArray,ty,pos,after,none⟩:=by rw[<-hops];rfl
 have h1:ops[1]?=some ⟨none,.go { callee:=.value (.tmp tf),args:=#[],argTypes:=#[] },ty2,pos2,after2,none⟩:=by rw[<-hops];rfl
 have hs:List.range ops.size=[0,1]:=by rw[<-hops];rfl
 rw[hs];refine jd0 (g':=Conc.G (b.at (a.put (some tf) (.func (.func g) #[] (xs.map a.eval).toArray)) (.inRegion ops [1]::k)) cs) rfl (λw=>?_) ?_
 ·have hex:(execOp a.eval (⟨some tf,.makeFunc (.func g) #[] xs.toArray,ty,pos,after,none⟩:Oper)).run P w=.ok (.value (.func (.func g) #[] (xs.map a.eval).toArray)) w:=by simp[execOp,Instr.makeFunc]
  have hev:(execOp a.eval (⟨some tf,.makeFunc (.func g) #[] xs.toArray,ty,pos,after,none⟩:Oper)).events P w #[]=#[]:=by simp[execOp,Instr.makeFunc]
  have:=Conc.stepG_value (main:=true) (P:=P) (b:=b) (a:=a) (k:=k) (cs:=cs) (rest:=[1]) h0 rfl hb hex;unfold Conc.listed at this;rw[hev,Conc.seen_none] at this;exact this
 ·have hra:=hr.drop hl (Value.func (.func g) #[] (xs.map a.eval).toArray)
  have hval:(a.put (some tf) (Value.func (.func g) #[] (xs.map a.eval).toArray)).eval (.tmp tf)=Value.func (.func g) #[] (xs.map a.eval).toArray:=by
   simp[Act.eval,Act.put,hr.rel.tsz,htf]
  have hargs:∀{X₁ w₁},Fan.Rely X w X₁ w₁->RepT w₁ (Own (λb=>C b\/X₁ b) H) ds (xs.map a.eval):=λhR=>ha.rep (hr.rely hR).rel
  generalize a.put (some tf) (Value.func (.func g) #[] (xs.map a.eval).toArray)=a' at hra hval
  have hstep:∀w₁,stepG P true (Conc.G (b.at a' (.inRegion ops [1]::k)) cs) w₁=.spawn (Conc.G (b.at (a'.put none undef) (.inRegion ops []::k)) cs) (Conc.born P { target:=.fn (.func g) (xs.map a.eval).toArray,args:=#[] }) w₁ #[]:=λw₁=>by
   have hex:(execOp a'.eval (⟨none,.go { callee:=.value (.tmp tf),args:=#[],argTypes:=#[] },ty2,pos2,after2,none⟩:Oper)).run P w₁=.ok (.spawn { target:=.fn (.func g) (xs.map a.eval).toArray,args:=#[] }) w₁:=by
    simp[execOp,resolve,hval,Deferred.ofValue]
   have hev:(execOp a'.eval (⟨none,.go { callee:=.value (.tmp tf),args:=#[],argTypes:=#[] },ty2,pos2,after2,none⟩:Oper)).events P w₁ #[]=#[]:=by
    simp[execOp,resolve,hval,Deferred.ofValue]
   have:=Conc.stepG_spawn (main:=true) (P:=P) (b:=b) (a:=a') (k:=k) (cs:=cs) (rest:=[]) h1 rfl hb hex rfl;unfold Conc.listed at this;rw[hev,Conc.seen_none] at this;exact this
  refine .spawn v (λx=>C x\/x∈Hb H) hr.own rfl (λX₁ w₁ hR=>⟨_,_,_,hstep w₁,by simp,?_⟩) (λX₁ w₁ g' child es hR hst=>?_)
  ·obtain⟨fn,cd,hf,hb2⟩:=hW.code
   have hr1:=hr.rely hR;refine Fan.jdB.idle rfl (λw=>jsk hf hb2 hW.call w) (hW.run ?_ ?_)
   ·refine⟨⟨λi d hi=>by simp[look] at hi,⟨λo ho=>qp ho qv,by simp[Hb],λb hb=>by simp[Hb] at hb,λx hx=>?_⟩,Fr.refl _ _,λb hb=>by simp[Hb] at hb,λx hx=>?_,rfl,rfl⟩,λb hb=>?_,λb hb=>hb.elim,λb hb=>hb.elim,rfl,rfl,rfl,Nat.le_refl _,λ_ _ _ _=>rfl,λ_ h=>h,λ_ h=>.inl h,λb hb=>by simp[Hb] at hb,λb hb=>hb.elim⟩
    ·rcases hx with hx | hx | hx
     ·exact hx.elim
     ·exact hr1.olt x (hr1.own x hx)
     ·exact hr1.rel.heap.frb x (.inr hx)
    ·rcases hx with hx | hx | hx
     ·exact hx.elim
     ·exact hr1.olt x (hr1.own x hx)
     ·exact hr1.rel.heap.frb x (.inr hx)
    ·rcases hb with hb | hb
     ·exact hb.elim
     ·simp[Hb] at hb
   ·refine(hargs hR).iff (λx hx=>?_)
    rcases hx with hx | hx
    ·rcases hx with hx | hx | hx
     ·exact hx.elim
     ·rcases hx with hx | hx
      ·exact .inl (.inl hx)
      ·exact .inr hx
     ·exact .inl (.inr hx)
    ·simp[Hb] at hx
  ·rw[hstep w₁] at hst
   cases hst;have hr1:=hra.rely hR;refine jd0 rfl (λw=>Conc.stepG_region_end) (hQ .normal _ _ w₁ _ X₁ env H h ?_);exact⟨hr1.rel,λx hx=>hx,λx hx=>hr1.dis x (hr1.own x hx),λx hx=>hr1.olt x (hr1.own x hx),hr1.os,hr1.tape,hr1.output,hr1.size,hr1.block,hr1.xs,hr1.xn,hr1.mine,hr1.c0⟩
theorem jtL{pre rest:List Oper}{e:TypeId}{t1 t2:Tmp}{ty pos after}{c:Nat}(ht:tchan P t=some e)(hz:(tzero P e).isSome=true)(hn:Nat.blt t2 n=true)(hne:pd≠[])
 (h:AOps none P n (pre++⟨some t2,.recv t (.tmp t1) false,ty,pos,after,none⟩::rest).toArray pre env H (λenv' H'=>look env' t1=some (.v (.chan (some c)))/\∀l₁ v l₂,pd=l₁++v::l₂->∃d,(∀w O,Rep w O d v) /\
   AOps none P n (pre++⟨some t2,.recv t (.tmp t1) false,ty,pos,after,none⟩::rest).toArray rest ((t2,d)::env') H' (λenv'' H''=>Q .normal (some (c,l₁++l₂)) env'' H''))) :
 AWm Ps P n (some (c,pd)) (.region id (pre++⟨some t2,.recv t (.tmp t1) false,ty,pos,after,none⟩::rest).toArray false) env H Q:=by
 refine⟨λ{C X0 M w0 O X a w} hr b k cs hb hQ=>jd0 rfl (λw=>Conc.stepG_region) ?_⟩
 have er:List.range (pre++⟨some t2,.recv t (.tmp t1) false,ty,pos,after,none⟩::rest).toArray.size=List.range' ([]:List Oper).length pre.length++(pre.length::(List.range' (pre++[(⟨some t2,.recv t (.tmp t1) false,ty,pos,after,none⟩:Oper)]).length rest.length++[])):=by
  simp[List.range_eq_range',List.range'_append,<-List.range'_succ];have:=List.range'_append (s:=0) (m:=pre.length) (n:=rest.length+1) (step:=1);simpa using this.symm
 rw[er]
 generalize hops:(pre++⟨some t2,.recv t (.tmp t1) false,ty,pos,after,none⟩::rest).toArray=ops at h
 have hmid:ops[pre.length]?=some ⟨some t2,.recv t (.tmp t1) false,ty,pos,after,none⟩:=by rw[<-hops];simp
 refine AOpsR.sound (κ:=none) (main:=true) (T:=Fan.GoM P Ps (some (c,pd))) (post:=⟨some t2,.recv t (.tmp t1) false,ty,pos,after,none⟩::rest) (Fan.jbQ _) hb pre [] env H _ (by simp[<-hops]) h.out O X a w hr λenv' H' O' X' a' w' ⟨hk1,hk2⟩ hr'=>?_;obtain⟨us,hus⟩:=Option.isSome_iff_exists.1 hz
 have hstep:∀X₁ w₁,Fan.Rely X' w' X₁ w₁->∃z,stepG P true (Conc.G (b.at a' (.inRegion ops (pre.length::(List.range' (pre++[(⟨some t2,.recv t (.tmp t1) false,ty,pos,after,none⟩:Oper)]).length rest.length++[]))::k)) cs) w₁=.comm (Conc.G (b.at a' (.inRegion ops (pre.length::(List.range' (pre++[(⟨some t2,.recv t (.tmp t1) false,ty,pos,after,none⟩:Oper)]).length rest.length++[]))::k)) cs) #[Conc.rcase c z] true (.recv false) w₁ #[]:=by
  intro X₁ w₁ hR;have hch:a'.eval (.tmp t1)=.chan (some c):=(hr'.rely hR).rel.opdv (x:=.tmp t1) hk1;obtain⟨z,hz1,hz2⟩:=jcK hus w₁;refine⟨z,?_⟩
  have hu:∃dir,P.underlying t=some (.chan dir e):=by
   unfold tchan at ht;cases hu:P.underlying t with
   | none=>rw[hu] at ht;cases ht
   | some d =>
    rw[hu] at ht;cases d<;>simp only[reduceCtorEq,qs] at ht
    subst ht;exact⟨_,rfl⟩
  obtain⟨dir,hu⟩:=hu
  have hex:(execOp a'.eval (⟨some t2,.recv t (.tmp t1) false,ty,pos,after,none⟩:Oper)).run P w₁=.ok (.comm #[Conc.rcase c z] true (.recv false)) w₁:=by
   simp[execOp,run_underlying hu,hz1,hch,Conc.rcase]
  have hev:(execOp a'.eval (⟨some t2,.recv t (.tmp t1) false,ty,pos,after,none⟩:Oper)).events P w₁ #[]=#[]:=by
   simp[execOp,run_underlying hu,hz1,hch,events_zeroValue]
  have:=Conc.stepG_comm (main:=true) (P:=P) (b:=b) (a:=a') (k:=k) (cs:=cs) (rest:=(List.range' (pre++[(⟨some t2,.recv t (.tmp t1) false,ty,pos,after,none⟩:Oper)]).length rest.length++[])) hmid rfl hb hex;unfold Conc.listed at this;rw[hev,Conc.seen_none] at this;exact this
 refine .recv hne rfl (λX₁ w₁ hR=>let ⟨z,hz⟩:=hstep X₁ w₁ hR;⟨_,z,_,hz,by simp⟩) λX₁ w₁ g₂ z es l₁ v l₂ hR hst hpd=>?_;obtain⟨z',hz'⟩:=hstep X₁ w₁ hR;rw[hz'] at hst;cases hst;obtain⟨d,hd,hops2⟩:=hk2 l₁ v l₂ hpd;rw[Conc.served_G,hmid];have hr1:=(hr'.rely hR).put (t:=t2) (d:=d) (v:=v) (hd _ _) (by simpa[Nat.blt_eq] using hn);refine AOpsR.sound (κ:=none) (main:=true) (T:=Fan.GoM P Ps (some (c,l₁++l₂))) (post:=[]) (rest:=[]) (Fan.jbQ _) hb rest (pre++[_]) _ H' _ (by simp[<-hops]) hops2.out O' X₁ _ w₁ hr1 λenv'' H'' O'' X'' a'' w'' hk hr''=>?_;exact jd0 rfl (λw=>Conc.stepG_region_end) (hQ .normal _ a'' w'' O'' X'' env'' H'' hk hr'')
end
section generic
variable{P:Program}{T:Tgt}{ops:Array Oper}{Q:Act->(Nat->Prop)->(Nat->Prop)->World->Prop}{md:Region.Mode}{stop:List Nat}{Y:Type}{G:Y->(Nat->Prop)->World->Y->(Nat->Prop)->World->Prop}
theorem jxD{j fuel t:Nat}{l:Array Bool}(h1:Region.ready md ops l=[j])(h2:Region.ready md ops (l.setIfInBounds j true)=[]):Region.linearise.go md ops (fuel+1) t l []=[j]:=by
 simp only[Region.linearise.go]
 change (match (Region.ready md ops l)[t % (Region.ready md ops l).length]? with
  | some i=>Region.linearise.go md ops fuel (t / (Region.ready md ops l).length) (l.setIfInBounds i true) [i]
  | none=>[].reverse)=[j]
 rw[h1];simp only[qi,qu,Nat.zero_add,Nat.mod_one,List.getElem?_cons_zero];rw[linearise_go_acc,List.reverse_singleton,js3 h2];rfl
theorem jl4{main:Bool}(hT:Fan.Closed P main T){b:Frame}{k:List Item}{cs:List Frame}(hb:b.kind≠.early)(J:Array Bool->Prop)
 (hJ:∀l i,J l->i∈Region.ready md ops l->i∉stop->J (l.setIfInBounds i true)) (hne:∀l:Array Bool,J l->Region.ready md ops l≠[]) (hsx:∀(l:Array Bool) i,J l->i∈Region.ready md ops l->i∈stop->Region.ready md ops l=stop)
 (hQ:∀fuel t listed a O X w,J listed->Region.ready md ops listed=stop->Q a O X w->T O X (Conc.G (b.at a (.inRegion ops (Region.linearise.go md ops (fuel+1) t listed [])::k)) cs) w):∀(fuel t:Nat)(listed:Array Bool)(a:Act)(O X:Nat->Prop)(w:World)(x:Y),
 J listed->anyS stop P T md ops Q G fuel listed a O X w x->T O X (Conc.G (b.at a (.inRegion ops (Region.linearise.go md ops fuel t listed [])::k)) cs) w:=by
 intro fuel
 induction fuel with
 | zero =>
  intro t listed a O X w x hj h;exact qp (h X w (Fan.Rely.refl X w)).1 (hne listed hj)
 | succ fuel ih =>
  intro t listed a O X w x hj h
  by_cases hst:Region.ready md ops listed=stop
  ·exact hQ fuel t listed a O X w hj hst ((h X w (Fan.Rely.refl X w)).1 hst)
  simp only[Region.linearise.go]
  change T O X (Conc.G (b.at a (.inRegion ops (match (Region.ready md ops listed)[t % (Region.ready md ops listed).length]? with
   | some i=>Region.linearise.go md ops fuel (t / (Region.ready md ops listed).length) (listed.setIfInBounds i true) [i]
   | none=>[].reverse)::k)) cs) w
  cases hi:(Region.ready md ops listed)[t % (Region.ready md ops listed).length]? with
  | none =>
   have hnil:Region.ready md ops listed=[]:=by
    cases hr:Region.ready md ops listed with
    | nil=>rfl
    | cons x xs =>
     rw[hr] at hi;have hlt:t % (x::xs).length<(x::xs).length:=Nat.mod_lt _ (by simp);simp at hi;simp at hlt;omega
   exact qp hnil (hne listed hj)
  | some i =>
   have hmem:=qk hi;have his:i∉stop:=λh=>hst (hsx listed i hj hmem h);have hj':=hJ listed i hj hmem his;simp only[];rw[linearise_go_acc,List.reverse_singleton,List.singleton_append];cases ho:ops[i]? with
   | none=>have:=(h X w (Fan.Rely.refl X w)).2 i hmem his;unfold Op1 at this;rw[ho] at this;exact this.elim
   | some o =>
    by_cases hw:Region.wanted o (yielded ops a.tmps)=true
    ·have hS:SemS P T (execOp a.eval o) (λv O' X' w'=>T O' X' (Conc.G (b.at (a.put o.dst v) (.inRegion ops (Region.linearise.go md ops fuel (t / (Region.ready md ops listed).length) (listed.setIfInBounds i true) [])::k)) cs) w') O X w:=by
      intro X₁ w₁ hR;have h1:=(h X₁ w₁ hR).2 i hmem his;unfold Op1 at h1;rw[ho] at h1;simp only at h1;rw[qf hw] at h1;exact jgi (λv O' X' w' ⟨x',_,h'⟩=>ih _ _ _ _ _ _ x' hj' h') h1
     exact hS.step hT hb ho hw (λv O' X' w' q=>q)
    ·have h1:=(h X w (Fan.Rely.refl X w)).2 i hmem his
     unfold Op1 at h1;rw[ho] at h1;simp only at h1;rw[qe hw] at h1;obtain⟨x',_,h'⟩:=h1;exact hT.idle rfl (λw=>Conc.stepG_unwanted ho (by simpa using hw)) (ih _ _ _ _ _ _ x' hj' h')
end generic
section
variable{P:Program}{n:Nat}{env:Env}{H:Heap}{dst:Option Tmp}{ty:TypeId}{pos:String}{after:Array Edge}{gd:Option (Nat × Bool)}
structure AAnyT(stop:List Nat)(P:Program)(n:Nat)(ops:Array Oper)(fuel:Nat)(listed:Array Bool)(env:Env)(H:Heap)(K:Env->Heap->Prop):Prop where
 out:∀{main T},Fan.Closed P main T->∀{C X0 M w0 O X a w},RelC C X0 M w0 n env H O X a w->∀(Q:Act->(Nat->Prop)->(Nat->Prop)->World->Prop),
  (∀env' H' a' O' X' w',K env' H'->RelC C X0 M w0 n env' H' O' X' a' w'->Q a' O' X' w')->anyS stop P T .any ops Q Gr fuel listed a O X w H
theorem jfB{stop ops fuel listed K d t}(i:Nat)(his:i∉stop)(ho:ops[i]?=some o)(hgd:Gd ops env o true)(hs:Region.noSelect ops=true)(hf:Region.free .any ops listed i=true)(hr:(Region.ready .any ops listed).contains i=true)
 (h:AR P n [] o env H d) (hd:o.dst=some t) (ht:Nat.blt t n=true) (hk:AAnyT stop P n ops fuel (listed.setIfInBounds i true) ((t,d)::env) H K):AAnyT stop P n ops (fuel+1) listed env H K:=by
 refine⟨λ{main T} fit C X0 M w0 O X a w hrel Q hQ=>?_⟩;obtain⟨v,h1,h2⟩:=h.out _ _ _ a w X hrel.rel (λo ho=>qp ho qv) (λb hb=>.inr hb) (λo ho=>qp ho qv);refine jdQ (v:=v) Gr.refl Gr.rely Gr.trans his ho (Region.noSelect_spec hs) fuel listed a O X w H (Region.free_spec ho hf) (by simpa using hr) (.inl ⟨hgd.wanted hrel.rel,λX' w' ⟨x',hG⟩=>?_⟩) ?_
 ·obtain⟨k1,k2⟩:=h2 w' hG.block
  exact⟨k1,λe he=>by
   obtain⟨ad,q1,q2,q3⟩:=k2 e he;refine⟨ad,q1,qA q2 hG.size,λhx=>?_⟩;rcases hG.xn _ hx with h' | h'
   ·exact q3 h'
   ·omega⟩
 ·rw[hd]
  exact hk.out fit (hrel.put h1 (by simpa[Nat.blt_eq] using ht)) Q hQ
theorem jq8{stop ops fuel listed K}(i:Nat){op:Op}(his:i∉stop)(hr:Region.ready .any ops listed=[i])(ho:ops[i]?=some ⟨dst,op,ty,pos,after,none⟩)
 (h:AOps none P n ops [⟨dst,op,ty,pos,after,none⟩] env H (λenv' H'=>AAnyT stop P n ops fuel (listed.setIfInBounds i true) env' H' K)):AAnyT stop P n ops (fuel+1) listed env H K:=by
 have h':=h.out;unfold AOpsR at h';refine⟨λ{main T} fit C X0 M w0 O X a w hrel Q hQ X₁ w₁ hR=>⟨λh0=>qp (by rw[<-h0,hr];simp) his,λj hj _=>?_⟩⟩;obtain rfl:j=i:=by rw[hr] at hj;simpa using hj
 have hr1:=hrel.rely hR;unfold Op1;simp only[ho];rw[qf (by simp[Region.wanted])]
 exact(h'.out (κ:=none) (main:=main) (T:=T) fit hr1.rebase (λa' O' X' w'=>∃x',Gr H X₁ w₁ x' X' w'/\anyS stop P T .any ops Q Gr fuel (listed.setIfInBounds j true) a' O' X' w' x') (λenv' H' a' O' X' w' hk hr' =>
  ⟨H',hr'.gr,(show AAnyT stop P n ops fuel (listed.setIfInBounds j true) env' H' K from hk).out fit (hr1.unbase hr') Q hQ⟩)) X₁ w₁ (Fan.Rely.refl _ _)
theorem jqp{stop ops fuel listed}{K:Env->Heap->Prop}(hr:Region.ready .any ops listed=stop)(hk:K env H):AAnyT stop P n ops (fuel+1) listed env H K:=by
 refine⟨λ{main T} fit C X0 M w0 O X a w hrel Q hQ X₁ w₁ hR=>⟨λ_=>hQ _ _ _ _ _ _ hk (hrel.rely hR),λi hi hns=>qp (hr ▸ hi) hns⟩⟩
theorem jo3{g:FuncId}{args:List D}{c j:Nat}{tc tv:Tmp}{ty pos after}(hf:P.funcs[g]?=some fn)(hb:fn.body=some (.region id l.toArray true))(hres:fn.results=#[])
 (hcall:∀(vs:Array Value)(w:World),(callFunc g vs).run P w=.ok (.enter g vs) w) (hlen:Nat.ble args.length fn.ntmps=true) (hmix:P.follows .mixedOrders=true) (hlast:P.funcs[P.funcs.size]?=none)
 (hj:l.toArray[j]?=some ⟨none,.send (.tmp tc) (.tmp tv),ty,pos,after,none⟩) (J:Array Bool->Prop) (hJ0:J (Array.replicate l.toArray.size false))
 (hJ:∀a i,J a->i∈Region.ready .any l.toArray a->i∉[j]->J (a.setIfInBounds i true)) (hne:∀a:Array Bool,J a->Region.ready .any l.toArray a≠[]) (hsx:∀(a:Array Bool) i,J a->i∈Region.ready .any l.toArray a->i∈[j]->Region.ready .any l.toArray a=[j])
 (hend:∀a,J a->Region.ready .any l.toArray a=[j]->Region.ready .any l.toArray (a.setIfInBounds j true)=[])
 (h:AAnyT [j] P fn.ntmps l.toArray l.toArray.size (Array.replicate l.toArray.size false) (argEnv 0 args) [] (λenv' _=>look env' tc=some (.v (.chan (some c)))/\∃d,look env' tv=some d/\∀w O y,Rep w O d y->y=v)):ConW P g args c v:=by
 refine⟨hcall,⟨fn,_,hf,hb⟩,λ{O X w vs} hr0 hargs=>?_⟩;rw[Conc.enter_atD _ hf hb];have hl:=hargs.length;have hlen':args.length<=fn.ntmps:=by simpa using hlen
 have start:RelC (λ_=>False) X [] w fn.ntmps (argEnv 0 args) [] O X { tmps:=vs.toArray++Array.replicate (fn.ntmps - vs.toArray.size) undef,defers:=[] } w:=by
  refine⟨⟨λi d hi=>?_,hr0.rel.heap,Fr.refl _ _,λb hb=>.inl hb,hr0.rel.heap.frb,rfl,?_⟩,hr0.own,hr0.dis,hr0.olt,rfl,rfl,rfl,Nat.le_refl _,λ_ _ _ _=>rfl,λ_ hb=>hb,λ_ hb=>.inl hb,λ_ hb=>.inl hb,λb hb=>hb.elim⟩
  ·obtain⟨h1,h2⟩:=jea args 0 i d hi
   simp only[Nat.sub_zero] at h2;obtain⟨u,h3,h4⟩:=hargs.get h2;refine⟨u,?_,h4⟩;have hil:i<vs.length:=(List.getElem?_eq_some_iff.1 h3).1;rw[Array.getElem?_append_left (by simpa using hil)];simpa using h3
  ·simp only[Array.size_append,List.size_toArray,Array.size_replicate];omega
 generalize ({ tmps:=vs.toArray++Array.replicate (fn.ntmps - vs.toArray.size) undef,defers:=[] }:Act)=a0 at start
 refine Fan.jdB.step _ _ _ _ rfl λX₁ w₁ hR=>?_;refine⟨_,_,_,Conc.stepG_region_draw,⟨rfl,rfl,rfl,Nat.le_refl _,λ_ _ _=>rfl,by simp⟩,?_⟩;have hr:RelC (λ_=>False) X [] w fn.ntmps (argEnv 0 args) [] O X₁ a0 { w₁ with drawn:=w₁.drawn+1 }:=(start.rely hR).rely (Fan.Rely.at X₁ w₁ (w₁.drawn+1));have eg:Fan.grow O w₁.heap.size ({ w₁ with drawn:=w₁.drawn+1 }:World).heap.size=O:=Fan.jbm O _;rw[eg];simp only[Region.schedule,hmix,Bool.true_or,if_true];refine jl4 (Q:=λa O X w=>∃env' H' w0,RelC (λ_=>False) X₁ [] w0 fn.ntmps env' H' O X a w/\look env' tc=some (.v (.chan (some c)))/\∃d,look env' tv=some d/\∀w O y,Rep w O d y->y=v) Fan.jdB (by simp[Conc.baseD]) J hJ hne hsx (λfuel t listed a O X w hj1 hrd ⟨env',H',w0,hrel,q1,d,q2,q3⟩=>?_) _ _ _ a0 O X₁ _ [] hJ0 (h.out Fan.jdB hr.rebase _ (λenv' H' a' O' X' w' hk hr'=>⟨env',H',_,hr',hk⟩))
 ·rw[jxD hrd (hend _ hj1 hrd)]
  refine .send rfl λX₂ w₂ hR2=>?_;have hr2:=(hrel.rely hR2).rel;have e1:=hr2.opdv (x:=.tmp tc) q1;have e2:a.eval (.tmp tv)=v:=q3 _ _ _ (hr2.opd (x:=.tmp tv) q2);have hex:(execOp a.eval (⟨none,.send (.tmp tc) (.tmp tv),ty,pos,after,none⟩:Oper)).run P w₂=.ok (.comm #[Conc.scase c v (.tuple #[])] true .send) w₂:=by simp[execOp,e1,e2,Conc.scase]
  have hev:(execOp a.eval (⟨none,.send (.tmp tc) (.tmp tv),ty,pos,after,none⟩:Oper)).events P w₂ #[]=#[]:=by simp[execOp,e1,e2]
  have hst:=Conc.stepG_comm (main:=false) (P:=P) (b:=Conc.baseD g) (a:=a) (k:=[]) (cs:=[bot P]) (rest:=[]) hj rfl (by simp[Conc.baseD]) hex;unfold Conc.listed at hst;rw[hev,Conc.seen_none] at hst;refine⟨_,_,_,hst,by simp,?_⟩;rw[Conc.served_G,hj];refine⟨4,Conc.QuitsIn.ctl rfl (λw=>Conc.stepG_region_end) (Conc.QuitsIn.ctl rfl (λw=>Conc.stepG_end) ?_)⟩;refine Conc.QuitsIn.ctl (g':=Conc.G (bot P) []) rfl (λw=>?_) ?_
  ·simp[Conc.G,stepG,unwind,doReturn,results,Frame.at,Conc.baseD,bot,hf,hres,Act.put,hr2.dfr,seen,GStep.after,goexitEntry]
  ·refine Conc.QuitsIn.ctl (g':={ Conc.G (bot P) [] with status:=.finished }) rfl (λw=>?_) (by simp[Conc.QuitsIn])
   simp[Conc.G,stepG,unwind,bot,goexitEntry,Frame.catches,hlast];rfl
end
section
variable{Ps:Value->World->Prop}{P:Program}{n:Nat}{s:Pd}{env:Env}{H:Heap}{Q:Exit->Pd->Env->Heap->Prop}
theorem jbl{N:Pd->Env->Heap->Prop}{e h}(k:N s e h):seqM N Q .normal s e h:=k
theorem jnc{N:Pd->Env->Heap->Prop}{i e h}(k:Q (.exit i) s e h):seqM N Q (.exit i) s e h:=k
theorem jnG{id e h}(k:Q .normal s e h):blockM id Q .normal s e h:=k
theorem joZ{id i e h}(hi:Nat.beq i id=true)(k:Q .normal s e h):blockM id Q (.exit i) s e h:=by simp only[blockM,hi,cond_true];exact k
theorem jaP(h:AOps none P n l.toArray l env H (λenv' H'=>Q .normal s env' H')):AWm Ps P n s (.region id l.toArray false) env H Q :=
 jz0 (Q':=λe env' H'=>e=.normal/\Q .normal s env' H') (jiA ⟨AOpsR_mono h.out⟩) (λe env' H' ⟨he,q⟩=>by subst he;exact q)
where
 AOpsR_mono {ops:Array Oper}:∀{l:List Oper}{env:Env}{H:Heap}{K:Env->Heap->Prop},AOpsR none P n ops l env H K->AOpsR none P n ops l env H (λe h=>Exit.normal=.normal/\K e h)
  | [],env,H,K,h=>⟨rfl,h⟩
  | o::l,env,H,K,h=>by
   unfold AOpsR at h ⊢;cases hg:o.guard with
   | none=>rw[hg] at h;exact h.mono λ_ _ k=>AOpsR_mono k
   | some jw =>
    obtain⟨j,want⟩:=jw;rw[hg] at h;obtain⟨t,x,h1,h3,h4,h5,h6⟩:=h;exact⟨t,x,h1,h3,h4,λhx=>(h5 hx).mono λ_ _ k=>AOpsR_mono k,λhx=>AOpsR_mono (h6 hx)⟩
theorem jhO{c:Operand}{t:Bool}{c1 c2:Code}(hc:opd env c=some (.b t))(ht:t=false)(h:AWm Ps P n s c2 env H Q):AWm Ps P n s (.cond c c1 c2) env H Q :=
 jji hc (λe=>qp (e.symm.trans ht) zd) (λ_=>h)
theorem jtu{α:Type}{c:Code}(S:α->Pd)(live:List Nat){e0}(h0:Heap)(U:α->Env->Env)(V:α->Heap->Heap)(I:α->Prop)(μ:α->Nat)(a0:α)(hs:Sel env live e0)(hI:I a0)(hw:Wk env H (U a0 e0) (V a0 h0))(hS:s=S a0)
 (round:∀a,I a->AWm Ps P n (S a) c (U a e0) (V a h0) (seqM (λs' env' H'=>∃a',I a'/\μ a'<μ a/\s'=S a'/\Wk env' H' (U a' e0) (V a' h0)) Q)):AWm Ps P n s (.loop c) env H Q :=
 jnS S (λa=>U a e0) (λa=>V a h0) I μ a0 hI hS hw round
theorem jvv{c:Code}{Q':Exit->Pd->Env->Heap->Prop}(h:AWm Ps P n s c env H Q)(hq:∀e s' env' H',Q e s' env' H'->Q' e s' env' H'):AWm Ps P n s c env H Q' :=
 ⟨λhr _ _ _ hb hQ=>h.out hr hb (λe s' a' w' O' X' env' H' q=>hQ e s' a' w' O' X' env' H' (hq _ _ _ _ q))⟩
theorem jr2{α β:Type}{c:Code}(S:α->β->Pd)(live:List Nat){e0}(h0:Heap)(U:α->β->Env->Env)(V:α->β->Heap->Heap)(I:α->β->Prop)(μ:α->β->Nat)(a0:α)(b0:β)(hs:Sel env live e0)(hI:I a0 b0)(hw:Wk env H (U a0 b0 e0) (V a0 b0 h0))(hS:s=S a0 b0)
 (round:∀a b,I a b->AWm Ps P n (S a b) c (U a b e0) (V a b h0) (seqM (λs' env' H'=>∃a' b',I a' b'/\μ a' b'<μ a b/\s'=S a' b'/\Wk env' H' (U a' b' e0) (V a' b' h0)) Q)):AWm Ps P n s (.loop c) env H Q :=
 jnS (ι:=α × β) (λp=>S p.1 p.2) (λp=>U p.1 p.2 e0) (λp=>V p.1 p.2 h0) (λp=>I p.1 p.2) (λp=>μ p.1 p.2) (a0,b0) hI hS hw (λp hp=>jvv (round p.1 p.2 hp) (λe s' env' H' hq=>by
  cases e with
  | normal=>obtain⟨a',b',h⟩:=hq;exact⟨(a',b'),h⟩
  | _=>exact hq))
theorem jpZ{c:Code}(v:Value)(live:List Nat){ety sz l H1 H' env'}(hk:Rem H (.arr v ety sz l) H1)(he:SelC v sz l env live env')(hh:HeapA v sz l H1 H')(h:AWm Ps P n s c env' H' Q):AWm Ps P n s c env H Q :=
 jnp (jeP hk he.sub hh.heapC) h
theorem jsm{o0:Oper}{rest:List Oper}{e:TypeId}{t1 t2:Tmp}{ty pos after}{c:Nat}(ht:tchan P t=some e)(hz:(tzero P e).isSome=true)(hn:Nat.blt t2 n=true)(hne:pd≠[])
 (h:AOps none P n (o0::⟨some t2,.recv t (.tmp t1) false,ty,pos,after,none⟩::rest).toArray [o0] env H (λenv' H'=>look env' t1=some (.v (.chan (some c)))/\∀l₁ v l₂,pd=l₁++v::l₂->∃d,(∀w O,Rep w O d v) /\
   AOps none P n (o0::⟨some t2,.recv t (.tmp t1) false,ty,pos,after,none⟩::rest).toArray rest ((t2,d)::env') H' (λenv'' H''=>Q .normal (some (c,l₁++l₂)) env'' H''))) :
 AWm Ps P n (some (c,pd)) (.region id (o0::⟨some t2,.recv t (.tmp t1) false,ty,pos,after,none⟩::rest).toArray false) env H Q :=
 jtL (pre:=[o0]) ht hz hn hne h
def okJ(ops:Array Oper)(j:Nat)(l:List (Array Bool)):Bool :=
 l.contains (Array.replicate ops.size false)&&l.all λa=>!(Region.ready .any ops a).isEmpty&&((Region.ready .any ops a).all λi=>Nat.beq i j||l.contains (a.setIfInBounds i true))&&(!(Region.ready .any ops a).contains j||(Region.ready .any ops a == [j]))&&(!(Region.ready .any ops a == [j])||(Region.ready .any ops (a.setIfInBounds j true)).isEmpty)
theorem jyt{g:FuncId}{args:List D}{c:Nat}(j:Nat){tc tv:Tmp}{ty pos after}(hf:P.funcs[g]?=some fn)(hb:fn.body=some (.region id l.toArray true))(hres:fn.results=#[])
 (hcall:∀(vs:Array Value)(w:World),(callFunc g vs).run P w=.ok (.enter g vs) w) (hlen:Nat.ble args.length fn.ntmps=true) (hmix:P.follows .mixedOrders=true)
 (hj:l.toArray[j]?=some ⟨none,.send (.tmp tc) (.tmp tv),ty,pos,after,none⟩) (Jl:List (Array Bool)) (hJ:okJ l.toArray j Jl=true)
 (h:AAnyT [j] P fn.ntmps l.toArray l.toArray.size (Array.replicate l.toArray.size false) (argEnv 0 args) [] (λenv' _=>look env' tc=some (.v (.chan (some c)))/\∃d,look env' tv=some d/\∀w O y,Rep w O d y->y=v)):ConW P g args c v:=by
 unfold okJ at hJ;rw[qh,List.all_eq_true] at hJ;obtain⟨h0,hA⟩:=hJ
 have hA':∀a∈Jl,((Region.ready .any l.toArray a≠[]/\∀i∈Region.ready .any l.toArray a,i=j\/a.setIfInBounds i true∈Jl)/\(j∈Region.ready .any l.toArray a->Region.ready .any l.toArray a=[j]))/\(Region.ready .any l.toArray a=[j]->Region.ready .any l.toArray (a.setIfInBounds j true)=[]):=by
  intro a ha;have:=hA a ha;simp only[qh,Bool.not_eq_true',Bool.or_eq_true,List.all_eq_true,Nat.beq_eq_true_eq,List.contains_iff_mem,beq_iff_eq,List.isEmpty_iff,List.isEmpty_eq_false_iff] at this;obtain⟨⟨⟨q1,q2⟩,q3⟩,q4⟩:=this;refine⟨⟨⟨q1,λi hi=>(q2 i hi).imp Nat.eq_of_beq_eq_true (λh=>h)⟩,λh=>?_⟩,λh=>?_⟩
  ·rcases q3 with q3 | q3
   ·rw[<-List.contains_iff_mem,q3] at h;cases h
   ·exact q3
  ·rcases q4 with q4 | q4
   ·rw[h] at q4;simp at q4
   ·exact q4
 refine jo3 hf hb hres hcall hlen hmix (by simp) hj (λa=>a∈Jl) (by simpa using h0) (λa i ha hi hn=>?_) (λa ha=>(hA' a ha).1.1.1) (λa i ha hi hs=>?_) (λa ha=>(hA' a ha).2) h
 ·rcases(hA' a ha).1.1.2 i hi with h' | h'
  ·exact qp (by simp[h']) hn
  ·exact h'
 ·obtain rfl:i=j:=by simpa using hs
  exact(hA' a ha).1.2 hi
end
open Go Go.RowKit
theorem jrq{P:Program}{f:FuncId}{ds:List D}{vs:List Value}{w:World}(hc:∀Ps,Con (some Ps) P f ds [] (Is (.b true) []))(hi:P.inits.idxOf? f=none)(w0:RepT w Nob ds vs) :
 Fan.EndsM P (λv w'=>v=.bool true/\Below w.heap.size w w') (Conc.solo (Conc.G (Frame.enter P f vs.toArray .normal) []) w) #[]:=by
 have hok:HeapOk (λb=>False\/False) [] w:=⟨λo ho=>qp ho qv,by simp[Hb],λb hb=>by simp[Hb] at hb,λb hb=>by simp at hb⟩
 have hr:RelC (λ_=>False) (λ_=>False) (Hb []) w 0 [] [] (λ_=>False) (λ_=>False) nact w :=
  ⟨ji0 hok,λb hb=>by simp[Hb] at hb,λb hb=>hb.elim,λb hb=>hb.elim,rfl,rfl,rfl,Nat.le_refl _,λ_ _ _ _=>rfl,λ_ h=>h,λ_ h=>.inl h,λb hb=>by simp[Hb] at hb,λb hb=>hb.elim⟩
 refine((hc _).top ⟨rfl,rfl⟩ hi hr (w0.iff (λb hb=>?_)) (λv d H' O' X' w' hq hrep hrel=>?_)).run (λb hb=>hb.elim) (λb hb=>hb.elim) (λb hb=>hb.elim)
 ·rcases hb with hb | hb
  ·simp at hb
  ·simp[Hb] at hb
 ·obtain⟨rfl,rfl⟩:=hq
  simp only[Rep] at hrep;subst hrep;exact⟨rfl,hrel.os,hrel.tape,hrel.output,hrel.size,λk hk=>hrel.block k hk (by simp[Hb]) (λh=>h)⟩
section
variable{P:Program}(w:World)
theorem jdi(d:Nat)(t:TypeId)(xs ys:Array Value)(es:Array Event)(ht:P.underlying t=some (.struct (P.fieldsOf t)))(hp:P.stoodInHeld t=false) :
 (Op.equalIn (d+1) t (.agg xs) (.agg ys)).events P w es=(Op.eqFields d xs ys (P.fieldsOf t).toList).events P w es:=by
 simp only[Op.equalIn,Sem.events_bind,Sem.run_bind,run_underlying ht,events_underlying,Result.andThen_ok,Result.evThen_ok,run_program,events_program,hp,Bool.false_eq_true,if_false];rw[<-Array.forIn_toList]
 generalize (P.fieldsOf t).toList=fs
 clear ht
 induction fs generalizing w es with
 | nil=>simp[Op.eqFields]
 | cons f fs ih =>
  simp only[List.forIn_cons,Op.eqFields,Sem.events_bind,Sem.run_bind,Sem.run_ite,Sem.events_ite];split
  ·generalize (part f.type xs f.offset).run P w=r1
   generalize (part f.type xs f.offset).events P w es=e1
   cases r1 with
   | ok a w1 =>
    simp only[Result.andThen_ok,Result.evThen_ok,Sem.events_bind]
    generalize (part f.type ys f.offset).run P w1=r2
    generalize (part f.type ys f.offset).events P w1 e1=e2
    cases r2 with
    | ok b w2 =>
     simp only[Result.andThen_ok,Result.evThen_ok,Sem.events_bind]
     generalize (Op.equalIn d f.type a b).run P w2=r3
     generalize (Op.equalIn d f.type a b).events P w2 e2=e3
     cases r3 with
     | ok r w3 =>
      cases r
      ·simp
      ·simp only[Result.andThen_ok,Result.evThen_ok,Bool.not_true,Bool.false_eq_true,if_false,Sem.run_pure,Sem.events_pure]
       exact ih w3 e3
     | halt x w3=>simp[Result.andThen]
    | halt x w2=>simp[Result.andThen]
   | halt x w1=>simp[Result.andThen]
  ·simp only[Sem.run_pure,Sem.events_pure,Result.andThen_ok,Result.evThen_ok]
   exact ih w es
theorem jeD(d:Nat)(t:TypeId)(k k':IntKind)(a b:Int)(es:Array Event)(h:P.underlying t=some (.int k')):(Op.equalIn (d+1) t (.int k a) (.int k b)).events P w es=es:=by
 simp[Op.equalIn,run_underlying h]
theorem jdh(d:Nat)(t:TypeId)(a b:ByteArray)(es:Array Event)(h:P.underlying t=some .string):(Op.equalIn (d+1) t (.string a) (.string b)).events P w es=es:=by
 simp[Op.equalIn,run_underlying h]
theorem jeB(op:BinOp)(t:TypeId)(x y:Operand)(xs ys:Array Value)(es:Array Event)(hm:P.eqGuardType P.depth t=false):(eqGuard op t x y (.agg xs) (.agg ys)).events P w es=es:=by
 cases op<;>simp[eqGuard,run_program,hm]
end
def EqS(P:Program)(t:TypeId)(A B:Array Value)(b:Bool):Prop:=P.eqGuardType P.depth t=false/\∀w,(Op.equalIn 10000 t (.agg A) (.agg B)).run P w=.ok b w/\(Op.equalIn 10000 t (.agg A) (.agg B)).events P w #[]=#[]
theorem AllV.vals{w:World}{O:Nat->Prop}:∀{us ds}{cs:List Value},AllV us ds->RepL w O ds cs->cs=us:=by
 intro us ds cs h
 induction h generalizing cs with
 | nil=>intro h;simpa[RepL] using h
 | cons hu h ih =>
  intro hr;simp only[RepL,Rep] at hr;obtain⟨c,cr,rfl,rfl,_,h4⟩:=hr;rw[ih h4]
theorem AllV.agg{w:World}{O:Nat->Prop}{us ds}{y:Value}(h:AllV us ds)(hr:Rep w O (.agg ds) y):y=.agg us.toArray:=by
 simp only[Rep] at hr;obtain⟨cs,rfl,h2⟩:=hr;rw[h.vals h2]
section
variable{P:Program}{n:Nat}{env:Env}{H:Heap}{dst:Option Tmp}{ty:TypeId}{pos:String}{after:Array Edge}{gd:Option (Nat × Bool)}{x y:Operand}
theorem jej{t u us vs ds es b}(hx:opd env x=some (.agg ds))(hu:AllV us ds)(hy:opd env y=some (.agg es))(hv:AllV vs es)(he:EqS P t us.toArray vs.toArray b):AP P n ⟨dst,.binOp .eql t x y u,ty,pos,after,gd⟩ env H (.b b):=by
 refine⟨λF M w0 f w hr=>?_⟩;have h1:=hu.agg (hr.opd hx);have h2:=hv.agg (hr.opd hy);refine⟨.bool b,by simp[Rep],λw'=>⟨?_,?_⟩⟩
 ·simp only[execOp,h1,h2]
  simp only[Sem.run_bind,run_eqGuard_agg _ _ _ _ _ _ _ he.1,Result.andThen_ok,run_eql_struct,(he.2 w').1];simp only[Sem.run_pure,Sem.run_map,Result.andThen_ok]
 ·simp only[execOp,h1,h2]
  simp only[Sem.events_bind,Sem.run_bind,run_eqGuard_agg _ _ _ _ _ _ _ he.1,jeB _ _ _ _ _ _ _ _ he.1,Result.andThen_ok,Result.evThen_ok,binOp,Op.equal,Op.maxDepth,(he.2 w').1,(he.2 w').2];simp[(he.2 w').1,(he.2 w').2]
end
def Up(d d':D):Prop:=∀w (O:Nat->Prop) v,Rep w O d v->Rep w O d' v
theorem Up.same{d}:Up d d:=λ_ _ _ h=>h
theorem Up.int{x:Int}:Up (.v (.int .i64 x)) (.i x):=λw O v h=>by simpa[Rep] using h
theorem Up.nil{s:Nat}:Up (.v (.slice none 0 0)) (.sl s []):=λw O v h=>by
 have hv:v=.slice none 0 0:=by simpa[Rep] using h
 subst hv;simp only[Rep];exact⟨by simp,[],by simp[RepE],.inr (by simp)⟩
inductive UpL:List D->List D->Prop
 | nil:UpL [] []
 | cons {x y xs ys} (h:Up x y) (hr:UpL xs ys):UpL (x::xs) (y::ys)
theorem UpL.rep{w:World}{O:Nat->Prop}{xs ys:List D}(h:UpL xs ys):∀vs,RepL w O xs vs->RepL w O ys vs:=by
 induction h with
 | nil=>exact λ_ h=>h
 | cons h _ ih =>
  intro vs hv;simp only[RepL] at hv ⊢;obtain⟨c,cs,rfl,h1,h2,h3⟩:=hv;exact⟨c,cs,rfl,h _ _ _ h1,h2,ih _ h3⟩
theorem Up.agg{xs ys}(h:UpL xs ys):Up (.agg xs) (.agg ys):=λw O v hv=>by
 simp only[Rep] at hv ⊢;obtain⟨vs,rfl,h2⟩:=hv;exact⟨vs,rfl,h.rep _ h2⟩
theorem AP.up{P:Program}{n:Nat}{env:Env}{H:Heap}{d d':D}(h:AP P n o env H d)(hu:Up d d'):AP P n o env H d' :=
 ⟨λF M w0 a w hr=>let ⟨v,h1,h2⟩:=h.out F M w0 a w hr;⟨v,hu _ _ _ h1,h2⟩⟩
variable{κ:Kind}
section
variable{P:Program}{n:Nat}{env:Env}{H:Heap}{dst:Option Tmp}{ty:TypeId}{pos:String}{after:Array Edge}{x y:Operand}
theorem jpu{ops rest t e sz by_ d K}{N:Nat}{kl kc:IntKind}(hx:opd env x=some (.v (.int kl 0)))(hy:opd env y=some (.v (.int kc (N:Int))))(ht:telem P t=some e)(hi:tinfo P e=some (sz,by_))
 (hb:by_ * N<=281474976710656/\N<=capB) (hd:dst=some d) (hn:Nat.blt d n=true)
 (h:∀g:Nat,AOps κ P n ops rest ((d,.v (.slice (some ⟨g,0,none⟩) 0 N))::env) (.arr (.slice (some ⟨g,0,none⟩) 0 N) e sz []::H) K) :
 AOps κ P n ops (⟨dst,.makeSlice t x y,ty,pos,after,none⟩::rest) env H K:=by
 refine jaH rfl (.of_op ⟨λF M w0 a w hr Kc hK=>?_,λF M w0 a w hr=>?_⟩);have hx':=hr.opdv hx;have hy':=hr.opdv hy;obtain⟨i,z,h1,h2,h3,h4,h5,h6⟩:=jaN hi;have hcap:capB=140737488355328:=rfl;obtain⟨w',hrun,r1,r2⟩:=run_make_own (P:=P) w 0 t e i z sz (jao ht) h1 h2 h3 kl kc N (by rw[h4];exact hb.1) (by unfold maxLen;omega) (Nat.zero_le _);have hr1:=hr.add (o':=.arr (.slice (some ⟨w.heap.size,0,none⟩) 0 N) e sz []) (by simpa using Fr.grown r2) (λO' hO=>⟨h6,by simp,[],by simpa using r1,by simp[RepE]⟩) (λb hb=>by simp[Ob.blk,Value.ownBlock] at hb;omega);unfold wpv
 have e1:(execOp a.eval ⟨dst,.makeSlice t x y,ty,pos,after,none⟩)=(do pure (.value (<-Instr.makeSlice t (a.eval x) (a.eval y)))):=by
  simp[execOp]
 rw[e1,Sem.run_bind,hx',hy',hrun,Result.andThen_ok,Sem.run_pure,jbO,hd];exact hK _ _ _ _ (h w.heap.size) (hr1.put (by simp[Rep]) (by simpa[Nat.blt_eq] using hn));have hx':=hr.opdv hx;have hy':=hr.opdv hy;obtain⟨i,z,h1,h2,h3,h4,h5,h6⟩:=jaN hi;have hcap:capB=140737488355328:=rfl;obtain⟨w',hrun,r1,r2⟩:=run_make_own (P:=P) w 0 t e i z sz (jao ht) h1 h2 h3 kl kc N (by rw[h4];exact hb.1) (by unfold maxLen;omega) (Nat.zero_le _)
 have e1:(execOp a.eval ⟨dst,.makeSlice t x y,ty,pos,after,none⟩)=(do pure (.value (<-Instr.makeSlice t (a.eval x) (a.eval y)))):=by
  simp[execOp]
 intro ev hev;rw[e1,Sem.events_bind,hx',hy',hrun] at hev;simp only[Result.evThen_ok,Sem.events_pure] at hev;refine .inr (jfR (P:=P) w t e i z (jao ht) h1 h2 kl kc 0 N zo zo ?_ zo ev hev);have hb1:((i.bytes * N:Nat):Int)<=281474976710656:=by rw[h4];omega
 rwa [Int.natCast_mul] at hb1
theorem jkQ{ops rest t t2 e g len cap ety l l2 f d K}(hx:opd env x=some (.v (.slice (some ⟨g,0,none⟩) len cap)))(hk:UpdF H (.arr (.slice (some ⟨g,0,none⟩) len cap) ety 1 l) f)(hy:opd env y=some (.sl 1 l2))
 (ht:telem P t=some e) (hs:tsize P e=some 1) (hd:dst=some d) (hn:Nat.blt d n=true)
 (h:AOps κ P n ops rest ((d,.i ((Nat.min l2.length l.length:Nat):Int))::env) (f (.arr (.slice (some ⟨g,0,none⟩) len cap) ety 1 (l2.take l.length++l.drop l2.length))) K) :
 AOps κ P n ops (⟨dst,.call { callee:=.builtin .copy,args:=#[x,y],argTypes:=#[t,t2] },ty,pos,after,none⟩::rest) env H K:=by
 have hs2:(P.info? e).map (·.size)=some 1:=hs;refine jaH rfl (.of_op ⟨λF M w0 a w hr Kc hK=>?_,λF M w0 a w hr=>?_⟩)
 have ho:(execOp a.eval ⟨dst,.call { callee:=.builtin .copy,args:=#[x,y],argTypes:=#[t,t2] },ty,pos,after,none⟩)=(do pure (.value (<-Builtin.copy_ #[t,t2] ty #[a.eval x,a.eval y]))):=by
  simp[execOp,resolve,invoke,builtin]
 have h1:=hr.opdv hx;have h2:=hr.opd hy;obtain⟨kk,hk1,hk2⟩:=hk.set;obtain⟨hsz,hlb,xs,hown,hE⟩:=hr.heap.holds _ hk.mem;simp only[Rep] at h2;obtain⟨_,cs,hE2,h2⟩:=h2;have hcl:=hE2.len;have hxl:=hE.len;rcases hown.2 with⟨hv,_⟩ | ⟨g',cap',cur,hv,h3,h4,h5,h6,h7,h8⟩
 ·cases hv
 ·simp only[Value.slice.injEq,qs,Addr.mk.injEq] at hv
  obtain⟨⟨rfl,_,_⟩,rfl,rfl⟩:=hv;obtain⟨us,hus⟩:∃us,us=cs.take l.length:=⟨_,rfl⟩
  have hul:us.length=Nat.min l2.length l.length:=by rw[hus,List.length_take,hcl,Nat.mul_one,Nat.min_comm]
  have hul':us.length<=l.length:=by rw[hul];exact Nat.min_le_right _ _
  have hul2:us.length=l2.length\/us.length=l.length:=by rw[hul];show min l2.length l.length=_\/min l2.length l.length=_;omega
  have hone:∀u∈us,u.oneCell'=true:=λu hu=>hE2.one u (List.mem_of_mem_take (hus ▸ hu))
  have hdrop:l.drop l2.length=l.drop us.length:=by
   rcases hul2 with e | e
   ·rw[e]
   ·rw[e,List.drop_length,List.drop_of_length_le];rw[<-e,hul];exact Nat.min_le_left _ _
  have hrun:(Builtin.copy_ #[t,t2] ty #[.slice (some ⟨g,0,none⟩) l.length cap,a.eval y]).run P w=.ok (goInt ((Nat.min l2.length l.length:Nat):Int)) (w.setRow g (cur.toList.take 0++us++cur.toList.drop (0+us.length)).toArray):=by
   rcases h2 with⟨ad,c2,e2,h9,h10⟩ | ⟨e2,h9⟩
   ·rw[e2,<-hul]
    exact run_copy_row P w t t2 ty e g 0 l.length cap ad l2.length c2 cur ety us (jao ht) hs2 h4 hul
     (λj u hu=>h10.cells j u (by rw[hus,List.getElem?_take] at hu;split at hu;exact hu;cases hu)) zo hone
   ·subst h9
    have hz:us=[]:=List.eq_nil_of_length_eq_zero (by rw[hul];simp);rw[e2,hz,run_copy_nil P w t t2 ty e ⟨g,0,none⟩ l.length cap (jao ht) (by rw[hs2];rfl)];simp only[List.take_zero,List.nil_append,qu,Nat.add_zero,List.drop_zero,Array.toArray_toList,setRow_self w g cur ety (0,0) h4];simp
  have hsize:(cur.toList.take 0++us++cur.toList.drop (0+us.length)).length=cur.size:=by simp;omega
  have hlen9:(l2.take l.length++l.drop l2.length).length=l.length:=by simp;omega
  have hr1:=hr.upd (o':=.arr (.slice (some ⟨g,0,none⟩) l.length cap) ety 1 (l2.take l.length++l.drop l2.length)) hk1 (Fr.setRow w g (cur.toList.take 0++us++cur.toList.drop (0+us.length)).toArray)
   (λO' hO=>by
     have hm:∀bb,bb<w.heap.size->¬Own F H bb->¬O' bb/\(w.setRow g (cur.toList.take 0++us++cur.toList.drop (0+us.length)).toArray).heap[bb]?=w.heap[bb]?:=λbb hb hb' =>
      ⟨hO bb hb hb',setRow_other w g bb _ (λe=>hb' (.inr (jaG hk.mem (by simp[Ob.blk,Value.ownBlock,e]))))⟩
     have hE1:=RepE.mono hm _ _ _ hE;have hE3:=(RepE.mono hm _ _ _ hE2).take l.length;rw[Nat.mul_one,<-hus] at hE3;have hE4:=hE1.drop us.length;rw[Nat.mul_one] at hE4;have hE':=RepE.append hE3 hE4;rw[hdrop]
     have e9:us++xs.drop us.length=(cur.toList.take 0++us++cur.toList.drop (0+us.length)).take (l.length * 1):=by
      rw[List.take_zero,List.nil_append,Nat.zero_add,Nat.mul_one,List.take_append,qC (l:=us) zo,<-h8,Nat.mul_one,List.drop_take]
     rw[e9] at hE';refine⟨hsz,by rw[<-hdrop,hlen9];exact hlb,_,⟨by rw[List.length_take,hsize,<-hdrop,hlen9];omega,.inr ⟨g,cap,_,by rw[<-hdrop,hlen9],Nat.zero_le _,setRow_heap w g cur _ ety _ h4,by rw[<-hdrop,hlen9];exact h5,h6,?_,?_⟩⟩,hE'⟩
     ·rw[List.size_toArray,hsize];exact h7
     ·rw[<-hdrop,hlen9,List.toList_toArray])
   (.inl rfl)
  unfold wpv;rw[ho,Sem.run_bind,h1,hrun,Result.andThen_ok,Sem.run_pure,jbO,hd];exact hK _ _ _ _ h (by rw[hk2];exact hr1.put (d:=.i ((Nat.min l2.length l.length:Nat):Int)) (show (_=_) from rfl) (by simpa[Nat.blt_eq] using hn))
 have ho:(execOp a.eval ⟨dst,.call { callee:=.builtin .copy,args:=#[x,y],argTypes:=#[t,t2] },ty,pos,after,none⟩)=(do pure (.value (<-Builtin.copy_ #[t,t2] ty #[a.eval x,a.eval y]))):=by
  simp[execOp,resolve,invoke,builtin]
 have h1:=hr.opdv hx;have h2:=hr.opd hy;obtain⟨hsz,hlb,xs,hown,hE⟩:=hr.heap.holds _ hk.mem;simp only[Rep] at h2;obtain⟨_,cs,hE2,h2⟩:=h2;have hcl:=hE2.len;have hxl:=hE.len;rcases hown.2 with⟨hv,_⟩ | ⟨g',cap',cur,hv,h3,h4,h5,h6,h7,h8⟩
 ·cases hv
 ·simp only[Value.slice.injEq,qs,Addr.mk.injEq] at hv
  obtain⟨⟨rfl,_,_⟩,rfl,rfl⟩:=hv
  have e2:∀e,e∈(execOp a.eval ⟨dst,.call { callee:=.builtin .copy,args:=#[x,y],argTypes:=#[t,t2] },ty,pos,after,none⟩).events P w #[]->e∈(Builtin.copy_ #[t,t2] ty #[a.eval x,a.eval y]).events P w #[]:=λe he=>by
   rw[ho,Sem.events_bind] at he;cases hrn:(Builtin.copy_ #[t,t2] ty #[a.eval x,a.eval y]).run P w with
   | ok x' w'=>rw[hrn] at he;simpa using he
   | halt x' w'=>rw[hrn] at he;exact he
  intro ev hev;have hev:=e2 ev hev;rw[h1] at hev;cases hq:P.info? e with
  | none=>simp[hq] at hs2
  | some i =>
   have hi1:i.size=1:=by simpa[hq] using hs2
   obtain⟨us,hus⟩:∃us,us=cs.take l.length:=⟨_,rfl⟩
   have hul:us.length=Nat.min l2.length l.length:=by rw[hus,List.length_take,hcl,Nat.mul_one,Nat.min_comm]
   have hul':us.length<=l.length:=by rw[hul];exact Nat.min_le_right _ _
   have hone:∀u∈us,u.oneCell'=true:=λu hu=>hE2.one u (List.mem_of_mem_take (hus ▸ hu));rcases h2 with⟨ad,c2,e2,h9,h10⟩ | ⟨e2,h9⟩
   ·rw[e2] at hev
    have hsrc:∀j u,us[j]?=some u->w.cell? (ad.add j)=some u:=λj u hu=>h10.cells j u (by rw[hus,List.getElem?_take] at hu;split at hu;exact hu;cases hu);have hl:=run_loadCells_list (P:=P) w ad us hsrc;rw[hul] at hl;simp[Builtin.copy_,run_underlying (jao ht),Builtin.lenOf,Builtin.firstCells,sizeOf,typeInfo,hq,hi1,hl] at hev;rcases jdo us 0 cur w _ h4 zo hone ev hev with hr9 | ⟨a',rfl,hb⟩
    ·by_cases hu0:us=[]
     ·rw[<-hul,hu0] at hr9
      simp[loadCells,loadCellsFrom] at hr9
     ·obtain⟨u0,hu0'⟩:∃u0,us[0]?=some u0:=⟨us[0]'(List.length_pos_iff.2 hu0),ze _⟩
      have hlie:¬Own F H ad.block/\ad.block<w.heap.size:=by
       rcases h10 with h' | ⟨k1,k2,k3⟩
       ·rw[h',List.take_nil] at hus;exact qp hus hu0
       ·have:cs[0]?=some u0:=by rw[hus,List.getElem?_take] at hu0';split at hu0';exact hu0';cases hu0'
        exact⟨k1,World.block_lt_of_cell? w (⟨ad.block,ad.off+0,none⟩:Addr) (k3 0 u0 this)⟩
      rw[<-hul] at hr9;obtain⟨a',rfl,q2,q3⟩:=jm5 (P:=P) (F:=F) (s:=w.heap.size) hsrc hlie.2 (λhf=>hlie.1 (.inl hf)) ev hr9;exact .inl ⟨a',rfl,q2,q3,λh=>by cases h⟩
    ·have hg:=jaG hk.mem (show Ob.blk (.arr (.slice (some ⟨g,0,none⟩) l.length cap) ety 1 l)=some g from rfl)
     exact .inl ⟨a',rfl,by rw[hb];exact hr.heap.blk_lt hg,λhf=>hr.heap.disj _ hg (hb ▸ hf),λ_=>.inl (hb ▸ hg)⟩
   ·rw[e2] at hev
    simp[Builtin.copy_,run_underlying (jao ht),Builtin.lenOf,Builtin.firstCells,sizeOf,typeInfo,hq,hi1,storeCells] at hev
end
section
variable{P:Program}{n:Nat}{env:Env}{H:Heap}{dst:Option Tmp}{ty:TypeId}{pos:String}{after:Array Edge}{gd:Option (Nat × Bool)}{x y:Operand}
theorem juV{t t2 e sz g oa ca g2 ob lb cb}(hx:opd env x=some (.v (.slice (some ⟨g,oa,none⟩) 0 ca)))(hy:opd env y=some (.v (.slice (some ⟨g2,ob,none⟩) lb cb)))(ht:telem P t=some e)(hs:tsize P e=some sz) :
 AP P n ⟨dst,.call { callee:=.builtin .copy,args:=#[x,y],argTypes:=#[t,t2] },ty,pos,after,gd⟩ env H (.i 0):=by
 refine⟨λF M w0 a w hr=>?_⟩;have h1:=hr.opdv hx;have h2:=hr.opdv hy;refine⟨.int .i64 0,by simp[Rep],λw'=>?_⟩;have hl:=run_loadCells_list (P:=P) w' ⟨g2,ob,none⟩ [] (λj u hu=>by simp at hu);simp only[qu] at hl;constructor
 ·simp[execOp,resolve,invoke,builtin,h1,h2,Builtin.copy_,run_underlying (jao ht),Builtin.lenOf,Builtin.firstCells,jat hs,hl,storeCells,goInt]
 ·simp[execOp,resolve,invoke,builtin,h1,h2,Builtin.copy_,run_underlying (jao ht),Builtin.lenOf,Builtin.firstCells,jat hs,hl,storeCells,goInt,loadCells,loadCellsFrom]
end
end Go.Av
