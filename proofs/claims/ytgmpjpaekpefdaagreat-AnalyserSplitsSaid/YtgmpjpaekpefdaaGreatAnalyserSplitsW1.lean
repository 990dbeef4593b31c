
import Derived.Test.YtgmpjpaekpefdaaGreatTrS
import Derived.Test.YtgmpjpaekpefdaaGreatProg
import Derived.KernelRfl
import Derived.Tactics
import Derived.Tactics2
import Derived.StillTactics
set_option linter.unusedVariables false
set_option linter.unusedSimpArgs false
set_option maxRecDepth 4000
namespace Go.Proofs.YtgmpjpaekpefdaaGreat
open Go Go.Av Go.Tq
abbrev C0(f:Nat)(a:List D)(d:D):=Con none Tryz.prog f a [] (Is d [])
theorem xQ{p q:Prop}(h:p)(d:¬p:=by decide):q:=qp h d
variable{p q r:Prop}{H Hr H':Heap}{env:Env}{κ:Kind}{P:Program}{n fuel s:Nat}{ops:Array Oper}{K:Env->Heap->Prop}{pos:String}{after:Array Edge}{rest:List Oper}{dst:Option Tmp}{t:Tmp}{op:Op}{gd:Option (Nat × Bool)}{o:Oper}{listed:Array Bool}{x a:Int}{y:Operand}{u:Trust}{Q:Exit->Env->Heap->Prop}{f:FuncId}
theorem jcm(h:p:=by first | with_reducible assumption | with_reducible exact rfl | decide | (refine qg ?_;omega) | (refine qz ?_;omega)):p:=h
theorem jct(h:p:=by repeat (first | exact .here | apply UpdF.there)):p:=h
theorem jiY(h:p:=by first | exact .sl | exact .v rfl | exact .v (by assumption)):p:=h
theorem jdZ(h:p:=by first | exact .agg | exact .sl | exact .v rfl | exact .v (by assumption)):p:=h
theorem zRc(h:p:=by repeat constructor):p:=h
theorem jaE(h:p:=by repeat (first | exact .nil | exact Split.none _ | apply Split.left | apply Split.right)):p:=h
theorem jz5(h:p:=by first | with_reducible assumption | assumption | rfl):p:=h
theorem zSub(h:p:=by repeat (first | exact .nil | refine .cons rfl ?_)):p:=h
theorem zKr(h:p:=by kernel_rfl):p:=h
theorem jcy(h:p:=by repeat (first | exact .nil | refine .cons (by first | exact .here | exact .there .here | exact .there (.there .here) | exact .there (.there (.there .here)) | exact .there (.there (.there (.there .here)))) ?_)):p:=h
theorem jcb(h:p:=by repeat (first | exact .nil | apply SelC.cons rfl (by first | exact Cv.fz | (apply Cv.agg;repeat (first | exact CvL.nil | apply CvL.cons (by first | exact Cv.fz | exact Cv.same))) | exact Cv.same))):p:=h
theorem jcr(h:p:=by repeat (first | exact .nil | apply HeapA.box (by repeat (first | exact CvL.nil | apply CvL.cons (by first | exact Cv.fz | exact Cv.same))) | apply HeapA.arr)):p:=h
theorem ja4(h:p:=by repeat (first | exact .nil | apply HeapA.box (by repeat (first | exact CvL.nil | apply CvL.cons Cv.same)) | apply HeapA.arr)):p:=h
theorem jyP(h:p:=by repeat (first | exact .here | apply Rem.there)):p:=h
theorem jay(h:p:=by repeat (first | exact .nil | apply FillL.cons rfl jdZ rfl zRc)):p:=h
theorem zRs(h:p:=by repeat (first | exact .nil | (apply ResL.tmp;exact rfl) | (apply ResL.cell;exact rfl;exact jct;exact rfl;exact rfl))):p:=h
inductive Tf where
 | leaf (s:Nat) (l:List (Nat × Nat × Bool))
 | node (p:Nat) (a b:Tf)
def Tf.nth:List (Nat × Nat × Bool)->Nat->Option (Nat × Nat × Bool)
 | [],_=>none
 | x::_,0=>some x
 | _::r,k+1=>Tf.nth r k
def Tf.look:Tf->Nat->Nat->Option (Nat × Nat × Bool)
 | .leaf k l,s,f=>bif Nat.beq s k then Tf.nth l f else none
 | .node p a b,s,f=>bif Nat.blt s p then a.look s f else b.look s f
def Tf.ok(P:Program):Tf->Bool
 | .leaf k l=>(List.range l.length).all λf=>decide (tfield P k f=Tf.nth l f)
 | .node _ a b=>a.ok P&&b.ok P
theorem Tf.nth_lt:∀{l:List (Nat × Nat × Bool)}{f:Nat}{v},Tf.nth l f=some v->f<l.length
 | [],_,_,h=>by cases h
 | _::_,0,_,_=>by simp
 | _::r,k+1,_,h=>by have:=Tf.nth_lt (l:=r) h;simp only[qi];omega
theorem Tf.sound{P:Program}:∀{T:Tf},T.ok P=true->∀{s f:Nat}{v},T.look s f=some v->tfield P s f=some v
 | .leaf k l,h,s,f,v,e=>by
  simp only[Tf.look] at e;cases hb:Nat.beq s k with
  | false=>rw[hb] at e;cases e
  | true =>
   rw[hb] at e;have e':Tf.nth l f=some v:=e;have hs:=Nat.eq_of_beq_eq_true hb;subst hs;have:=List.all_eq_true.1 h f (List.mem_range.2 (Tf.nth_lt e'));rw[qc this];exact e'
 | .node p a b,h,s,f,v,e=>by
  simp only[Tf.ok,qh] at h;simp only[Tf.look] at e;cases hb:Nat.blt s p with
  | true=>rw[hb] at e;exact Tf.sound h.1 e
  | false=>rw[hb] at e;exact Tf.sound h.2 e
def tfs:Tf:=.node 97 (.node 53 (.node 40 (.node 37 (.leaf 28 [(0,1,false)]) (.leaf 37 [(0,1,false),(1,1,false),(2,1,false),(3,1,false)])) (.node 48 (.leaf 40 [(0,1,false),(1,1,false),(2,1,false),(3,4,true),(7,1,false)]) (.node 51 (.leaf 48 [(0,1,false),(1,1,false),(2,1,false)]) (.leaf 51 [(0,1,false),(1,1,false),(2,3,true),(5,1,false),(6,1,false)])))) (.node 59 (.node 55 (.leaf 53 [(0,1,false),(1,1,false)]) (.node 57 (.leaf 55 [(0,1,false),(1,1,false),(2,1,false),(3,3,true),(6,1,false),(7,2,true),(9,2,true),(11,2,true),(13,1,false),(14,1,false)]) (.leaf 57 [(0,1,false),(1,1,false),(2,7,true),(9,15,true)]))) (.node 71 (.leaf 59 [(0,1,false),(1,1,false),(2,1,false),(3,1,false),(4,1,false),(5,1,false),(6,3,true),(9,24,true),(33,1,false)]) (.node 78 (.leaf 71 [(0,1,false),(1,1,false),(2,1,false)]) (.leaf 78 [(0,1,false),(1,1,false),(2,1,false),(3,1,false),(4,1,false)]))))) (.node 131 (.node 107 (.node 101 (.leaf 97 [(0,1,false),(1,1,false)]) (.leaf 101 [(0,1,false),(1,3,true)])) (.node 126 (.leaf 107 [(0,1,false),(1,1,false),(2,3,true),(5,1,false)]) (.node 129 (.leaf 126 [(0,1,false),(1,1,false),(2,1,false),(3,1,false),(4,3,true),(7,1,false),(8,1,false),(9,1,false),(10,1,false),(11,1,false)]) (.leaf 129 [(0,1,false),(1,1,false),(2,1,false),(3,3,true),(6,1,false),(7,2,true),(9,2,true),(11,2,true),(13,2,true),(15,1,false),(16,1,false),(17,1,false),(18,1,false)])))) (.node 285 (.node 133 (.leaf 131 [(0,1,false),(1,1,false)]) (.node 163 (.leaf 133 [(0,12,true),(12,19,true),(31,2,true),(33,1,false),(34,1,false),(35,1,false),(36,1,false)]) (.leaf 163 [(0,1,false),(1,1,false),(2,1,false),(3,1,false),(4,24,true)]))) (.node 317 (.leaf 285 [(0,1,false),(1,1,false),(2,3,true),(5,1,false),(6,1,false)]) (.node 322 (.leaf 317 [(0,1,false),(1,1,false)]) (.leaf 322 [(0,1,false),(1,1,false)])))))
theorem jon:tfs.ok Tryz.prog=true:=by kernel_rfl
theorem zfa{n env H dst ty pos after gd x s f b o off sz g}(hx:opd env x=some (.p b o))(hf:tfs.look s f=some (off,sz,g)):AP Tryz.prog n ⟨dst,.fieldAddr s x f,ty,pos,after,gd⟩ env H (.p b (o+off)):=ja7 hx (Tf.sound jon hf)
theorem zfe{n env H dst ty pos after gd x s f l off sz g r}(hx:opd env x=some (.el (.agg l)))(hf:tfs.look s f=some (off,sz,g))(hs:SubL l off sz r):AP Tryz.prog n ⟨dst,.fieldAddr s x f,ty,pos,after,gd⟩ env H (.el (.agg r)):=jgX hx (Tf.sound jon hf) hs
theorem zf1{n env H dst ty pos after gd x s f l off sz d}(hx:opd env x=some (.agg l))(hf:tfs.look s f=some (off,sz,false))(hs:SubL l off 1 [d]):AP Tryz.prog n ⟨dst,.field s x f,ty,pos,after,gd⟩ env H d:=jvo hx (Tf.sound jon hf) hs
theorem zfg{n env H dst ty pos after gd x s f l off sz r}(hx:opd env x=some (.agg l))(hf:tfs.look s f=some (off,sz,true))(hs:SubL l off sz r):AP Tryz.prog n ⟨dst,.field s x f,ty,pos,after,gd⟩ env H (.agg r):=jlo hx (Tf.sound jon hf) hs
theorem zAP{n env H d}(h:AP Tryz.prog n o env H d:=by first | exact jl6 rfl | exact jri rfl | exact zfa rfl rfl | exact jsU rfl rfl rfl | (apply zfe;exact rfl;exact rfl;exact zRc) | (apply jlb;exact rfl;exact jcm;exact rfl) | (apply jjr;exact rfl;exact jcm;exact rfl) | exact jyV rfl | exact jfr rfl rfl | (apply jb3;exact rfl;exact rfl;exact rfl;omega) | (apply jap;exact rfl;exact rfl;exact rfl;exact rfl;decide;exact rfl;exact jz5) | (apply jap;exact rfl;exact rfl;exact rfl;exact rfl;decide;omega;exact jz5) | (apply jaU;exact rfl;exact rfl;exact rfl;exact rfl;exact rfl;first | omega | (simp only[qw,List.length_set,jaQ];omega)) | exact jtb rfl rfl rfl | exact jzs rfl rfl rfl | exact jy0 rfl rfl rfl | (apply zf1;exact rfl;exact rfl;exact zRc) | (apply zfg;exact rfl;exact rfl;exact zRc) | exact jmO rfl | exact jhG rfl | (apply jtv;exact rfl;exact rfl;exact rfl;exact zRc;exact jay) | (apply jaj;exact zKr;exact rfl;exact zRc;exact jay) | (apply jd5;exact rfl;exact rfl;exact rfl;exact rfl;exact rfl;omega) | (apply jbR;exact rfl;exact jct;exact rfl;exact rfl;exact rfl;exact rfl;omega) | (apply jeW;exact rfl;exact rfl;exact rfl;exact rfl;exact rfl;simp only[qw];omega) | (apply jkG;exact rfl;exact rfl;exact rfl;exact rfl;exact rfl;exact rfl;omega;exact zRc) | (apply jie;exact rfl;exact rfl;exact rfl;exact rfl;exact rfl;exact rfl;omega;exact zRc) | (apply jmU;exact zRc) | exact jqm rfl rfl | exact jza rfl rfl | exact jzx rfl rfl | exact jf2 rfl rfl rfl | (apply jv2;exact rfl;exact rfl;omega) | (apply jv5;exact rfl;exact rfl;omega) | (apply jcz;exact rfl;exact rfl;exact rfl;omega;omega) | exact jwB (k:=.u64) rfl rfl | exact jxr rfl rfl | exact jem (k:=.u64) rfl rfl rfl | exact jem (k:=.u32) rfl rfl rfl | (apply jo2;exact rfl;exact jct;exact rfl) | exact jqs rfl rfl):AP Tryz.prog n o env H d:=h
theorem zAR{n Hr env H d}(h:AR Tryz.prog n Hr o env H d:=by first | (apply AP.ar;exact zAP) | (apply AP.ar;exact jra rfl rfl) | (apply juN;exact rfl;exact jct;exact rfl;exact zRc) | (apply jxq;exact rfl;exact jct;exact rfl;exact rfl;exact zRc) | (apply AQ.ar;apply jcj;exact rfl;exact rfl;exact jiY;(exact λ_ h=>h)) | (apply AQ.ar;apply jfl;exact rfl;exact rfl;exact rfl;exact rfl;(exact λ_ h=>h)) | (apply AQ.ar;apply jfS;exact rfl;exact rfl;exact jiY;(exact λ_ h=>h)) | (apply jlI;exact rfl;exact jct;exact rfl;exact jz5;exact jiY) | (apply jpT;exact rfl;exact jct;exact rfl)):AR Tryz.prog n Hr o env H d:=h
inductive NotB:Bool->Bool->Prop
 | t:NotB true false
 | f:NotB false true
inductive Gx(ops:Array Oper)(env:Env)(t:Tmp):Option (Nat × Bool)->Prop
 | none:Gx ops env t none
 | yes {j want b} (hl:Go.Av.look env t=Option.none) (hj:((ops[j]?).bind (·.dst)).bind (Go.Av.look env)=some (D.b b)) (hb:b=want):Gx ops env t (some (j,want))
inductive Gn(ops:Array Oper)(env:Env)(t:Tmp):Option (Nat × Bool)->Prop
 | u {j want} (hj:((ops[j]?).bind (·.dst)).bind (Go.Av.look env)=some (.v undef)):Gn ops env t (some (j,want))
 | no {j want wn b} (hw:NotB want wn) (hl:Go.Av.look env t=Option.none) (hj:((ops[j]?).bind (·.dst)).bind (Go.Av.look env)=some (D.b b)) (hb:b=wn):Gn ops env t (some (j,want))
theorem zGx{ops env t gd}(h:Gx ops env t gd:=by first | exact .none | exact .yes rfl rfl jcm):Gx ops env t gd:=h
theorem zGn{ops env t gd}(h:Gn ops env t gd:=by first | exact .u rfl | exact .no .t rfl rfl jcm | exact .no .f rfl rfl jcm):Gn ops env t gd:=h
theorem zR{ty:TypeId}{d:D}(h:AP P n ⟨dst,op,ty,pos,after,gd⟩ env H d)(hk:AOps κ P n ops rest ((t,d)::env) H K)(hd:dst=some t:=by exact rfl)(ht:Nat.blt t n=true:=by exact rfl)(hg:Gx ops env t gd:=by exact zGx):AOps κ P n ops (⟨dst,op,ty,pos,after,gd⟩::rest) env H K:=by
 cases hg with
 | none=>exact jvY h rfl hd ht hk
 | yes hl hj hb=>exact jgp hd hl ht hj hb (jvY (o:=⟨dst,op,ty,pos,after,none⟩) ⟨h.out⟩ rfl hd ht hk)
theorem zQ{ty:TypeId}{d:D}(h:AQ P n [] ⟨dst,op,ty,pos,after,gd⟩ env H d)(hk:AOps κ P n ops rest ((t,d)::env) H K)(hd:dst=some t:=by exact rfl)(ht:Nat.blt t n=true:=by exact rfl)(hg:Gx ops env t gd:=by exact zGx):AOps κ P n ops (⟨dst,op,ty,pos,after,gd⟩::rest) env H K:=by
 cases hg with
 | none=>exact jny h rfl hd ht hk
 | yes hl hj hb=>exact jgp hd hl ht hj hb (jny (o:=⟨dst,op,ty,pos,after,none⟩) ⟨h.out⟩ rfl hd ht hk)
theorem zP{ty:TypeId}{d:D}(h:AP P n ⟨dst,op,ty,pos,after,gd⟩ env H d)(hk:AOps κ P n ops rest ((t,d)::env) H K)(hd:dst=some t:=by exact rfl)(ht:Nat.blt t n=true:=by exact rfl)(hg:Gx ops env t gd:=by exact zGx):AOps κ P n ops (⟨dst,op,ty,pos,after,gd⟩::rest) env H K:=zR h hk hd ht hg
theorem zSk{ty:TypeId}(h:AOps κ P n ops rest ((t,.v undef)::env) H K)(hd:dst=some t:=by exact rfl)(ht:Nat.blt t n=true:=by exact rfl)(hg:Gn ops env t gd:=by exact zGn):AOps κ P n ops (⟨dst,op,ty,pos,after,gd⟩::rest) env H K:=by
 cases hg with
 | u hj=>exact jsW hd ht hj h
 | no hw hl hj hb=>exact jrl hd hl ht hj (by subst hb;cases hw<;>rfl) h
theorem zY{ty:TypeId}(h:AOps κ P n ops (⟨dst,op,ty,pos,after,none⟩::rest) env H K)(hd:dst=some t:=by exact rfl)(ht:Nat.blt t n=true:=by exact rfl)(hg:Gx ops env t gd:=by exact zGx):AOps κ P n ops (⟨dst,op,ty,pos,after,gd⟩::rest) env H K:=by
 cases hg with
 | none=>exact h
 | yes hl hj hb=>exact jgp hd hl ht hj hb h
theorem zG{ty:TypeId}{j:Nat}{want wn b:Bool}(h:b=want->AOps κ P n ops (⟨dst,op,ty,pos,after,none⟩::rest) env H K)(h':b=wn->AOps κ P n ops rest ((t,.v undef)::env) H K)(hw:NotB want wn:=by first | exact .t | exact .f)(hd:dst=some t:=by exact rfl)(hl:Go.Av.look env t=none:=by exact rfl)(ht:Nat.blt t n=true:=by exact rfl)(hj:((ops[j]?).bind (·.dst)).bind (Go.Av.look env)=some (D.b b):=by exact rfl):AOps κ P n ops (⟨dst,op,ty,pos,after,some (j,want)⟩::rest) env H K:=jpk hd hl ht hj h (λe=>h' (by cases hw<;>simpa using e))
def Stored(κ:Kind)(P:Program)(n:Nat)(o:Oper)(env:Env)(H H':Heap):Prop:=∀(ops:Array Oper)(rest:List Oper)(K:Env->Heap->Prop),AOps κ P n ops rest env H' K->AOps κ P n ops (o::rest) env H K
theorem sto1{ty:TypeId}{x:Operand}{t b off d ds bty cs cs' f}(hx:opd env x=some (.p b off))(hy:opd env y=some d)(hfl:Flat d ds)(hk:UpdF H (.box b bty cs) f)(hs:tsize P t=some ds.length)(hsp:Spl cs off ds cs'):Stored κ P n ⟨none,.store t x y,ty,pos,after,none⟩ env H (f (.box b bty cs')):=λ_ _ _ h=>jdU hx hy hfl hk hs hsp h
theorem jAg{ty:TypeId}{x:Operand}{t g k len cap ety l d f}(hx:opd env x=some (.p g (k * 1)))(hy:opd env y=some d)(hsc:Scal d)(hk:UpdF H (.arr (.slice (some ⟨g,0,none⟩) len cap) ety 1 l) f)(hs:tsize P t=some 1)(hkl:k<l.length):Stored κ P n ⟨none,.store t x y,ty,pos,after,none⟩ env H (f (.arr (.slice (some ⟨g,0,none⟩) len cap) ety 1 (l.set k d))):=λ_ _ _ h=>jgU hx hy hsc hk hs hkl h
theorem zSt(hk:AOps κ P n ops rest env H' K)(h:Stored κ P n o env H H':=by first | (apply sto1;exact rfl;exact rfl;exact jdZ;exact jct;exact rfl;exact zRc) | (apply jAg;exact rfl;exact rfl;exact jiY;exact jct;exact rfl;(simp only[List.length_set,qw];omega))):AOps κ P n ops (o::rest) env H K:=h _ _ _ hk
theorem zV{ty:TypeId}{d:D}(hk:AOps κ P n ops rest ((t,d)::env) H K)(hd:dst=some t)(ht:Nat.blt t n=true)(hg:Gx ops env t gd)(h:AQ P n [] ⟨dst,op,ty,pos,after,gd⟩ env H d):AOps κ P n ops (⟨dst,op,ty,pos,after,gd⟩::rest) env H K:=zQ h hk hd ht hg
theorem zOp{n env H d}(h:AQ Tryz.prog n [] o env H d:=by first | (apply AP.aq;exact zAP) | (apply jes;exact rfl;exact jct;(exact qv);exact rfl;exact zRc) | (apply jmf;exact rfl;exact jct;(exact qv);exact rfl;exact rfl;exact zRc) | (apply jcj;exact rfl;exact rfl;exact jiY;(exact λ_ h=>qp h qv)) | (apply jfl;exact rfl;exact rfl;exact rfl;exact rfl;(exact λ_ h=>qp h qv)) | (apply jfS;exact rfl;exact rfl;exact jiY;(exact λ_ h=>qp h qv)) | (apply jkM;exact rfl;exact jct;(exact qv);exact rfl;exact jz5;exact jiY)):AQ Tryz.prog n [] o env H d:=h
theorem zSto(hk:AOps κ P n ops rest env H' K)(h:Stored κ P n o env H H'):AOps κ P n ops (o::rest) env H K:=h _ _ _ hk
theorem zVn{ty:TypeId}(hk:AOps κ P n ops rest ((t,.v undef)::env) H K)(hd:dst=some t)(ht:Nat.blt t n=true)(hg:Gn ops env t gd):AOps κ P n ops (⟨dst,op,ty,pos,after,gd⟩::rest) env H K:=zSk hk hd ht hg
theorem zW(h:q)(s:q->p:=by intro h;first | (apply zV h;exact rfl;exact rfl;exact zGx;exact zOp) | exact jyp h | exact jiA h | exact jaT h | exact jyJ h | (apply zSto h;first | (apply sto1;exact rfl;exact rfl;exact jdZ;exact jct;exact rfl;exact zRc) | (apply jAg;exact rfl;exact rfl;exact jiY;exact jct;exact rfl;(simp only[List.length_set,qw];omega))) | (apply zVn h;exact rfl;exact rfl;exact zGn) | exact jsy h | exact jus h | exact jyu h | exact juz h | exact jz2 h | exact jzr h | exact jvE h | exact juY h | exact juy rfl h | exact juk rfl h | exact ju6 zKr h):p:=s h
theorem zLn{ty:TypeId}{pos:String}{after:Array Edge}{t0 e sz l d' x}(hk:l.length<=capB->AOps κ P n ops rest ((d',.i (l.length:Int))::env) H K)(hx:opd env x=some (.sl sz l):=by exact rfl)(ht:telem P t0=some e:=by exact rfl)(hd:dst=some d':=by exact rfl)(hn:Nat.blt d' n=true:=by exact rfl):AOps κ P n ops (⟨dst,.call { callee:=.builtin .len,args:=#[x],argTypes:=#[t0] },ty,pos,after,none⟩::rest) env H K:=juj hx ht hd hn hk
theorem zC{c:Operand}{t:Bool}{c1 c2:Code}(ht:t=true->AWp κ P n c1 env H Q)(hf:t=false->AWp κ P n c2 env H Q)(hc:opd env c=some (.b t):=by exact rfl):AWp κ P n (.cond c c1 c2) env H Q:=jjp hc ht hf
theorem zWk{env':Env}(he:Sub env env':=by exact zSub)(hh:Keep H H':=by exact jcy):Wk env H env' H':=wk he hh
theorem zFz{env':Env}{H1:Heap}{c:Code}(v:Value)(live:List Nat){ety sz l}(h:AWp κ P n c env' H' Q)(hk:Rem H (.arr v ety sz l) H1:=by exact jyP)(he:SelC v sz l env live env':=by exact jcb)(hh:HeapA v sz l H1 H':=by exact jcr):AWp κ P n c env H Q:=jpn v live hk he hh h
theorem zPi{rs:List ResultVar}{d:D}{K:Heap}{ds}(hd:resD ds=d)(h:ResL P env H rs ds:=by exact zRs)(hk:Keep H K:=by exact jcy):Post P rs (Is d K) .ret env H:=jaq h hk hd
theorem zBx{ty:TypeId}{ety d ds x}(hk:∀b,AOps κ P n ops rest ((t,.p b 0)::env) (.box b ety ds::H) K)(hx:opd env x=some d:=by exact rfl)(hfl:Flat d ds:=by exact jdZ)(hd:dst=some t:=by exact rfl)(hn:Nat.blt t n=true:=by exact rfl):AOps κ P n ops (⟨dst,.box ety x,ty,pos,after,none⟩::rest) env H K:=jua hx hfl hd hn hk
theorem zAl{ty:TypeId}{ety us ds}(hk:∀b,AOps κ P n ops rest ((t,.p b 0)::env) (.box b ety ds::H) K)(hz:tzero P ety=some us:=by exact rfl)(hu:AllV us ds:=by exact zRc)(hd:dst=some t:=by exact rfl)(hn:Nat.blt t n=true:=by exact rfl):AOps κ P n ops (⟨dst,.alloc ety,ty,pos,after,none⟩::rest) env H K:=jff hz hu hd hn hk
theorem zDr{id:Nat}{l:List Oper}(Hm:Heap)(h:AAny κ P n Hr l.toArray l.toArray.size (Array.replicate l.toArray.size false) env Hm (λenv' H'=>Q .normal env' (H'++Hr)))(hmix:P.follows .mixedOrders=true:=by exact zKr)(hs:Split H Hm Hr:=by exact jaE):AWp κ P n (.region id l.toArray true) env H Q:=juC hmix hs h
theorem zGd{ops env o}(h:Gd ops env o true:=by first | exact .none rfl | exact .yes rfl rfl jcm):Gd ops env o true:=h
theorem zGo{ops env o}(h:Gd ops env o false:=by first | exact .nou rfl rfl | exact .no rfl rfl (by first | (show _=true;with_reducible assumption) | (show _=false;with_reducible assumption) | exact jcm)):Gd ops env o false:=h
theorem zT{d:D}(i:Nat)(hk:AAny κ Tryz.prog n Hr ops fuel (listed.setIfInBounds i true) ((t,d)::env) H K)(ho:ops[i]?=some o:=by exact rfl)(hgd:Gd ops env o true:=by exact zGd)(h:AR Tryz.prog n Hr o env H d:=by exact zAR)(hs:Region.noSelect ops=true:=by exact zKr)(hf:Region.free .any ops listed i=true:=by exact zKr)(hr:(Region.ready .any ops listed).contains i=true:=by exact zKr)(hd:o.dst=some t:=by exact rfl)(ht:Nat.blt t n=true:=by exact rfl):AAny κ Tryz.prog n Hr ops (fuel+1) listed env H K:=jam i ho hgd hs hf hr h hd ht hk
theorem zK(i:Nat)(hk:AAny κ P n Hr ops fuel (listed.setIfInBounds i true) env H K)(ho:ops[i]?=some o:=by exact rfl)(hgd:Gd ops env o false:=by exact zGo)(hs:Region.noSelect ops=true:=by exact zKr)(hf:Region.free .any ops listed i=true:=by exact zKr)(hr:(Region.ready .any ops listed).contains i=true:=by exact zKr)(hd:o.dst=some t:=by exact rfl)(hl:Go.Av.look env t=none:=by exact rfl):AAny κ P n Hr ops (fuel+1) listed env H K:=jss i ho hgd hs hf hr hd hl hk
theorem zKu(i:Nat)(hk:AAny κ P n Hr ops fuel (listed.setIfInBounds i true) ((t,.v undef)::env) H K)(ho:ops[i]?=some o:=by exact rfl)(hgd:Gd ops env o false:=by exact zGo)(hs:Region.noSelect ops=true:=by exact zKr)(hf:Region.free .any ops listed i=true:=by exact zKr)(hr:(Region.ready .any ops listed).contains i=true:=by exact zKr)(hd:o.dst=some t:=by exact rfl)(ht:Nat.blt t n=true:=by exact rfl):AAny κ P n Hr ops (fuel+1) listed env H K:=jp2 i ho hgd hs hf hr hd ht hk
theorem zOn{ty:TypeId}(i:Nat)(h:AOps κ P n ops [⟨dst,op,ty,pos,after,none⟩] env H (λenv' H'=>AAny κ P n Hr ops fuel (listed.setIfInBounds i true) env' H' K))(hr:Region.ready .any ops listed=[i]:=by exact zKr)(ho:ops[i]?=some ⟨dst,op,ty,pos,after,gd⟩:=by exact rfl)(hgd:Gd ops env ⟨dst,op,ty,pos,after,gd⟩ true:=by exact zGd):AAny κ P n Hr ops (fuel+1) listed env H K:=jtM i hr ho hgd h
theorem zE2{ty:TypeId}{op':Op}{dst':Option Tmp}{ty':TypeId}{pos':String}{after':Array Edge}{gd':Option (Nat × Bool)}(i j:Nat)(h:AOps κ P n ops [⟨dst,op,ty,pos,after,none⟩] env H (λenv' H'=>AAny κ P n Hr ops fuel (listed.setIfInBounds i true) env' H' K))(h':AOps κ P n ops [⟨dst',op',ty',pos',after',none⟩] env H (λenv' H'=>AAny κ P n Hr ops fuel (listed.setIfInBounds j true) env' H' K))(hr:Region.ready .any ops listed=[i,j]:=by exact zKr)(ho:ops[i]?=some ⟨dst,op,ty,pos,after,gd⟩:=by exact rfl)(hgd:Gd ops env ⟨dst,op,ty,pos,after,gd⟩ true:=by exact zGd)(ho':ops[j]?=some ⟨dst',op',ty',pos',after',gd'⟩:=by exact rfl)(hgd':Gd ops env ⟨dst',op',ty',pos',after',gd'⟩ true:=by exact zGd):AAny κ P n Hr ops (fuel+1) listed env H K:=jpR i j hr ho hgd h ho' hgd' h'
theorem jbK:capB=140737488355328:=rfl
structure Nx(q:Prop):Prop where
 out:q
theorem xA(c:r)(h:q)(s:r->Nx q->p:=by intro xc xh;(repeat refine zW ?_);exact jaa zRc xc rfl rfl xh.1):p:=s c ⟨h⟩
theorem xB(c:r)(h:q)(s:r->Nx q->p:=by intro xc xh;(repeat refine zW ?_);exact jas zRc xc jaE rfl rfl xh.1):p:=s c ⟨h⟩
theorem xE{v:Bool}{q:Bool->Prop}(c:r)(h:∀c,v=c->q c)(s:r->Nx (∀c,v=c->q c)->p:=by intro xc xh;(repeat refine zW ?_);exact jbE zRc xc rfl rfl xh.1):p:=s c ⟨h⟩
theorem xC{q1 q2:Prop}{t:Bool}(h1:t=true->q1)(h2:t=false->q2)(s:Nx (t=true->q1)->Nx (t=false->q2)->p:=by intro xh xg;(repeat refine zW ?_);exact zC xh.1 xg.1):p:=s ⟨h1⟩ ⟨h2⟩
theorem xP(h:q)(s:Nx q->p:=by intro xh;(repeat refine zW ?_);exact zPi xh.1):p:=s ⟨h⟩
theorem xL{q:Nat->Prop}(h:∀b,q b)(s:Nx (∀b,q b)->p:=by intro xh;(repeat refine zW ?_);exact zAl xh.1):p:=s ⟨h⟩
theorem xX{q:Nat->Prop}(h:∀b,q b)(s:Nx (∀b,q b)->p:=by intro xh;(repeat refine zW ?_);exact zBx xh.1):p:=s ⟨h⟩
theorem xN(h:r->q)(s:Nx (r->q)->p:=by intro xh;(repeat refine zW ?_);exact zLn xh.1):p:=s ⟨h⟩
theorem xLt{ty:TypeId}{t len parts l d}(e sz by_:Nat)(hk:AOps κ P n ops rest ((d,.sl sz l)::env) H K)(ht:telem P t=some e:=by exact rfl)(hi:tinfo P e=some (sz,by_):=by exact rfl)(hp:PartsIn env sz 0 parts l:=by exact zRc)(hl:l.length=len:=by exact rfl)(hsm:Nat.ble (len * sz) 16777216=true:=by exact rfl)(hd:dst=some d:=by exact rfl)(hn:Nat.blt d n=true:=by exact rfl):AOps κ P n ops (⟨dst,.buildSlice t len parts.toArray,ty,pos,after,none⟩::rest) env H K:=juL ht hi hp hl hsm hd hn hk
theorem xEa{ty:TypeId}{pos:String}{after:Array Edge}{x:Operand}{t v l l2 f d}(e sz by_:Nat)(h:∀v',v'.oneCell'=true->AOps κ P n ops rest ((d,.v v')::env) (f (.arr v' e sz (l++l2))) K)(hx:opd env x=some (.v v):=by exact rfl)(hk:UpdF H (.arr v e sz l) f:=by exact jct)(hy:opd env y=some (.sl sz l2):=by exact rfl)(ht:telem P t=some e:=by exact rfl)(hi:tinfo P e=some (sz,by_):=by exact rfl)(hd:dst=some d:=by exact rfl)(hn:Nat.blt d n=true:=by exact rfl)(hb:(l.length+l2.length) * by_<=capB/\l.length+l2.length<=capB:=by simp only[qi,qu,qm,qw,jaQ];omega):AOps κ P n ops (⟨dst,.call { callee:=.builtin .append,args:=#[x,y],argTypes:=#[t,t] },ty,pos,after,none⟩::rest) env H K:=jmm hx hk hy ht hi hd hn hb h
theorem xEn{ty:TypeId}{pos:String}{after:Array Edge}{x:Operand}{t l2 d}(e sz by_:Nat)(h:∀v',v'.oneCell'=true->AOps κ P n ops rest ((d,.v v')::env) (.arr v' e sz l2::H) K)(hx:opd env x=some .nil:=by exact rfl)(hy:opd env y=some (.sl sz l2):=by exact rfl)(ht:telem P t=some e:=by exact rfl)(hi:tinfo P e=some (sz,by_):=by exact rfl)(hd:dst=some d:=by exact rfl)(hn:Nat.blt d n=true:=by exact rfl)(hb:l2.length * by_<=capB/\l2.length<=capB:=by simp only[qi,qu,qm,qw,jaQ];omega):AOps κ P n ops (⟨dst,.call { callee:=.builtin .append,args:=#[x,y],argTypes:=#[t,t] },ty,pos,after,none⟩::rest) env H K:=jht hx hy ht hi hd hn hb h
theorem xLb(h:p:=by simp only[qi,qu,qm,qw,List.length_take,List.length_drop];omega):p:=h
theorem xG{q1 q2:Prop}{b want wn:Bool}(h1:b=want->q1)(h2:b=wn->q2)(s:Nx (b=want->q1)->Nx (b=wn->q2)->p:=by intro xh xg;refine zG (λxi=>?_) xg.1;refine zW ?_;exact xh.1 xi):p:=s ⟨h1⟩ ⟨h2⟩
theorem xI{fn:Func}{c:Code}{args:List D}{R:D->Heap->Prop}(hf:P.funcs[f]?=some fn)(hcall:∀(vs:Array Value)(w:World),(callFunc f vs).run P w=.ok (.enter f vs) w)(h:capB=140737488355328->AWp κ P fn.ntmps c (argEnv 0 args) H (Post P fn.results.toList R))(hb:fn.body=some c:=by exact rfl)(hlen:Nat.ble args.length fn.ntmps=true:=by exact rfl):Con κ P f args H R:=jar hf hb hcall hlen (h jbK)
theorem xc4{v:Value}{sz:Nat}{l a b:List D}{w x y z:D}(h:CvL v sz l a b):CvL v sz l (w::x::y::z::a) (w::x::y::z::b):=.cons .same (.cons .same (.cons .same (.cons .same h)))
theorem xHb(h:p:=by repeat (first | exact HeapA.nil | apply HeapA.box (by repeat (first | exact CvL.nil | apply CvL.cons Cv.same)) | apply HeapA.arr)):p:=h
theorem xSe(h:p:=by repeat (first | exact SelC.nil | apply SelC.cons rfl Cv.same)):p:=h
theorem xUp(h:p:=by refine Up.agg ?_;repeat (first | exact UpL.nil | apply UpL.cons (by first | exact Up.same | exact Up.int | exact Up.nil))):p:=h
theorem shl1(k:Nat)(hk:k<=62):2^k<9223372036854775808:=Nat.lt_of_le_of_lt (Nat.pow_le_pow_right zo hk) zo
theorem jaL{k:Nat}(hk:k<10):2^k<1024:=by
 have:k=0\/k=1\/k=2\/k=3\/k=4\/k=5\/k=6\/k=7\/k=8\/k=9:=by omega
 rcases this with h | h | h | h | h | h | h | h | h | h<;>subst h<;>decide
theorem jbJ{s:Int}(h:valid s=true):∃m:Nat,s=m/\m<1024:=by
 have h5:0<=s/\s<1024:=by simpa[valid] using h
 obtain⟨m,rfl⟩:=qD h5.1;exact⟨m,rfl,by omega⟩
theorem jyg{m q:Nat}(h1:valid (m:Int)=true)(h3:q<10):(!decide (((m&&&1 * 2^q:Nat):Int)=0))=has m q:=by
 have h2:(0:Int)<=(q:Int):=by omega
 have h4:(q:Int)<10:=by omega
 have e:=jpL m q;rw[Nat.one_mul];unfold has;rw[h1,qg h2,qg h4];simp only[qx,qq];cases hb:m.testBit q with
 | true =>
  have:=e.2 hb;simp;omega
 | false =>
  have:m&&&2^q=0:=by
   rcases Nat.eq_zero_or_pos (m&&&2^q) with h | h
   ·exact h
   ·have:=e.1 zo;rw[hb] at this;cases this
  simp[this]
theorem joz{m q:Nat}(h1:valid (m:Int)=true)(h3:q<10):decide (((m / 2^q&&&1:Nat):Int)=1)=has m q:=by
 have h2:(0:Int)<=(q:Int):=by omega
 have h4:(q:Int)<10:=by omega
 unfold has;rw[h1,qg h2,qg h4];simp only[qx,qq,Nat.testBit,Nat.shiftRight_eq_div_pow,Nat.and_comm 1];rcases Nat.mod_two_eq_zero_or_one (m / 2^q) with h | h<;>simp[Nat.and_one_is_mod,h]
theorem jsq(s:Int)(k:Nat)(hk:k<=62):C0 161 [.i s,.i k] (.b (decide (0<=s)&&decide (s<2^k))):=by
 refine xI Tryz.func161 Tryz.call161 λhcap=>?_;have h2:=shl1 k hk;iterate 10 refine zW ?_
 iterate 2 all_goals first | refine zW ?_ | refine xG ?_ ?_<;>intro hg
 all_goals first | (refine zY ?_;refine zP (jaZ (p:=1) rfl rfl rfl zo zo) ?_) | refine zSk ?_
 iterate 3 all_goals refine zW ?_
 all_goals (
 iterate 3 refine zW ?_
 refine jaq (.tmp rfl .nil) .nil ?_
 first | (simp_all[resD];done) | (simp_all[resD];omega))
theorem jce(s:Int):C0 128 [.i s] (.b (valid s)):=by
 refine xI Tryz.func128 Tryz.call128 λhcap=>?_;refine xA (jsq _ 10 zo) ?_;iterate 4 refine zW ?_
 refine jaq (.tmp rfl .nil) .nil ?_;simp[resD,valid]
theorem jhC(s k:Int):C0 118 [.i s,.i k] (.b (has s k)):=by
 have hcap:=jbK
 by_cases h1:valid s=true
 ·(
 by_cases h2:0<=k
 ·(
 by_cases h3:k<10
 ·(
 obtain⟨q,rfl⟩:=qD h2;obtain⟨m,rfl,hm⟩:=jbJ h1;have hq:=jaL (k:=q) zo;have hdiv:m / 2^q<=m:=Nat.div_le_self _ _;refine jar Tryz.func118 rfl Tryz.call118 rfl ?_;refine xA (jce _) ?_;refine zW ?_
 iterate 10 all_goals refine zW ?_
 all_goals (refine zY ?_;refine zP (jaZ (p:=1) rfl rfl rfl zo zo) ?_)
 iterate 4 all_goals refine zW ?_
 all_goals (
 iterate 3 refine zW ?_
 refine jaq (.tmp rfl .nil) .nil ?_
 exact congrArg D.b (jyg h1 zo)))
 ·(
 refine jar Tryz.func118 rfl Tryz.call118 rfl ?_;refine xA (jce _) ?_;refine zW ?_
 iterate 10 all_goals refine zW ?_
 all_goals refine zSk ?_
 iterate 4 all_goals refine zW ?_
 all_goals (
 iterate 3 refine zW ?_
 refine jaq (.tmp rfl .nil) .nil ?_
 simp[resD,has,h1,h2,h3];done)))
 ·(
 refine jar Tryz.func118 rfl Tryz.call118 rfl ?_;refine xA (jce _) ?_;refine zW ?_
 iterate 10 all_goals refine zW ?_
 all_goals refine zSk ?_
 iterate 4 all_goals refine zW ?_
 all_goals (
 iterate 3 refine zW ?_
 refine jaq (.tmp rfl .nil) .nil ?_
 simp[resD,has,h1,h2];done)))
 ·(
 have h1:valid s=false:=by simpa using h1
 refine jar Tryz.func118 rfl Tryz.call118 rfl ?_;refine xA (jce _) ?_;refine zW ?_
 iterate 10 all_goals refine zW ?_
 all_goals refine zSk ?_
 iterate 4 all_goals refine zW ?_
 all_goals (
 iterate 3 refine zW ?_
 refine jaq (.tmp rfl .nil) .nil ?_
 simp[resD,has,h1];done))
theorem jbg(s:Int):C0 66 [.i s] (.b (valid s)):=by
 refine xI Tryz.func66 Tryz.call66 λhcap=>?_;iterate 10 refine zW ?_
 iterate 4 all_goals first | refine zW ?_ | refine xG ?_ ?_<;>intro hg
 all_goals (
 iterate 3 refine zW ?_
 refine jaq (.tmp rfl .nil) .nil ?_
 first | (simp_all[resD,valid];done) | (simp_all[resD,valid];omega))
theorem jb6(s k:Int):C0 115 [.i s,.i k] (.b (has s k)):=by
 have hcap:=jbK
 by_cases h1:valid s=true
 ·(
 by_cases h2:0<=k
 ·(
 by_cases h3:k<10
 ·(
 obtain⟨q,rfl⟩:=qD h2;obtain⟨m,rfl,hm⟩:=jbJ h1;have hq:=jaL (k:=q) zo;have hdiv:m / 2^q<=m:=Nat.div_le_self _ _;refine jar Tryz.func115 rfl Tryz.call115 rfl ?_;refine xA (jbg _) ?_;refine zW ?_
 iterate 10 all_goals refine zW ?_
 all_goals (refine zY ?_;refine zP (jeQ rfl rfl zo) ?_)
 all_goals (refine zY ?_;refine zP (jcz (q:=1) rfl rfl rfl zo zo) ?_)
 iterate 3 all_goals refine zW ?_
 all_goals (
 iterate 3 refine zW ?_
 refine jaq (.tmp rfl .nil) .nil ?_
 exact congrArg D.b (joz h1 zo)))
 ·(
 refine jar Tryz.func115 rfl Tryz.call115 rfl ?_;refine xA (jbg _) ?_;refine zW ?_
 iterate 10 all_goals refine zW ?_
 all_goals refine zSk ?_
 all_goals refine zSk ?_
 iterate 3 all_goals refine zW ?_
 all_goals (
 iterate 3 refine zW ?_
 refine jaq (.tmp rfl .nil) .nil ?_
 simp[resD,has,h1,h2,h3];done)))
 ·(
 refine jar Tryz.func115 rfl Tryz.call115 rfl ?_;refine xA (jbg _) ?_;refine zW ?_
 iterate 10 all_goals refine zW ?_
 all_goals refine zSk ?_
 all_goals refine zSk ?_
 iterate 3 all_goals refine zW ?_
 all_goals (
 iterate 3 refine zW ?_
 refine jaq (.tmp rfl .nil) .nil ?_
 simp[resD,has,h1,h2];done)))
 ·(
 have h1:valid s=false:=by simpa using h1
 refine jar Tryz.func115 rfl Tryz.call115 rfl ?_;refine xA (jbg _) ?_;refine zW ?_
 iterate 10 all_goals refine zW ?_
 all_goals refine zSk ?_
 all_goals refine zSk ?_
 iterate 3 all_goals refine zW ?_
 all_goals (
 iterate 3 refine zW ?_
 refine jaq (.tmp rfl .nil) .nil ?_
 simp[resD,has,h1];done))
theorem jsn(s:Int):∀(t:Trust),Con none Tryz.prog 201 [av t,.i s] [] (Is (.b (sat s t)) []):=by
 have hcap:=jbK;intro t
 induction t using Trust.ind with
 | _ t ih =>
  have hl1:(t.nodes.map D.i).length=t.nodes.length:=by simp
  have hl2:=jaQ t.inner;refine jar Tryz.func201 rfl Tryz.call201 rfl ?_;refine xX λb2=>?_;refine xA (jce _) ?_;refine xC ?_ ?_<;>intro hc
  ·iterate 7 refine zW ?_
   refine jaq (.tmp rfl .nil) .nil ?_
   first | (simp_all[resD,sat];done)
  ·have h1:valid s=true:=by simpa using hc
   refine xN λ_=>?_;iterate 4 refine zW ?_
   refine jag [1,2,14,15] [.box b2 _ _] (λ(k:Nat)(n:Int) r=>(5,.i n)::(16,.i (k:Int))::r) (λk n r=>r) (λk n=>k<=t.nodes.length/\(0<=n/\n<=k)/\n+cnt (has s) (t.nodes.drop k)=cnt (has s) t.nodes) (λk n=>t.nodes.length - k) (0) (0) zRc ⟨by omega,by omega,by simp⟩ (zWk) ?_;intro k n ⟨hk,hn,hI⟩;refine xC ?_ ?_<;>intro hc
   ·have hlt:k<t.nodes.length:=by have:=qc hc;omega
    obtain⟨x,hx,hd⟩:=jab hlt;have hx':=jad D.i hx;refine xA (jhC _ _) ?_;refine xC ?_ ?_<;>intro hc
    ·iterate 12 refine zW ?_
     refine⟨k+1,_,⟨by omega,?_,?_⟩,by omega,zWk⟩
     ·omega
     ·rw[hd,jcZ] at hI;simp[hc] at hI;omega
    ·iterate 8 refine zW ?_
     refine⟨k+1,_,⟨by omega,?_,?_⟩,by omega,zWk⟩
     ·omega
     ·rw[hd,jcZ] at hI;simp[hc] at hI;omega
   ·have hge:t.nodes.length<=k:=by have:=qd hc;omega
    rw[jae hge] at hI;simp only[cnt] at hI;refine xN λ_=>?_;iterate 4 refine zW ?_
    refine jag [1,2,27,28] [.box b2 _ _] (λ(k:Nat)(n:Int) r=>(5,.i n)::(29,.i (k:Int))::r) (λk n r=>r) (λk n=>k<=t.inner.length/\(0<=n/\n<=t.nodes.length+k)/\n+cntI s (t.inner.drop k)=cnt (has s) t.nodes+cntI s t.inner) (λk n=>t.inner.length - k) (0) (n) zRc ⟨by omega,by omega,by simpa using hI⟩ (zWk) ?_;intro k n ⟨hk,hn,hI⟩;refine xC ?_ ?_<;>intro hc
    ·have hlt:k<t.inner.length:=by have:=qc hc;omega
     obtain⟨x,hx,hd⟩:=jab hlt;have hx':=jbo hx;refine xL λb9=>?_;refine xA (ih _ (qk hx)) ?_;refine xC ?_ ?_<;>intro hc
     ·iterate 12 refine zW ?_
      refine⟨k+1,_,⟨by omega,?_,?_⟩,by omega,zWk⟩
      ·omega
      ·rw[hd,jcD] at hI;simp[hc] at hI;omega
     ·iterate 8 refine zW ?_
      refine⟨k+1,_,⟨by omega,?_,?_⟩,by omega,zWk⟩
      ·omega
      ·rw[hd,jcD] at hI;simp[hc] at hI;omega
    ·have hge:t.inner.length<=k:=by have:=qd hc;omega
     rw[jae hge] at hI;simp only[cntI] at hI;iterate 15 refine zW ?_
     refine jaq (.tmp rfl .nil) .nil ?_;simp[resD,sat,h1,<-hI]
theorem je3(s:Int):∀(t:Trust),Con none Tryz.prog 69 [av t,.i s] [] (Is (.b (sat s t)) []):=by
 have hcap:=jbK;intro t
 induction t using Trust.ind with
 | _ t ih =>
  have hl1:(t.nodes.map D.i).length=t.nodes.length:=by simp
  have hl2:=jaQ t.inner;refine jar Tryz.func69 rfl Tryz.call69 rfl ?_;refine xX λb2=>?_;refine xA (jbg _) ?_;refine xC ?_ ?_<;>intro hc
  ·iterate 7 refine zW ?_
   refine jaq (.tmp rfl .nil) .nil ?_
   first | (simp_all[resD,sat];done)
  ·have h1:valid s=true:=by simpa using hc
   refine xN λ_=>?_;iterate 4 refine zW ?_
   refine jag [1,2,14,15] [.box b2 _ _] (λ(k:Nat)(n:Int) r=>(5,.i n)::(16,.i (k:Int))::r) (λk n r=>r) (λk n=>k<=t.nodes.length/\(0<=n/\n<=k)/\n+cnt (has s) (t.nodes.drop k)=cnt (has s) t.nodes) (λk n=>t.nodes.length - k) (0) (0) zRc ⟨by omega,by omega,by simp⟩ (zWk) ?_;intro k n ⟨hk,hn,hI⟩;refine xC ?_ ?_<;>intro hc
   ·have hlt:k<t.nodes.length:=by have:=qc hc;omega
    obtain⟨x,hx,hd⟩:=jab hlt;have hx':=jad D.i hx;refine xA (jb6 _ _) ?_;refine xC ?_ ?_<;>intro hc
    ·iterate 12 refine zW ?_
     refine⟨k+1,_,⟨by omega,?_,?_⟩,by omega,zWk⟩
     ·omega
     ·rw[hd,jcZ] at hI;simp[hc] at hI;omega
    ·iterate 8 refine zW ?_
     refine⟨k+1,_,⟨by omega,?_,?_⟩,by omega,zWk⟩
     ·omega
     ·rw[hd,jcZ] at hI;simp[hc] at hI;omega
   ·have hge:t.nodes.length<=k:=by have:=qd hc;omega
    rw[jae hge] at hI;simp only[cnt] at hI;refine xN λ_=>?_;iterate 4 refine zW ?_
    refine jag [1,2,27,28] [.box b2 _ _] (λ(k:Nat)(n:Int) r=>(5,.i n)::(29,.i (k:Int))::r) (λk n r=>r) (λk n=>k<=t.inner.length/\(0<=n/\n<=t.nodes.length+k)/\n+cntI s (t.inner.drop k)=cnt (has s) t.nodes+cntI s t.inner) (λk n=>t.inner.length - k) (0) (n) zRc ⟨by omega,by omega,by simpa using hI⟩ (zWk) ?_;intro k n ⟨hk,hn,hI⟩;refine xC ?_ ?_<;>intro hc
    ·have hlt:k<t.inner.length:=by have:=qc hc;omega
     obtain⟨x,hx,hd⟩:=jab hlt;have hx':=jbo hx;refine xL λb9=>?_;refine xA (ih _ (qk hx)) ?_;refine xC ?_ ?_<;>intro hc
     ·iterate 12 refine zW ?_
      refine⟨k+1,_,⟨by omega,?_,?_⟩,by omega,zWk⟩
      ·omega
      ·rw[hd,jcD] at hI;simp[hc] at hI;omega
     ·iterate 8 refine zW ?_
      refine⟨k+1,_,⟨by omega,?_,?_⟩,by omega,zWk⟩
      ·omega
      ·rw[hd,jcD] at hI;simp[hc] at hI;omega
    ·have hge:t.inner.length<=k:=by have:=qd hc;omega
     rw[jae hge] at hI;simp only[cntI] at hI;iterate 15 refine zW ?_
     refine jaq (.tmp rfl .nil) .nil ?_;simp[resD,sat,h1,<-hI]
theorem jsa(m:Nat)(hm:m<=1000000000):∀(t:Trust),sizeT t<=m->Con none Tryz.prog 135 [av t] [] (Is (.i (sizeT t)) []):=by
 have hcap:=jbK;intro t
 induction t using Trust.ind with
 | _ t ih =>
  intro hsz;have hl1:(t.nodes.map D.i).length=t.nodes.length:=by simp
  have hl2:=jaQ t.inner;have hs0:sizeT t=t.nodes.length+t.inner.length+sizeL t.inner:=rfl;refine jar Tryz.func135 rfl Tryz.call135 rfl ?_;refine xX λb1=>?_;refine xN λ_=>?_;refine xN λ_=>?_;refine xN λ_=>?_;iterate 4 refine zW ?_
  refine jag [14,15] [] (λ(k:Nat)(n:Nat) r=>(3,.i (n:Int))::(16,.i (k:Int))::r) (λk n r=>r) (λk n=>k<=t.inner.length/\n+sizeL (t.inner.drop k)=sizeT t) (λk n=>t.inner.length - k) (0) (t.nodes.length+t.inner.length) zRc ⟨by omega,by simp;omega⟩ (by rw[<-hl1,<-hl2];exact zWk) ?_;intro k n ⟨hk,hI⟩;refine xC ?_ ?_<;>intro hc
  ·have hlt:k<t.inner.length:=by have:=qc hc;omega
   obtain⟨x,hx,hd⟩:=jab hlt;have hx':=jbo hx;have hxm:=qk hx;refine xL λb5=>?_;refine xA (ih _ hxm (by have:=jbM hxm;omega)) ?_
   (have hq:=hI;rw[hd,jbd] at hq;refine zP (jb3 rfl rfl rfl zo) ?_)
   iterate 9 refine zW ?_
   rw[hd,jbd] at hI;refine⟨k+1,n+sizeT x,⟨by omega,by omega⟩,by omega,zWk⟩
  ·have hge:t.inner.length<=k:=by have:=qd hc;omega
   rw[jae hge] at hI;simp only[sizeL] at hI;iterate 12 refine zW ?_
   refine jaq (.tmp rfl .nil) .nil ?_;simp only[resD];rw[<-hI];rfl
theorem jvx(m:Nat)(hm:m<=1000000000):∀(t:Trust),sizeT t<=m->Con none Tryz.prog 190 [av t] [] (Is (.i (sizeT t)) []):=by
 have hcap:=jbK;intro t
 induction t using Trust.ind with
 | _ t ih =>
  intro hsz;have hl1:(t.nodes.map D.i).length=t.nodes.length:=by simp
  have hl2:=jaQ t.inner;have hs0:sizeT t=t.nodes.length+t.inner.length+sizeL t.inner:=rfl;refine jar Tryz.func190 rfl Tryz.call190 rfl ?_;refine xX λb1=>?_;refine xN λ_=>?_;refine xN λ_=>?_;refine xN λ_=>?_;iterate 4 refine zW ?_
  refine jag [14,15] [] (λ(k:Nat)(n:Nat) r=>(3,.i (n:Int))::(16,.i (k:Int))::r) (λk n r=>r) (λk n=>k<=t.inner.length/\n+sizeL (t.inner.drop k)=sizeT t) (λk n=>t.inner.length - k) (0) (t.nodes.length+t.inner.length) zRc ⟨by omega,by simp;omega⟩ (by rw[<-hl1,<-hl2];exact zWk) ?_;intro k n ⟨hk,hI⟩;refine xC ?_ ?_<;>intro hc
  ·have hlt:k<t.inner.length:=by have:=qc hc;omega
   obtain⟨x,hx,hd⟩:=jab hlt;have hx':=jbo hx;have hxm:=qk hx;refine xL λb5=>?_;refine xA (ih _ hxm (by have:=jbM hxm;omega)) ?_
   (have hq:=hI;rw[hd,jbd] at hq;refine zP (jb3 rfl rfl rfl zo) ?_)
   iterate 9 refine zW ?_
   rw[hd,jbd] at hI;refine⟨k+1,n+sizeT x,⟨by omega,by omega⟩,by omega,zWk⟩
  ·have hge:t.inner.length<=k:=by have:=qd hc;omega
   rw[jae hge] at hI;simp only[sizeL] at hI;iterate 12 refine zW ?_
   refine jaq (.tmp rfl .nil) .nil ?_;simp only[resD];rw[<-hI];rfl
theorem jqx(m:Nat)(hm:m<=1000000000):∀(t:Trust),sizeT t<=m->Con none Tryz.prog 134 [av t] [] (Is (.i (depthT t)) []):=by
 have hcap:=jbK;intro t
 induction t using Trust.ind with
 | _ t ih =>
  intro hsz;have hl2:=jaQ t.inner;have hs0:sizeT t=t.nodes.length+t.inner.length+sizeL t.inner:=rfl;have hdd:=jeC t;have hd0:depthT t=depthL t.inner+1:=rfl;refine jar Tryz.func134 rfl Tryz.call134 rfl ?_;refine xX λb1=>?_;refine xN λ_=>?_;iterate 4 refine zW ?_
  refine jag [7,8] [] (λ(k:Nat)(n:Nat) r=>(3,.i (n:Int))::(9,.i (k:Int))::r) (λk n r=>r) (λk n=>k<=t.inner.length/\max n (depthL (t.inner.drop k))=depthL t.inner) (λk n=>t.inner.length - k) (0) (0) zRc ⟨by omega,by simp⟩ (zWk) ?_;intro k n ⟨hk,hI⟩;refine xC ?_ ?_<;>intro hc
  ·have hlt:k<t.inner.length:=by have:=qc hc;omega
   obtain⟨x,hx,hd⟩:=jab hlt;have hx':=jbo hx;have hxm:=qk hx;refine xL λb5=>?_;refine xA (ih _ hxm (by have:=jbM hxm;omega)) ?_;iterate 10 refine zW ?_
   rw[hd,jcT] at hI;have hmx:max (n:Int) (depthT x)=((max n (depthT x):Nat):Int):=by omega
   rw[hmx];refine⟨k+1,max n (depthT x),⟨by omega,by omega⟩,by omega,zWk⟩
  ·have hge:t.inner.length<=k:=by have:=qd hc;omega
   rw[jae hge] at hI;simp only[depthL] at hI;iterate 13 refine zW ?_
   refine jaq (.tmp rfl .nil) .nil ?_;simp only[resD];rw[hd0,<-hI];simp
theorem jts(m:Nat)(hm:m<=1000000000):∀(t:Trust),sizeT t<=m->Con none Tryz.prog 189 [av t] [] (Is (.i (depthT t)) []):=by
 have hcap:=jbK;intro t
 induction t using Trust.ind with
 | _ t ih =>
  intro hsz;have hl2:=jaQ t.inner;have hs0:sizeT t=t.nodes.length+t.inner.length+sizeL t.inner:=rfl;have hdd:=jeC t;have hd0:depthT t=depthL t.inner+1:=rfl;refine jar Tryz.func189 rfl Tryz.call189 rfl ?_;refine xX λb1=>?_;refine xN λ_=>?_;iterate 4 refine zW ?_
  refine jag [7,8] [] (λ(k:Nat)(n:Nat) r=>(3,.i (n:Int))::(9,.i (k:Int))::r) (λk n r=>r) (λk n=>k<=t.inner.length/\max n (depthL (t.inner.drop k))=depthL t.inner) (λk n=>t.inner.length - k) (0) (0) zRc ⟨by omega,by simp⟩ (zWk) ?_;intro k n ⟨hk,hI⟩;refine xC ?_ ?_<;>intro hc
  ·have hlt:k<t.inner.length:=by have:=qc hc;omega
   obtain⟨x,hx,hd⟩:=jab hlt;have hx':=jbo hx;have hxm:=qk hx;refine xL λb5=>?_;refine xA (ih _ hxm (by have:=jbM hxm;omega)) ?_;iterate 10 refine zW ?_
   rw[hd,jcT] at hI;have hmx:max (n:Int) (depthT x)=((max n (depthT x):Nat):Int):=by omega
   rw[hmx];refine⟨k+1,max n (depthT x),⟨by omega,by omega⟩,by omega,zWk⟩
  ·have hge:t.inner.length<=k:=by have:=qd hc;omega
   rw[jae hge] at hI;simp only[depthL] at hI;iterate 13 refine zW ?_
   refine jaq (.tmp rfl .nil) .nil ?_;simp only[resD];rw[hd0,<-hI];simp
theorem jwt(h1:decide (x<0)=false)(h2:decide (10<=x)=false):∃q:Nat,x=q/\q<10:=by
 have h3:=qd h1;have h4:=qd h2;obtain⟨q,rfl⟩:=qD (show 0<=x by omega);exact⟨q,rfl,by omega⟩
theorem jcw{q:Nat}(h:s<1024)(hq:q<10):s|||1 * 2^q<1024:=by
 rw[Nat.one_mul];exact Nat.or_lt_two_pow (n:=10) h (Nat.pow_lt_pow_right zo hq)
theorem jym(l:List Int):C0 164 [.sl 1 (l.map .i)] (.tup [.i (ofGo 0 l).1,.i (ofGo 0 l).2]):=by
 refine xI Tryz.func164 Tryz.call164 λhcap=>?_;have hl1:(l.map D.i).length=l.length:=by simp
 refine xN λ_=>?_;iterate 4 refine zW ?_
 refine jag [7,8] [] (λ(k:Nat)(s:Nat) r=>(4,.i (s:Int))::(9,.i (k:Int))::r) (λk s r=>r) (λk s=>k<=l.length/\s<1024/\ofGo s (l.drop k)=ofGo 0 l) (λk s=>l.length - k) (0) (0) zRc ⟨by omega,by omega,by simp⟩ (zWk) ?_;intro k s ⟨hk,hs,hI⟩;refine xC ?_ ?_<;>intro hc
 ·(
 have hlt:k<l.length:=by have:=qc hc;omega
 obtain⟨x,hx,hd⟩:=jab hlt;have hx':=jad D.i hx;iterate 17 refine zW ?_
 iterate 3 all_goals first | refine zW ?_ | refine xG ?_ ?_<;>intro hg
 all_goals (
 refine xC ?_ ?_<;>intro hc
 ·(
 first
 | (exact xQ hc)
 |(
 iterate 13 refine zW ?_
 refine jaq (.tmp rfl (.tmp rfl .nil)) .nil ?_;rw[hd,ofGo,qf (by first | (have:=qc hg;omega) | (have:=qc hc;omega))] at hI
 rw[<-hI];rfl))
 ·(
 first
 | (exact xQ hc)
 |(
 have hc2:=hc;refine xA (jb6 _ _) ?_;refine xC ?_ ?_<;>intro hc
 ·(
 iterate 13 refine zW ?_
 refine jaq (.tmp rfl (.tmp rfl .nil)) .nil ?_;have h3:=qd hg;have h4:=qd hc2;rw[hd,ofGo,qe zo,qf hc] at hI
 rw[<-hI];rfl)
 ·(
 iterate 2 refine zW ?_
 obtain⟨q,rfl,hq⟩:=jwt hg hc2;have hp2:=jaL hq;iterate 3 refine zW ?_
 refine zP (jaZ (p:=1) rfl rfl rfl zo zo) ?_;iterate 10 refine zW ?_
 rw[hd,ofGo,qe zo,qe (by simp[hc])] at hI;refine⟨k+1,s|||1 * 2^q,⟨by omega,jcw hs hq,?_⟩,by omega,zWk⟩
 simpa using hI)))))
 ·(
 have hge:l.length<=k:=by have:=qd hc;omega
 rw[jae hge] at hI;simp only[ofGo] at hI;iterate 13 refine zW ?_
 refine jaq (.tmp rfl (.tmp rfl .nil)) .nil ?_
 rw[<-hI];rfl)
theorem jqn{l:List Int}{k:Nat}(h:l[k]?=some x)(hx:badN x=true):l.any badN=true :=
 List.any_eq_true.2 ⟨x,qk h,hx⟩
theorem jpd{r:List Int}(h1:decide (x<0)=false)(h2:decide (10<=x)=false):(x::r).any badN=r.any badN:=by
 simp[badN,h1,h2]
theorem jqu:∀(t:Trust),Con none Tryz.prog 136 [av t] [] (Is (.i (checkT t)) []):=by
 have hcap:=jbK;intro t
 induction t using Trust.ind with
 | _ t ih =>
  have hl1:(t.nodes.map D.i).length=t.nodes.length:=by simp
  have hl2:=jaQ t.inner;refine jar Tryz.func136 rfl Tryz.call136 rfl ?_;refine xX λb1=>?_;iterate 10 refine zW ?_
  iterate 4 all_goals first | refine zW ?_ | refine xG ?_ ?_<;>intro hg
  all_goals first | (refine zY ?_;(first | refine zLn λ_=>?_ | refine zW ?_)) | refine zSk ?_
  iterate 2 all_goals refine zW ?_
  all_goals first | (refine zY ?_;(first | refine zLn λ_=>?_ | refine zW ?_)) | refine zSk ?_
  iterate 3 all_goals refine zW ?_
  all_goals (
   refine xC ?_ ?_<;>intro hc
   ·first
    | (exact xQ hc)
    | (iterate 7 refine zW ?_
       refine jaq (.tmp rfl .nil) .nil ?_;simp only[resD,checkT];rw[qf (by first | (have:=qc hg;omega) | (have:=qc hc;omega))]
     )
   ·first
    | (exact xQ hc)
    | (have hth:¬(t.th<1\/(t.nodes.length+t.inner.length:Int)<t.th):=by have h1:=qd hg;have h2:=qd hc;omega
       refine xN λ_=>?_;iterate 4 refine zW ?_
       refine jah [1,26,27] [.box b1 _ _] (λ(k:Nat) r=>(28,.i (k:Int))::r) (λk r=>r) (λk=>k<=t.nodes.length/\(t.nodes.drop k).any badN=t.nodes.any badN) (λk=>t.nodes.length - k) (0) zRc ⟨by omega,by simp⟩ (zWk) ?_;intro k ⟨hk,hI⟩;refine xC ?_ ?_<;>intro hc
       ·have hlt:k<t.nodes.length:=by have:=qc hc;omega
        obtain⟨x,hx,hd⟩:=jab hlt;have hx':=jad D.i hx;iterate 16 refine zW ?_
        iterate 3 all_goals first | refine zW ?_ | refine xG ?_ ?_<;>intro hg
        all_goals (
         refine xC ?_ ?_<;>intro hc
         ·first
          | (exact xQ hc)
          | (iterate 11 refine zW ?_
             refine jaq (.tmp rfl .nil) .nil ?_;simp only[resD,checkT];rw[qe hth,qf (jqn hx (by first | (simp only[badN,hg];rfl) | (simp only[badN,hc,Bool.or_true])))]
           )
         ·first
          | (exact xQ hc)
          | (have hc2:=hc
             iterate 8 refine zW ?_
             rw[hd,jpd hg hc2] at hI;refine⟨k+1,⟨by omega,hI⟩,by omega,zWk⟩
           )
         )
       ·have hge:t.nodes.length<=k:=by have:=qd hc;omega
        rw[jae hge] at hI;simp only[List.any_nil] at hI;have hany:t.nodes.any badN=false:=hI.symm;refine xA (jym _) ?_;refine xC ?_ ?_<;>intro hc
        ·have he:=hc
         iterate 8 refine zW ?_
         refine jaq (.tmp rfl .nil) .nil ?_;simp only[resD,checkT];rw[qe hth,qe (by rw[hany];simp),qf (by simpa using he)]
        ·have he:=hc
         refine xN λ_=>?_;iterate 4 refine zW ?_
         refine jah [49,50] [] (λ(k:Nat) r=>(51,.i (k:Int))::r) (λk r=>r) (λk=>k<=t.inner.length/\checkL (t.inner.drop k)=checkL t.inner) (λk=>t.inner.length - k) (0) zRc ⟨by omega,by simp⟩ (zWk) ?_;intro k ⟨hk,hI⟩;refine xC ?_ ?_<;>intro hc
         ·have hlt:k<t.inner.length:=by have:=qc hc;omega
          obtain⟨x,hx,hd⟩:=jab hlt;have hx':=jbo hx;have hxm:=qk hx;refine xL λb8=>?_;refine xA (ih _ hxm) ?_;refine xC ?_ ?_<;>intro hc
          ·iterate 12 refine zW ?_
           refine jaq (.tmp rfl .nil) .nil ?_;rw[hd,jbC,qf (by simpa using hc)] at hI;have e:checkT t=checkL t.inner:=by unfold checkT;rw[qe hth,qe (by rw[hany];simp),qe (by simpa using he)]
           simp only[resD];rw[e,<-hI]
          ·iterate 8 refine zW ?_
           have hz:=qc (Bool.not_eq_false' .. ▸ hc);rw[hd,jbC,qe (by simpa using hz)] at hI;refine⟨k+1,⟨by omega,hI⟩,by omega,zWk⟩
         ·have hge:t.inner.length<=k:=by have:=qd hc;omega
          rw[jae hge] at hI;simp only[checkL] at hI;iterate 11 refine zW ?_
          refine jaq (.tmp rfl .nil) .nil ?_;have e:checkT t=checkL t.inner:=by unfold checkT;rw[qe hth,qe (by rw[hany];simp),qe (by simpa using he)]
          simp only[resD];rw[e,<-hI]
     )
   )
theorem jaI(t:Trust)(ht:sizeT t<=1000000000):C0 97 [av t] (.i (validT t)):=by
 refine xI Tryz.func97 Tryz.call97 λhcap=>?_;refine xX λb1=>?_;refine xA (jqx 1000000000 zo t ht) ?_;iterate 2 refine zW ?_
 all_goals refine xG ?_ ?_<;>intro hg
 all_goals first | (refine zY ?_;refine jaa zRc (jsa 1000000000 zo t ht) rfl rfl ?_) | refine zSk ?_
 iterate 2 all_goals refine zW ?_
 all_goals (
 refine xC ?_ ?_<;>intro hc
 ·(
 first
 | (exact xQ hc)
 |(
 iterate 7 refine zW ?_
 refine jaq (.tmp rfl .nil) .nil ?_
 simp only[resD,validT];rw[qf (by first | (have:=qc hg;omega) | (have:=qc hc;omega))]))
 ·(
 first
 | (exact xQ hc)
 |(
 iterate 5 refine zW ?_
 refine xA (jqu t) ?_;iterate 4 refine zW ?_
 refine jaq (.tmp rfl .nil) .nil ?_
 simp only[resD,validT];rw[qe (by have h1:=qd hg;have h2:=qd hc;omega)])))
theorem jnw(k:Int):C0 192 [.i k] (.b (nd k)):=by
 refine xI Tryz.func192 Tryz.call192 λhcap=>?_;iterate 10 refine zW ?_
 iterate 4 all_goals first | refine zW ?_ | refine xG ?_ ?_<;>intro hg
 all_goals (
 iterate 3 refine zW ?_
 refine jaq (.tmp rfl .nil) .nil ?_
 first | (simp_all[resD,nd];done) | (simp_all[resD,nd];omega))
theorem juf:∀(t:Trust),Con none Tryz.prog 152 [av t] [] (Is (.i (uses t:Int)) []):=by
 have hcap:=jbK;intro t
 induction t using Trust.ind with
 | _ t ih =>
  have hl1:(t.nodes.map D.i).length=t.nodes.length:=by simp
  have hl2:=jaQ t.inner;refine jar Tryz.func152 rfl Tryz.call152 rfl ?_;refine xX λb1=>?_;refine xN λ_=>?_;iterate 4 refine zW ?_
  refine jag [1,9,10] [.box b1 _ _] (λ(k:Nat)(s:Nat) r=>(3,.i (s:Int))::(11,.i (k:Int))::r) (λk s r=>r) (λk s=>k<=t.nodes.length/\s<1024/\usesN s (t.nodes.drop k)=usesN 0 t.nodes) (λk s=>t.nodes.length - k) (0) (0) zRc ⟨by omega,by omega,by simp⟩ (zWk) ?_;intro k s ⟨hk,hs,hI⟩;refine xC ?_ ?_<;>intro hc
  ·have hlt:k<t.nodes.length:=by have:=qc hc;omega
   obtain⟨x,hx,hd⟩:=jab hlt;have hx':=jad D.i hx;refine xA (jnw _) ?_;refine xC ?_ ?_<;>intro hc
   ·have hx01:0<=x/\x<10:=by simpa[nd] using hc
    have hnd:nd x=true:=by simp[nd];omega
    obtain⟨q,rfl⟩:=qD hx01.1;have hq:q<10:=by omega
    have hp2:=jaL hq;have hIt:=hI;rw[hd,usesN,qf hnd] at hIt;iterate 3 refine zW ?_
    refine zP (jaZ (p:=1) rfl rfl rfl zo zo) ?_;iterate 10 refine zW ?_
    refine⟨k+1,s|||1 * 2^q,⟨by omega,jcw hs hq,by simpa using hIt⟩,by omega,zWk⟩
   ·have hIf:=hI
    rw[hd,usesN,qe (by first | (unfold nd;simp only[hg,qy];decide) | (unfold nd;simp only[hc,qB];decide) | (simp only[hc];decide))] at hIf;iterate 8 refine zW ?_
    refine⟨k+1,s,⟨by omega,hs,hIf⟩,by omega,zWk⟩
  ·have hge:t.nodes.length<=k:=by have:=qd hc;omega
   rw[jae hge] at hI;simp only[usesN] at hI;refine xN λ_=>?_;iterate 4 refine zW ?_
   refine jag [23,24] [] (λ(k:Nat)(s:Nat) r=>(3,.i (s:Int))::(25,.i (k:Int))::r) (λk s r=>r) (λk s=>k<=t.inner.length/\s<1024/\usesL s (t.inner.drop k)=uses t) (λk s=>t.inner.length - k) (0) (s) zRc ⟨by omega,hs,by simp[uses,<-hI]⟩ (zWk) ?_;intro k s ⟨hk,hs,hI⟩;refine xC ?_ ?_<;>intro hc
   ·have hlt:k<t.inner.length:=by have:=qc hc;omega
    obtain⟨x,hx,hd⟩:=jab hlt;have hx':=jbo hx;have hxm:=qk hx;have hux:=jfv x;refine xL λb7=>?_;refine xA (ih _ hxm) ?_;iterate 10 refine zW ?_
    rw[hd,jdP] at hI;refine⟨k+1,s|||uses x,⟨by omega,Nat.or_lt_two_pow (n:=10) hs (jfv x),hI⟩,by omega,zWk⟩
   ·have hge:t.inner.length<=k:=by have:=qd hc;omega
    rw[jae hge] at hI;simp only[usesL] at hI;iterate 12 refine zW ?_
    refine jaq (.tmp rfl .nil) .nil ?_;rw[hI];rfl
theorem jrO:∀(t:Trust),Con none Tryz.prog 98 [av t] [] (Is (.i (uses t:Int)) []):=by
 have hcap:=jbK;intro t
 induction t using Trust.ind with
 | _ t ih =>
  have hl1:(t.nodes.map D.i).length=t.nodes.length:=by simp
  have hl2:=jaQ t.inner;refine jar Tryz.func98 rfl Tryz.call98 rfl ?_;refine xX λb1=>?_;refine xN λ_=>?_;iterate 4 refine zW ?_
  refine jag [1,9,10] [.box b1 _ _] (λ(k:Nat)(s:Nat) r=>(3,.i (s:Int))::(11,.i (k:Int))::r) (λk s r=>r) (λk s=>k<=t.nodes.length/\s<1024/\usesN s (t.nodes.drop k)=usesN 0 t.nodes) (λk s=>t.nodes.length - k) (0) (0) zRc ⟨by omega,by omega,by simp⟩ (zWk) ?_;intro k s ⟨hk,hs,hI⟩;refine xC ?_ ?_<;>intro hc
  ·have hlt:k<t.nodes.length:=by have:=qc hc;omega
   obtain⟨x,hx,hd⟩:=jab hlt;have hx':=jad D.i hx;iterate 16 refine zW ?_
   iterate 3 all_goals first | refine zW ?_ | refine xG ?_ ?_<;>intro hg
   all_goals (
    refine xC ?_ ?_<;>intro hc
    ·first
     | (exact xQ hc)
     | (have hx01:0<=x/\x<10:=by have h1:=qc hc;have h2:=qc hg;omega
        have hnd:nd x=true:=by simp[nd];omega
        obtain⟨q,rfl⟩:=qD hx01.1;have hq:q<10:=by omega
        have hp2:=jaL hq;have hIt:=hI;rw[hd,usesN,qf hnd] at hIt;iterate 3 refine zW ?_
        refine zP (jaZ (p:=1) rfl rfl rfl zo zo) ?_;iterate 10 refine zW ?_
        refine⟨k+1,s|||1 * 2^q,⟨by omega,jcw hs hq,by simpa using hIt⟩,by omega,zWk⟩
      )
    ·first
     | (exact xQ hc)
     | (have hIf:=hI
        rw[hd,usesN,qe (by first | (unfold nd;simp only[hg,qy];decide) | (unfold nd;simp only[hc,qB];decide) | (simp only[hc];decide))] at hIf;iterate 8 refine zW ?_
        refine⟨k+1,s,⟨by omega,hs,hIf⟩,by omega,zWk⟩
      )
    )
  ·have hge:t.nodes.length<=k:=by have:=qd hc;omega
   rw[jae hge] at hI;simp only[usesN] at hI;refine xN λ_=>?_;iterate 4 refine zW ?_
   refine jag [27,28] [] (λ(k:Nat)(s:Nat) r=>(3,.i (s:Int))::(29,.i (k:Int))::r) (λk s r=>r) (λk s=>k<=t.inner.length/\s<1024/\usesL s (t.inner.drop k)=uses t) (λk s=>t.inner.length - k) (0) (s) zRc ⟨by omega,hs,by simp[uses,<-hI]⟩ (zWk) ?_;intro k s ⟨hk,hs,hI⟩;refine xC ?_ ?_<;>intro hc
   ·have hlt:k<t.inner.length:=by have:=qc hc;omega
    obtain⟨x,hx,hd⟩:=jab hlt;have hx':=jbo hx;have hxm:=qk hx;have hux:=jfv x;refine xL λb7=>?_;refine xA (ih _ hxm) ?_;iterate 10 refine zW ?_
    rw[hd,jdP] at hI;refine⟨k+1,s|||uses x,⟨by omega,Nat.or_lt_two_pow (n:=10) hs (jfv x),hI⟩,by omega,zWk⟩
   ·have hge:t.inner.length<=k:=by have:=qd hc;omega
    rw[jae hge] at hI;simp only[usesL] at hI;iterate 12 refine zW ?_
    refine jaq (.tmp rfl .nil) .nil ?_;rw[hI];rfl
theorem ji5{α:Type}{p:α->Prop}{q:List α}{x:α}(h:∀y∈q,p y)(hx:p x):∀y∈q++[x],p y:=λy hy=>by
 rcases zk hy with hy | hy
 ·exact h y hy
 ·obtain rfl:y=x:=by simpa using hy
  exact hx
def tx:Trust:=.mk 2 [0,1] [.mk 1 [2,3] []]
def ty:Trust:=.mk 2 [0,1] [.mk 2 [2,3] []]
theorem k0:C0 201 [av tx,.i 5] (.b true):=by
 have h:=jsn 5 tx
 rwa [show sat 5 tx=true from by decide] at h
theorem jaw{c:Bool}(h:(!c)=true):c=false:=by simpa using h
theorem jav{c:Bool}(h:(!c)=false):c=true:=by simpa using h
theorem jcv(s:Int)(k:Nat):(upTo (k+1)).filter (λx=>has s x)=(upTo k).filter (λx=>has s x)++(if has s k=true then [(k:Int)] else []):=by
 rw[jsl,List.filter_append];cases h:has s k<;>simp[h]
theorem jdl(s:Int):C0 75 [.i s] (.sl 1 ((nodesOf s).map .i)):=by
 refine xI Tryz.func75 Tryz.call75 λhcap=>?_;iterate 17 refine zW ?_
 refine jax [0] [] (λ(k:Nat)(v:Value)(q:List Int) r=>(3,.v v)::(5,.i (k:Int))::r) (λk v q r=>.arr v 3 1 (q.map .i)::r) (λk v q=>k<=10/\q.length<=k/\q=(upTo k).filter λx=>has s x) (λk v q=>10 - k) (0) (.slice none 0 0) ([]) zRc ⟨by omega,by simp,rfl⟩ ((jaF 3 1 rfl).trans (zWk)) ?_;intro k v q ⟨hk,hql,hI⟩;refine xC ?_ ?_<;>intro hc
 ·(
 have hlt:=qc hc;refine xE (jhC _ _) λc10 hc10=>?_;refine xC ?_ ?_<;>intro hc
 ·(
 iterate 3 refine zW ?_
 refine xLt 3 1 8 ?_;refine xEa 3 1 8 λv14 hv14=>?_;iterate 9 refine zW ?_
 rw[jbr];refine⟨k+1,_,q++[(k:Int)],⟨by omega,by simp only[qm,qi,qu];omega,by rw[jcv,qf (hc10.trans zO),<-hI]⟩,by omega,zWk⟩)
 ·(
 iterate 8 refine zW ?_
 refine⟨k+1,_,q,⟨by omega,by omega,by rw[jcv,qe (by rw[hc10.trans zO];decide),<-hI,List.append_nil]⟩,by omega,zWk⟩))
 ·(
 have hge:=qd hc;obtain rfl:k=10:=by omega
 iterate 6 refine zW ?_
 refine zFz v [3] ?_;refine xP ?_
 rw[hI];rfl)
theorem jmu(c:List Mem)(k:Nat)(m:Mem)(hm:c[k]?=some m)(s:Int):C0 163 [cv c,.i k,.i s] (.b (sat s m.t)):=by
 refine xI Tryz.func163 Tryz.call163 λhcap=>?_;have hx':=jad mv hm;refine xX λb3=>?_;refine xA (jsn _ m.t) ?_;refine xP ?_;exact rfl
theorem jvg(c:List Mem):C0 162 [cv c] (.i (declC c:Int)):=by
 refine xI Tryz.func162 Tryz.call162 λhcap=>?_;have hl1:(c.map mv).length=c.length:=by simp
 refine xX λb1=>?_;refine xN λ_=>?_;iterate 4 refine zW ?_
 refine jag [7,8] [] (λ(k:Nat)(s:Nat) r=>(3,.i (s:Int))::(9,.i (k:Int))::r) (λk s r=>r) (λk s=>k<=c.length/\s<1024/\declGo s k (c.drop k)=declC c) (λk s=>c.length - k) (0) (0) zRc ⟨by omega,by omega,by simp[declC]⟩ (zWk) ?_;intro k s ⟨hk,hs,hI⟩;refine xC ?_ ?_<;>intro hc
 ·(
 have hlt:=qc hc;obtain⟨x,hx,hd⟩:=jab (l:=c) (k:=k) zo;have hx':=jad mv hx;refine xL λb5=>?_;iterate 9 refine zW ?_
 iterate 3 all_goals first | refine zW ?_ | refine xG ?_ ?_<;>intro hg
 all_goals (
 refine xC ?_ ?_<;>intro hc
 ·(
 first
 | (exact xQ hc)
 |(
 have h19:=qc hc;have hp:=jaL (k:=k) zo;iterate 3 refine zW ?_
 refine zP (jaZ (p:=1) rfl rfl rfl zo zo) ?_;iterate 10 refine zW ?_
 rw[hd] at hI;simp only[declGo] at hI
 rw[qf (by rw[show x.decl=true by with_reducible assumption,show decide ((k:Int)<10)=true by with_reducible assumption];rfl)] at hI;refine⟨k+1,s|||2^k,⟨by omega,Nat.or_lt_two_pow (n:=10) hs (jaL zo),hI⟩,by omega,?_⟩;rw[Nat.one_mul];exact(zWk)))
 ·(
 first
 | (exact xQ hc)
 |(
 iterate 8 refine zW ?_
 rw[hd] at hI;simp only[declGo] at hI
 first | (rw[qf (by rw[show x.decl=true by with_reducible assumption,show decide ((k:Int)<10)=true by with_reducible assumption];rfl)] at hI;refine⟨k+1,s|||2^k,⟨by omega,Nat.or_lt_two_pow (n:=10) hs (jaL zo),hI⟩,by omega,?_⟩;rw[Nat.one_mul];exact(zWk)) | (rw[qe (by first | (rw[show x.decl=false by with_reducible assumption];simp;done) | (rw[show decide ((k:Int)<10)=false by with_reducible assumption];simp;done))] at hI;refine⟨k+1,s,⟨by omega,hs,hI⟩,by omega,zWk⟩)))))
 ·(
 have hge:=qd hc;rw[jae zo] at hI;simp only[declGo] at hI;refine xP ?_
 rw[<-hI];rfl)
theorem jxQ(c:List Mem)(s:Nat)(hs:s<1024)(hin:In c s):Con none Tryz.prog 130 [cv c,.i s] [] (λd H=>∃(k:Int) (b:Bool),d=.tup [.i k,.b b]/\(b=true->unh c s=some k)/\(b=false->unh c s=none)/\H=[]):=by
 refine xI Tryz.func130 Tryz.call130 λhcap=>?_;have hl1:((nodesOf s).map D.i).length=(nodesOf s).length:=by simp
 refine xX λb2=>?_;refine xA (jdl _) ?_;refine zLn λ_=>?_;iterate 4 refine zW ?_
 refine jah [1,2,9,10] [.box b2 _ _] (λ(k:Nat) r=>(11,.i (k:Int))::r) (λk r=>r) (λk=>k<=(nodesOf s).length/\unh c s=((nodesOf s).drop k).find? (bad c s)) (λk=>(nodesOf s).length - k) (0) zRc ⟨by omega,by unfold unh;simp⟩ (zWk) ?_;intro k ⟨hk,hI⟩;refine xC ?_ ?_<;>intro hc
 ·(
 have hlt:=qc hc;obtain⟨x,hx,hd⟩:=jab (l:=nodesOf s) (k:=k) zo;obtain⟨j,m,rfl,hj,hm,hmd⟩:=hin.get hs (jba.1 (qk hx));have hx':=jad D.i hx;refine xE (jmu c j m hm _) λc18 hc18=>?_;refine xC ?_ ?_<;>intro hc
 ·(
 iterate 13 refine zW ?_
 refine jaS (.tmp rfl (.tmp rfl .nil)) jcy ⟨_,_,rfl,λ_=>?_,λh=>(by cases h),rfl⟩
 rw[hI,hd,List.find?_cons_of_pos (by unfold bad;rw[jbp hm,hc18];exact hc)])
 ·(
 iterate 8 refine zW ?_
 rw[hd,List.find?_cons_of_neg (by unfold bad;rw[jbp hm,hc18,jav hc];decide)] at hI
 refine⟨k+1,⟨by omega,hI⟩,by omega,zWk⟩))
 ·(
 have hge:=qd hc;rw[jae zo] at hI;simp only[List.find?_nil] at hI;iterate 12 refine zW ?_
 refine jaS (.tmp rfl (.tmp rfl .nil)) jcy ⟨_,_,rfl,λh=>(by cases h),λ_=>hI,rfl⟩)
theorem jo5(c:List Mem)(s0:Int):C0 132 [cv c,.i s0] (.tup [.i (great c s0:Int),.sl 1 ((gOrder c s0).map .i)]):=by
 refine xI Tryz.func132 Tryz.call132 λhcap=>?_;have hdl:=ja0 c;refine xX λb2=>?_;refine xE (jce s0) λc10 hc10=>?_;refine xC ?_ ?_<;>intro hc
 ·(
 have hv0:=hc10.trans (jaw hc);iterate 6 refine zW ?_
 refine jak [4,5] 1 rfl jcb jcr ?_;refine xP ?_
 unfold great gOrder;rw[hv0];rfl)
 ·(
 have hv0:=hc10.trans (jav hc);obtain⟨m,rfl,hm⟩:=jbJ hv0;refine xA (jvg c) ?_;iterate 5 refine zW ?_
 refine jax [2] [.box b2 _ _] (λ(s:Nat)(v:Value)(q:List Int) r=>(1,.i (s:Int))::(6,.v v)::r) (λs v q r=>.arr v 3 1 (q.map .i)::r) (λs v q=>q.length+s<=1023/\In c s/\elim c s q=elim c (m&&&declC c) []) (λs v q=>s) (m&&&declC c) (.slice none 0 0) ([]) zRc ⟨by have:=jif (a:=m) (ja0 c);simp;omega,In.and c m,rfl⟩ ((jaF 3 1 rfl).trans (zWk)) ?_;intro s v q ⟨hql,hin,hI⟩;have hs:s<1024:=by omega
 refine xB (jxQ c s hs hin) ?_;rintro _ _ ⟨k,b,rfl,hb1,hb0,rfl⟩;refine xC ?_ ?_<;>intro hc
 ·(
 have hu:=hb0 (jaw hc);rw[jet hu] at hI;iterate 8 refine zW ?_
 refine zFz v [4,5] ?_;refine xP ?_
 rw[jox c hm,jg2 c hm,<-hI];rfl)
 ·(
 have hu:=hb1 (jav hc);obtain⟨j,x,rfl,hj,_,_⟩:=hin.get hs (jec hu).1;have hcl:clr s j<s:=by have:=jer hu;rwa [qq] at this
 have hp:=jaL hj;iterate 6 refine zW ?_
 refine xLt 3 1 8 ?_;refine xEa 3 1 8 λv29 hv29=>?_;iterate 6 refine zW ?_
 refine zP (jaZ (p:=1) rfl rfl rfl zo zo) ?_;iterate 5 refine zW ?_
 rw[jbr];refine⟨clr s j,v29,q++[(j:Int)],⟨by simp only[qm,qi,qu];omega,hin.clr,by rw[<-hI,je1 hu,qq]⟩,hcl,?_⟩;unfold clr;rw[Nat.one_mul]
 exact(zWk)))
theorem jda(c:List Mem)(s:Int):C0 95 [cv c,.i s] (.i (great c s:Int)):=by
 refine xI Tryz.func95 Tryz.call95 λhcap=>?_;refine xX λb2=>?_;refine xA (jo5 c _) ?_;refine xP ?_;exact rfl
theorem jaf{b:Int}(h:(!decide (a=b))=true):¬a=b:=by simpa using h
theorem jac{b:Int}(h:(!decide (a=b))=false):a=b:=by simpa using h
theorem jzc(h:s<1024):Con none Tryz.prog 128 [.i s] [] (Is (.b true) []):=by rw[<-jfp h];exact jce s
theorem p1:C0 95 [cv c3,.i 7] (.i 7):=by
 have h:=jda c3 7
 rwa [show (great c3 7:Int)=7 from by kernel_rfl] at h
theorem p2:C0 95 [cv c3,.i 1] (.i 0):=by
 have h:=jda c3 1
 rwa [show (great c3 1:Int)=0 from by kernel_rfl] at h
theorem jfg(s:Int):C0 68 [.i s] (.sl 1 ((nodesOf s).map .i)):=by
 refine xI Tryz.func68 Tryz.call68 λhcap=>?_;iterate 17 refine zW ?_
 refine jax [0] [] (λ(k:Nat)(v:Value)(q:List Int) r=>(3,.v v)::(4,.i (k:Int))::r) (λk v q r=>.arr v 3 1 (q.map .i)::r) (λk v q=>k<=10/\q.length<=k/\q=(upTo k).filter λx=>has s x) (λk v q=>10 - k) (0) (.slice none 0 0) ([]) zRc ⟨by omega,by simp,rfl⟩ ((jaF 3 1 rfl).trans (zWk)) ?_;intro k v q ⟨hk,hql,hI⟩;refine xC ?_ ?_<;>intro hc
 ·(
 have hlt:=qc hc;refine xE (jb6 _ _) λc11 hc11=>?_;refine xC ?_ ?_<;>intro hc
 ·(
 iterate 3 refine zW ?_
 refine xLt 3 1 8 ?_;refine xEa 3 1 8 λv15 hv15=>?_;iterate 10 refine zW ?_
 rw[jbr];refine⟨k+1,_,q++[(k:Int)],⟨by omega,by simp only[qm,qi,qu];omega,by rw[jcv,qf (hc11.trans zO),<-hI]⟩,by omega,zWk⟩)
 ·(
 iterate 9 refine zW ?_
 refine⟨k+1,_,q,⟨by omega,by omega,by rw[jcv,qe (by rw[hc11.trans zO];decide),<-hI,List.append_nil]⟩,by omega,zWk⟩))
 ·(
 have hge:=qd hc;obtain rfl:k=10:=by omega
 iterate 6 refine zW ?_
 refine zFz v [3] ?_;refine xP ?_
 rw[hI];rfl)
theorem jcE(c:List Mem):C0 67 [cv c] (.i (declC c:Int)):=by
 refine xI Tryz.func67 Tryz.call67 λhcap=>?_;have hl1:(c.map mv).length=c.length:=by simp
 refine xX λb1=>?_;refine xN λ_=>?_;iterate 4 refine zW ?_
 refine jag [7,8] [] (λ(k:Nat)(s:Nat) r=>(3,.i (s:Int))::(9,.i (k:Int))::r) (λk s r=>r) (λk s=>k<=c.length/\s<1024/\declGo s k (c.drop k)=declC c) (λk s=>c.length - k) (0) (0) zRc ⟨by omega,by omega,by simp[declC]⟩ (zWk) ?_;intro k s ⟨hk,hs,hI⟩;refine xC ?_ ?_<;>intro hc
 ·(
 have hlt:=qc hc;obtain⟨x,hx,hd⟩:=jab (l:=c) (k:=k) zo;have hx':=jad mv hx;refine xL λb5=>?_;iterate 9 refine zW ?_
 iterate 3 all_goals first | refine zW ?_ | refine xG ?_ ?_<;>intro hg
 all_goals (
 refine xC ?_ ?_<;>intro hc
 ·(
 first
 | (exact xQ hc)
 |(
 first | (have h10:=qc hg;have hp:=jaL (k:=k) zo) | exact xQ hc
 iterate 3 refine zW ?_
 refine zP (jaZ (p:=1) rfl rfl rfl zo zo) ?_;iterate 10 refine zW ?_
 rw[hd] at hI;simp only[declGo] at hI
 rw[qf (by rw[show x.decl=true by with_reducible assumption,show decide ((k:Int)<10)=true by with_reducible assumption];rfl)] at hI;refine⟨k+1,s|||2^k,⟨by omega,Nat.or_lt_two_pow (n:=10) hs (jaL (by have:=qc (show decide ((k:Int)<10)=true by with_reducible assumption);omega)),hI⟩,by omega,?_⟩;rw[Nat.one_mul];exact(zWk)))
 ·(
 first
 | (exact xQ hc)
 |(
 iterate 8 refine zW ?_
 rw[hd] at hI;simp only[declGo] at hI
 first | (rw[qf (by rw[show x.decl=true by with_reducible assumption,show decide ((k:Int)<10)=true by with_reducible assumption];rfl)] at hI;refine⟨k+1,s|||2^k,⟨by omega,Nat.or_lt_two_pow (n:=10) hs (jaL (by have:=qc (show decide ((k:Int)<10)=true by with_reducible assumption);omega)),hI⟩,by omega,?_⟩;rw[Nat.one_mul];exact(zWk)) | (rw[qe (by first | (rw[show x.decl=false by with_reducible assumption];simp;done) | (rw[show decide ((k:Int)<10)=false by with_reducible assumption];simp;done))] at hI;refine⟨k+1,s,⟨by omega,hs,hI⟩,by omega,zWk⟩)))))
 ·(
 have hge:=qd hc;rw[jae zo] at hI;simp only[declGo] at hI;refine xP ?_
 rw[<-hI];rfl)
theorem jrp{j:Nat}(hs:s<1024)(h:s.testBit j=true):(s:Int) - ((1 * 2^j:Nat):Int)=((clr s j:Nat):Int):=by
 have h1:clr s j<1024:=Nat.lt_of_le_of_lt (jyz s j) hs
 have h2:j<10:=by
  rcases Nat.lt_or_ge j 10 with h3 | h3
  ·exact h3
  ·have:s<2^j:=qA hs (Nat.pow_le_pow_right (n:=2) zo h3)
   rw[Nat.testBit_lt_two_pow this] at h;cases h
 have h3:=jaL h2
 have hand:clr s j&&&2^j=0:=by
  refine Nat.eq_of_testBit_eq λi=>?_;rw[Nat.testBit_and,jeF hs h,Nat.testBit_two_pow,Nat.zero_testBit]
  by_cases e:j=i<;>simp[e]
 have hor:clr s j|||2^j=s:=by
  refine Nat.eq_of_testBit_eq λi=>?_;rw[Nat.testBit_or,jeF hs h,Nat.testBit_two_pow]
  by_cases e:j=i
  ·subst e;simp[h]
  ·simp[e]
 have h4:BitVec.ofNat 64 (clr s j)&&&BitVec.ofNat 64 (2^j)=0#64:=by
  apply BitVec.eq_of_toNat_eq;rw[BitVec.toNat_and,BitVec.toNat_ofNat,BitVec.toNat_ofNat,Nat.mod_eq_of_lt zo,Nat.mod_eq_of_lt zo,hand];rfl
 have h5:=congrArg BitVec.toNat (BitVec.add_eq_or_of_and_eq_zero _ _ h4);rw[BitVec.toNat_or,BitVec.toNat_add,BitVec.toNat_ofNat,BitVec.toNat_ofNat,Nat.mod_eq_of_lt (a:=clr s j) zo,Nat.mod_eq_of_lt (a:=2^j) zo,hor] at h5;omega
theorem jwY(k:Int):(!nd k)=badN k:=by
 unfold nd badN
 by_cases h1:0<=k<;>by_cases h2:k<10<;>simp[h1,h2]<;>omega
theorem jpK{p:Int->Bool}{r:List Int}(h:p x=false):(x::r).any p=r.any p:=by simp[h]
theorem jpb{p:Int->Bool}{r:List Int}(h:p x=true):(x::r).any p=true:=by simp[h]
theorem jyT(l:List Int):C0 220 [.sl 1 (l.map .i)] (.tup [.i (ofGo 0 l).1,.i (ofGo 0 l).2]):=by
 refine xI Tryz.func220 Tryz.call220 λhcap=>?_;have hl1:(l.map D.i).length=l.length:=by simp
 refine xN λ_=>?_;iterate 4 refine zW ?_
 refine jag [7,8] [] (λ(k:Nat)(s:Nat) r=>(4,.i (s:Int))::(9,.i (k:Int))::r) (λk s r=>r) (λk s=>k<=l.length/\s<1024/\ofGo s (l.drop k)=ofGo 0 l) (λk s=>l.length - k) (0) (0) zRc ⟨by omega,by omega,by simp⟩ (zWk) ?_;intro k s ⟨hk,hs,hI⟩;refine xC ?_ ?_<;>intro hc
 ·(
 have hlt:k<l.length:=by have:=qc hc;omega
 obtain⟨x,hx,hd⟩:=jab hlt;have hx':=jad D.i hx;iterate 17 refine zW ?_
 iterate 3 all_goals first | refine zW ?_ | refine xG ?_ ?_<;>intro hg
 all_goals (
 refine xC ?_ ?_<;>intro hc
 ·(
 first
 | (exact xQ hc)
 |(
 iterate 13 refine zW ?_
 refine jaq (.tmp rfl (.tmp rfl .nil)) .nil ?_;rw[hd,ofGo,qf (by first | (have:=qc hg;omega) | (have:=qc hc;omega))] at hI
 rw[<-hI];rfl))
 ·(
 first
 | (exact xQ hc)
 |(
 have hc2:=hc;refine xA (jhC _ _) ?_;refine xC ?_ ?_<;>intro hc
 ·(
 iterate 13 refine zW ?_
 refine jaq (.tmp rfl (.tmp rfl .nil)) .nil ?_;have h3:=qd hg;have h4:=qd hc2;rw[hd,ofGo,qe zo,qf hc] at hI
 rw[<-hI];rfl)
 ·(
 iterate 2 refine zW ?_
 obtain⟨q,rfl,hq⟩:=jwt hg hc2;have hp2:=jaL hq;iterate 3 refine zW ?_
 refine zP (jaZ (p:=1) rfl rfl rfl zo zo) ?_;iterate 10 refine zW ?_
 rw[hd,ofGo,qe zo,qe (by simp[hc])] at hI;refine⟨k+1,s|||1 * 2^q,⟨by omega,jcw hs hq,?_⟩,by omega,zWk⟩
 simpa using hI)))))
 ·(
 have hge:l.length<=k:=by have:=qd hc;omega
 rw[jae hge] at hI;simp only[ofGo] at hI;iterate 13 refine zW ?_
 refine jaq (.tmp rfl (.tmp rfl .nil)) .nil ?_
 rw[<-hI];rfl)
theorem jqc(f:FuncId)(p:Int->Bool)(hf:∀k:Int,Con none Tryz.prog f [.i k] [] (Is (.b (p k)) []))(l:List Int):Con none Tryz.prog 249 [.sl 1 (l.map .i),.v (.func (.func f) #[] #[])] [] (λd H=>∃r:Int,d=.i r/\decide (0<=r)=l.any p/\H=[]):=by
 refine xI Tryz.func249 Tryz.call249 λhcap=>?_;have hl1:(l.map D.i).length=l.length:=by simp
 refine xN λ_=>?_;iterate 4 refine zW ?_
 refine jah [0,1,7] [] (λ(k:Nat) r=>(8,.i (k:Int))::r) (λk r=>r) (λk=>k<=l.length/\(l.drop k).any p=l.any p) (λk=>l.length - k) (0) zRc ⟨by omega,by simp⟩ (zWk) ?_;intro k ⟨hk,hI⟩;refine xC ?_ ?_<;>intro hc
 ·(
 have hlt:k<l.length:=by have:=qc hc;omega
 obtain⟨x,hx,hd⟩:=jab hlt;have hx':=jad D.i hx;rw[hd] at hI;iterate 17 refine zW ?_
 refine jdg (caps:=[]) rfl zRc (hf x) rfl rfl (λc16 hc16=>?_);refine xC ?_ ?_<;>intro hc
 ·(
 iterate 12 refine zW ?_
 refine jaS (.tmp rfl .nil) jcy ⟨_,rfl,?_,rfl⟩;rw[jpb (hc16.trans hc)] at hI
 rw[<-hI];exact qg zo)
 ·(
 iterate 8 refine zW ?_
 rw[jpK (hc16.trans hc)] at hI
 refine⟨k+1,⟨by omega,hI⟩,by omega,zWk⟩))
 ·(
 have hge:l.length<=k:=by have:=qd hc;omega
 rw[jae hge] at hI;iterate 11 refine zW ?_
 refine jaS (.tmp rfl .nil) jcy ⟨_,rfl,?_,rfl⟩
 rw[<-hI];rfl)
theorem jjP(f:FuncId)(p:Int->Bool)(hf:∀k:Int,Con none Tryz.prog f [.i k] [] (Is (.b (p k)) []))(l:List Int):C0 218 [.sl 1 (l.map .i),.v (.func (.func f) #[] #[])] (.b (l.any p)):=by
 refine xI Tryz.func218 Tryz.call218 λhcap=>?_;refine xB (jqc f p hf l) ?_;rintro _ _ ⟨r,rfl,hr,rfl⟩;refine xP ?_;rw[<-hr];rfl
theorem jvy(k:Int):C0 219 [.i k] (.b (badN k)):=by
 refine xI Tryz.func219 Tryz.call219 λhcap=>?_;refine xA (jnw _) ?_;refine xP ?_;rw[<-jwY];rfl
theorem jr7:∀(t:Trust),Con none Tryz.prog 191 [av t] [] (Is (.i (checkT t)) []):=by
 have hcap:=jbK;intro t
 induction t using Trust.ind with
 | _ t ih =>
  have hl1:(t.nodes.map D.i).length=t.nodes.length:=by simp
  have hl2:=jaQ t.inner;refine jar Tryz.func191 rfl Tryz.call191 rfl ?_;refine xX λb1=>?_;iterate 10 refine zW ?_
  iterate 4 all_goals first | refine zW ?_ | refine xG ?_ ?_<;>intro hg
  all_goals first | (refine zY ?_;(first | refine zLn λ_=>?_ | refine zW ?_)) | refine zSk ?_
  iterate 2 all_goals refine zW ?_
  all_goals first | (refine zY ?_;(first | refine zLn λ_=>?_ | refine zW ?_)) | refine zSk ?_
  iterate 3 all_goals refine zW ?_
  all_goals (
   refine xC ?_ ?_<;>intro hc
   ·first
    | (exact xQ hc)
    | (iterate 7 refine zW ?_
       refine jaq (.tmp rfl .nil) .nil ?_;simp only[resD,checkT];rw[qf (by first | (have:=qc hg;omega) | (have:=qc hc;omega))]
     )
   ·first
    | (exact xQ hc)
    | (have hth:¬(t.th<1\/(t.nodes.length+t.inner.length:Int)<t.th):=by have h1:=qd hg;have h2:=qd hc;omega
       refine xA (jjP _ badN jvy t.nodes) ?_;refine xC ?_ ?_<;>intro hc
       ·have hany:=hc
        iterate 7 refine zW ?_
        refine jaq (.tmp rfl .nil) .nil ?_;simp only[resD,checkT];rw[qe hth,qf hany]
       ·have hany:=hc
        refine xA (jyT t.nodes) ?_;refine xC ?_ ?_<;>intro hc
        ·have he:=hc
         iterate 8 refine zW ?_
         refine jaq (.tmp rfl .nil) .nil ?_;simp only[resD,checkT];rw[qe hth,qe (by rw[hany];simp),qf (by simpa using he)]
        ·have he:=hc
         refine xN λ_=>?_;iterate 4 refine zW ?_
         refine jah [36,37] [] (λ(k:Nat) r=>(38,.i (k:Int))::r) (λk r=>r) (λk=>k<=t.inner.length/\checkL (t.inner.drop k)=checkL t.inner) (λk=>t.inner.length - k) (0) zRc ⟨by omega,by simp⟩ (zWk) ?_;intro k ⟨hk,hI⟩;refine xC ?_ ?_<;>intro hc
         ·have hlt:k<t.inner.length:=by have:=qc hc;omega
          obtain⟨x,hx,hd⟩:=jab hlt;have hx':=jbo hx;have hxm:=qk hx;refine xL λb6=>?_;refine xA (ih _ hxm) ?_;refine xC ?_ ?_<;>intro hc
          ·iterate 12 refine zW ?_
           refine jaq (.tmp rfl .nil) .nil ?_;rw[hd,jbC,qf (by simpa using hc)] at hI;have e:checkT t=checkL t.inner:=by unfold checkT;rw[qe hth,qe (by rw[hany];simp),qe (by simpa using he)]
           simp only[resD];rw[e,<-hI]
          ·iterate 8 refine zW ?_
           have hz:=qc (Bool.not_eq_false' .. ▸ hc);rw[hd,jbC,qe (by simpa using hz)] at hI;refine⟨k+1,⟨by omega,hI⟩,by omega,zWk⟩
         ·have hge:t.inner.length<=k:=by have:=qd hc;omega
          rw[jae hge] at hI;simp only[checkL] at hI;iterate 11 refine zW ?_
          refine jaq (.tmp rfl .nil) .nil ?_;have e:checkT t=checkL t.inner:=by unfold checkT;rw[qe hth,qe (by rw[hany];simp),qe (by simpa using he)]
          simp only[resD];rw[e,<-hI]
     )
   )
theorem jpm(t:Trust)(ht:sizeT t<=1000000000):C0 151 [av t] (.i (validT t)):=by
 refine xI Tryz.func151 Tryz.call151 λhcap=>?_;refine xX λb1=>?_;refine xA (jts 1000000000 zo t ht) ?_;iterate 2 refine zW ?_
 all_goals refine xG ?_ ?_<;>intro hg
 all_goals first | (refine zY ?_;refine jaa zRc (jvx 1000000000 zo t ht) rfl rfl ?_) | refine zSk ?_
 iterate 2 all_goals refine zW ?_
 all_goals (
 refine xC ?_ ?_<;>intro hc
 ·(
 first
 | (exact xQ hc)
 |(
 iterate 7 refine zW ?_
 refine jaq (.tmp rfl .nil) .nil ?_
 simp only[resD,validT];rw[qf (by first | (have:=qc hg;omega) | (have:=qc hc;omega))]))
 ·(
 first
 | (exact xQ hc)
 |(
 iterate 5 refine zW ?_
 refine xA (jr7 t) ?_;iterate 4 refine zW ?_
 refine jaq (.tmp rfl .nil) .nil ?_
 simp only[resD,validT];rw[qe (by have h1:=qd hg;have h2:=qd hc;omega)])))
theorem jwc{args:List D}{o:Option (Int × Int)}(h:Con none Tryz.prog f args [] (Is (wRes o) []))(hw:o=none):Con none Tryz.prog f args [] (Is (.tup [.agg [.i 0,.i 0],.b false]) []):=by rw[hw] at h;exact h
theorem jwh{args:List D}{o:Option (Int × Int)}{b:Int}(h:Con none Tryz.prog f args [] (Is (wRes o) []))(hw:o=some (a,b)):Con none Tryz.prog f args [] (Is (.tup [.agg [.i a,.i b],.b true]) []):=by rw[hw] at h;exact h
theorem jwN{t:Trust}{v slot round node:Int}(h:askedV t v slot round=0)(hn:0<=node/\node<10):nbrV t v slot round node=nbr t v slot round node:=by
 unfold nbrV;rw[qg h,qg hn.1,qg hn.2];rfl
theorem jyd{w:World}(n:Nat):OpN Tryz.prog w 22 n (List Int) (λl=>[.sl 1 (l.map .i)]) :=
 jvI Tryz.underlying22 (by kernel_rfl) zo (qc (by kernel_rfl)) jyC (λm _=>jzv Tryz.underlying3)
theorem jqj(x y:List Int):C0 133 [.sl 1 (x.map .i),.sl 1 (y.map .i)] (.b (decide (x=y))):=by
 refine xI Tryz.func133 Tryz.call133 λhcap=>?_;have hx1:(x.map D.i).length=x.length:=by simp
 have hy1:(y.map D.i).length=y.length:=by simp
 refine xN λ_=>?_;refine xN λ_=>?_;refine xC ?_ ?_<;>intro hc
 ·(
 have hne:=jaf hc;refine xP ?_
 rw[qz (λe=>hne (by rw[e]))];rfl)
 ·(
 have hlen:=jac hc;have hll:x.length=y.length:=by omega
 refine xN λ_=>?_;iterate 4 refine zW ?_
 refine jah [0,1,12] [] (λ(k:Nat) r=>(13,.i (k:Int))::r) (λk r=>r) (λk=>k<=x.length/\x.take k=y.take k) (λk=>x.length - k) (0) zRc ⟨by omega,by simp⟩ (zWk) ?_;intro k ⟨hk,hI⟩;refine xC ?_ ?_<;>intro hc
 ·(
 have hlt:=qc hc;obtain⟨u,hu,_⟩:=jab (l:=x) (k:=k) zo;obtain⟨v,hv,_⟩:=jab (l:=y) (k:=k) zo;have hu':=jad D.i hu;have hv':=jad D.i hv;iterate 11 refine zW ?_
 refine zDr [] ?_;refine zT 0 ?_;refine zT 1 ?_;refine zT 2 ?_;refine zT 3 ?_;refine zT 4 ?_;refine zT 5 ?_;refine zT 6 ?_;refine zT 7 ?_;refine zT 8 ?_;refine zW ?_
 all_goals (
 refine xC ?_ ?_<;>intro hc
 ·(
 have hne:=jaf hc;refine xP ?_
 rw[qz (λe=>hne (by rw[e,hv] at hu;injection hu with hu;exact hu.symm))];rfl)
 ·(
 iterate 8 refine zW ?_
 have e:=jac hc
 refine⟨k+1,⟨by omega,by rw[List.take_add_one,List.take_add_one,hI,hu,hv,e]⟩,by omega,zWk⟩)))
 ·(
 have hge:=qd hc;refine xP ?_
 rw[qC zo,qC zo] at hI;rw[qg hI];rfl))
theorem jmc{t:Trust}(h:¬t.th=u.th):same t u=false:=by unfold same;rw[qz h,qy]
theorem jmn{t:Trust}(h:decide (t.nodes=u.nodes)=false):same t u=false:=by unfold same;rw[h,qy,qB]
theorem jmi{t:Trust}(h:¬t.inner.length=u.inner.length):same t u=false:=by unfold same;rw[jkK h,qB,qB]
theorem jqS{t:Trust}(h1:t.th=u.th)(h2:decide (t.nodes=u.nodes)=true):same t u=sameL t.inner u.inner:=by unfold same;rw[qg h1,h2,qx,qx]
theorem jcd:∀(t u:Trust),Con none Tryz.prog 96 [av t,av u] [] (Is (.b (same t u)) []):=by
 have hcap:=jbK;intro t
 induction t using Trust.ind with
 | _ t ih =>
  intro u;have hx1:=jaQ t.inner;have hy1:=jaQ u.inner;refine jar Tryz.func96 rfl Tryz.call96 rfl ?_;refine xX λb2=>?_;refine zBx λb3=>?_;iterate 12 refine zW ?_
  iterate 4 all_goals first | refine zW ?_ | refine xG ?_ ?_<;>intro hg
  all_goals first | (refine zY ?_;refine jbE zRc (jqj t.nodes u.nodes) rfl rfl λc16 hc16=>?_) | refine zSk ?_
  iterate 5 all_goals first | refine zW ?_ | refine xG ?_ ?_<;>intro hg
  all_goals first | (refine zY ?_;(first | refine zLn λ_=>?_ | refine zW ?_)) | refine zSk ?_
  iterate 2 all_goals refine zW ?_
  all_goals first | (refine zY ?_;(first | refine zLn λ_=>?_ | refine zW ?_)) | refine zSk ?_
  iterate 2 all_goals refine zW ?_
  all_goals (
   refine xC ?_ ?_<;>intro hc
   ·first
    | (exact xQ hc)
    | (iterate 7 refine zW ?_
       refine zPi ?_
       first
       | (rw[jmc (jaf (show (!decide (t.th=u.th))=true by with_reducible assumption))];rfl)
       | (rw[jmn (hc16.trans (jaw zO))];rfl)
       | (rw[jmi (λe=>jaf (show (!decide ((((avs t.inner).length:Nat):Int)=((avs u.inner).length:Nat)))=true by with_reducible assumption) zo)];rfl)
     )
   ·first
    | (exact xQ hc)
    | (have hth:=jac (show (!decide (t.th=u.th))=false by with_reducible assumption)
       have hns:=hc16.trans (jav zO);have hlen:=jac (show (!decide ((((avs t.inner).length:Nat):Int)=((avs u.inner).length:Nat)))=false by with_reducible assumption);have hll:t.inner.length=u.inner.length:=by omega
       refine xN λ_=>?_;iterate 4 refine zW ?_
       refine jah [2,3,30] [.box b2 _ _,.box b3 _ _] (λ(k:Nat) r=>(31,.i (k:Int))::r) (λk r=>r) (λk=>k<=t.inner.length/\sameL (t.inner.drop k) (u.inner.drop k)=sameL t.inner u.inner) (λk=>t.inner.length - k) (0) zRc ⟨by omega,by simp⟩ (zWk) ?_;intro k ⟨hk,hI⟩;refine xC ?_ ?_<;>intro hc
       ·have hlt:=qc hc
        obtain⟨y,hy,hyd⟩:=jab (l:=t.inner) (k:=k) zo;obtain⟨z,hz,hzd⟩:=jab (l:=u.inner) (k:=k) zo;have hy':=jbo hy;have hz':=jbo hz;have hym:=qk hy;iterate 11 refine zW ?_
        refine zDr [] ?_;refine zT 0 ?_;refine zT 1 ?_;refine zT 2 ?_;refine zT 3 ?_;refine zT 4 ?_;refine zT 5 ?_;refine zT 6 ?_;refine zT 7 ?_;refine zT 8 ?_;refine zT 9 ?_;refine zOn 10 ?_;refine xE (ih y hym z) λc44 hc44=>?_;refine zW ?_;refine zT 11 ?_;refine zW ?_
        all_goals (
         refine xC ?_ ?_<;>intro hc
         ·refine xP ?_
          rw[hyd,hzd,jdF,hc44.trans (jaw hc),qy] at hI;rw[jqS hth hns,<-hI];rfl
         ·iterate 8 refine zW ?_
          rw[hyd,hzd,jdF,hc44.trans (jav hc),qx] at hI;refine⟨k+1,⟨by omega,hI⟩,by omega,zWk⟩
         )
       ·have hge:=qd hc
        rw[jae zo,jae zo] at hI;refine xP ?_;rw[jqS hth hns,<-hI];rfl
     )
   )
theorem jm3{s:Int}(h:valid s=false):Con none Tryz.prog 66 [.i s] [] (Is (.b false) []):=by rw[<-h];exact jbg s
theorem jee(h:s<1024):Con none Tryz.prog 66 [.i s] [] (Is (.b true) []):=by rw[<-jfp h];exact jbg s
theorem jkm(c:List Mem)(s:Int)(hv:valid s=false):C0 18 [cv c,.i s] (.b false):=by
 refine xI Tryz.func18 Tryz.call18 λhcap=>?_;refine xX λb2=>?_;refine xA (jm3 hv) ?_;iterate 2 refine zW ?_
 iterate 6 all_goals refine zW ?_
 all_goals refine zSk ?_
 iterate 4 all_goals refine zW ?_
 all_goals (
 iterate 2 refine zW ?_
 refine jbx rfl jcm ?_
 refine xP ?_;exact rfl)
theorem jlK(c:List Mem)(s:Nat)(hs:s<1024):C0 18 [cv c,.i s] (.b (quorumC c s)):=by
 refine xI Tryz.func18 Tryz.call18 λhcap=>?_;have hdl:=ja0 c;refine xX λb2=>?_;refine xA (jee hs) ?_;iterate 2 refine zW ?_
 iterate 6 all_goals first | refine zW ?_ | refine xG ?_ ?_<;>intro hg
 all_goals first | (refine zY ?_;refine jaa zRc (jcE c) rfl rfl ?_) | refine zSk ?_
 iterate 4 all_goals refine zW ?_
 all_goals (
 refine xC ?_ ?_<;>intro hc
 ·(
 first
 | (exact xQ hc)
 |(
 iterate 7 refine zW ?_
 refine zPi ?_
 first
 | (rw[jre zO];rfl)
 | (rw[jpq hs (jaf zO)];rfl)))
 ·(
 first
 | (exact xQ hc)
 |(
 have hin:=jrx (jac hc);refine xA (jfg _) ?_;refine zLn λ_=>?_;iterate 4 refine zW ?_
 have hnl:((nodesOf s).map D.i).length=(nodesOf s).length:=by simp
 refine jah [1,2,23,24] [.box b2 _ _] (λ(k:Nat) r=>(25,.i (k:Int))::r) (λk r=>r) (λk=>k<=(nodesOf s).length/\∀x∈(nodesOf s).take k,sat s (tOf c x)=true) (λk=>(nodesOf s).length - k) (0) zRc ⟨by omega,by simp⟩ (zWk) ?_;intro k ⟨hk,hI⟩;refine xC ?_ ?_<;>intro hc
 ·(
 have hlt:=qc hc;obtain⟨x,hx,hd⟩:=jab (l:=nodesOf s) (k:=k) zo;obtain⟨j,y,rfl,hj,hy,hyd⟩:=hin.get hs (jba.1 (qk hx));have hx':=jad D.i hx;have hy':=jad mv hy;have hxh:=jba.1 (qk hx);refine xE (je3 _ y.t) λc36 hc36=>?_;refine xC ?_ ?_<;>intro hc
 ·(
 refine xP ?_
 rw[jpy hs hxh (by rw[jbp hy];exact hc36.trans (jaw hc))];rfl)
 ·(
 iterate 8 refine zW ?_
 refine⟨k+1,⟨by omega,λz hz=>?_⟩,by omega,zWk⟩;rw[List.take_add_one,hx] at hz;rcases zk hz with hz | hz
 ·exact hI z hz
 ·(
 obtain rfl:z=(j:Int):=(by simpa using hz)
 rw[jbp hy];exact hc36.trans (jav hc))))
 ·(
 have hge:=qd hc;refine xP ?_;rw[qC zo] at hI;have hs0:=qd (show decide ((s:Int)=0)=false by with_reducible assumption)
 rw[(jck hs).2 ⟨by omega,hin,λx hx=>hI x (jba.2 hx)⟩];rfl))))
theorem jmx(c:List Mem)(s:Int):C0 18 [cv c,.i s] (.b (quorumV c s)):=by
 cases h:valid s with
 | false=>rw[jjd h];exact jkm c s h
 | true =>
  obtain⟨m,rfl,hm⟩:=jbJ h;rw[jcV hm];exact jlK c m hm
theorem jqf(c:List Mem)(s:Int)(hv:valid s=false):C0 74 [cv c,.i s] (.sl 1 []):=by
 refine xI Tryz.func74 Tryz.call74 λhcap=>?_;refine xX λb2=>?_;refine xA (jm3 hv) ?_;iterate 3 refine zW ?_
 refine jbx rfl jcm ?_;iterate 5 refine zW ?_
 refine jak [4] 1 rfl jcb jcr ?_;refine xP ?_;exact rfl
theorem jqA(c:List Mem)(m:Nat)(hm:m<1024):C0 74 [cv c,.i m] (.sl 1 ((gOrder c m).map .i)):=by
 refine xI Tryz.func74 Tryz.call74 λhcap=>?_;have hdl:=ja0 c;refine xX λb2=>?_;refine xA (jee hm) ?_;iterate 3 refine zW ?_
 refine jan rfl jcm ?_;refine xA (jcE c) ?_;iterate 16 refine zW ?_
 refine jbq [2] [.box b2 _ _] (λ(s:Nat)(v:Value)(q:List Int)(g:Bool) r=>(5,.i (s:Int))::(6,.v v)::(7,.b g)::r) (λs v q g r=>.arr v 3 1 (q.map .i)::r) (λs v q g=>q.length+s<=1023/\In c s/\elim c s q=elim c (m&&&declC c) []/\(g=false->unh c s=none)) (λs v q g=>2 * s+(if g=true then 1 else 0)) (m&&&declC c) (.slice none 0 0) ([]) (true) zRc ⟨by have:=jif (a:=m) hdl;simp;omega,In.and c m,rfl,λh=>by cases h⟩ ((jaF 3 1 rfl).trans (zWk)) ?_;intro s v q g ⟨hql,hin,hE,hG⟩;have hs:s<1024:=by omega
 have hml:(q.map D.i).length=q.length:=by simp
 refine xC ?_ ?_<;>intro hc
 ·(
 subst hc;refine xA (jfg _) ?_;refine zLn λ_=>?_;iterate 4 refine zW ?_
 have hnl:((nodesOf s).map D.i).length=(nodesOf s).length:=by simp
 refine jah [2,19,20] [.box b2 _ _,.arr v 3 1 (q.map .i)] (λ(k:Nat) r=>(5,.i (s:Int))::(6,.v v)::(7,.b false)::(21,.i (k:Int))::r) (λk r=>r) (λk=>k<=(nodesOf s).length/\unh c s=((nodesOf s).drop k).find? (bad c s)) (λk=>(nodesOf s).length - k) (0) zRc ⟨by omega,by unfold unh;simp⟩ (zWk) ?_;intro k ⟨hk,hI⟩;refine xC ?_ ?_<;>intro hc
 ·(
 have hlt:=qc hc;obtain⟨x,hx,hd⟩:=jab (l:=nodesOf s) (k:=k) zo;obtain⟨j,y,rfl,hj,hy,hyd⟩:=hin.get hs (jba.1 (qk hx));have hx':=jad D.i hx;have hy':=jad mv hy;have hxh:=jba.1 (qk hx);refine xE (je3 _ y.t) λc32 hc32=>?_;refine xC ?_ ?_<;>intro hc
 ·(
 have hu:unh c s=some (j:Int):=by rw[hI,hd];exact List.find?_cons_of_pos (by unfold bad;rw[jbp hy,hc32,jaw hc];rfl)
 have hyb:s.testBit j=true:=by have:=((jaX hs).1 hxh).2.2;rwa [qq] at this
 have hcl:=jtp hs hyb;have hpj:=jaL hj;iterate 4 refine zW ?_
 refine zP (jaZ (p:=1) rfl rfl rfl zo zo) ?_;iterate 8 refine zW ?_
 refine xLt 3 1 8 ?_;refine xEa 3 1 8 λv41 hv41=>?_;iterate 15 refine zW ?_
 rw[jbr,jrp hs hyb];refine⟨clr s j,_,q++[(j:Int)],true,⟨by simp only[qm,qi,qu];omega,hin.clr,by rw[<-hE,je1 hu,qq],λh=>(by cases h)⟩,by simp;omega,zWk⟩)
 ·(
 iterate 8 refine zW ?_
 rw[hd,List.find?_cons_of_neg (by unfold bad;rw[jbp hy,hc32,jav hc];decide)] at hI
 refine⟨k+1,⟨by omega,hI⟩,by omega,zWk⟩))
 ·(
 have hge:=qd hc;rw[jae zo] at hI;simp only[List.find?_nil] at hI;iterate 6 refine zW ?_
 refine⟨s,v,q,false,⟨hql,hin,hE,λ_=>hI⟩,by simp,zWk⟩))
 ·(
 have hu:=hG hc;iterate 6 refine zW ?_
 refine zFz v [6] ?_;refine xP ?_
 rw[jet hu] at hE;rw[jg2 c hm,<-hE];rfl)
theorem jso(c:List Mem)(s:Int):C0 74 [cv c,.i s] (.sl 1 ((gOrder c s).map .i)):=by
 cases h:valid s with
 | false=>rw[jkj h];exact jqf c s h
 | true =>
  obtain⟨m,rfl,hm⟩:=jbJ h;exact jqA c m hm
theorem jmv(c:List Mem)(s:Int)(hv:valid s=false):C0 23 [cv c,.i s] (.i 0):=by
 refine xI Tryz.func23 Tryz.call23 λhcap=>?_;refine xX λb2=>?_;refine xA (jm3 hv) ?_;iterate 3 refine zW ?_
 refine jbx rfl jcm ?_;refine xP ?_;exact rfl
theorem juc{j:Nat}(hs:s<1024)(h:s.testBit j=true):j<10:=by
 rcases Nat.lt_or_ge j 10 with h3 | h3
 ·exact h3
 ·(
 have:s<2^j:=qA hs (Nat.pow_le_pow_right (n:=2) zo h3)
 rw[Nat.testBit_lt_two_pow this] at h;cases h)
theorem jm7(c:List Mem)(m:Nat)(hm:m<1024):C0 23 [cv c,.i m] (.i (great c m:Int)):=by
 refine xI Tryz.func23 Tryz.call23 λhcap=>?_;have hdl:=ja0 c;have hgl:((gOrder c m).map D.i).length=(gOrder c m).length:=by simp
 refine xX λb2=>?_;refine xA (jee hm) ?_;iterate 3 refine zW ?_
 refine jan rfl jcm ?_;refine xA (jcE c) ?_;refine xA (jso c _) ?_;refine zLn λ_=>?_;iterate 4 refine zW ?_
 refine jag [17,18] [] (λ(k:Nat)(s:Nat) r=>(5,.i (s:Int))::(19,.i (k:Int))::r) (λk s r=>r) (λk s=>k<=(gOrder c m).length/\Run s ((gOrder c m).drop k) (great c m)) (λk s=>(gOrder c m).length - k) (0) (m&&&declC c) zRc ⟨by omega,jqo c hm⟩ (zWk) ?_;intro k s ⟨hk,hR⟩;refine xC ?_ ?_<;>intro hc
 ·(
 have hlt:=qc hc;obtain⟨x,hx,hd⟩:=jab (l:=gOrder c m) (k:=k) zo;have hx':=jad D.i hx;rw[hd] at hR;cases hR with
 | @cons _ j _ _ hs hyb hR' =>
 iterate 11 refine zW ?_
 have hj10:j<10:=juc hs hyb;have hpj:=jaL hj10;iterate 3 refine zW ?_
 refine zP (jaZ (p:=1) rfl rfl rfl zo zo) ?_;iterate 10 refine zW ?_
 rw[jrp hs hyb]
 refine⟨k+1,clr s j,⟨by omega,hR'⟩,by omega,zWk⟩)
 ·(
 have hge:=qd hc;rw[jae zo] at hR;refine xP ?_
 cases hR;rfl)
theorem jb8(c:List Mem)(s:Int):C0 23 [cv c,.i s] (.i (great c s:Int)):=by
 cases h:valid s with
 | false=>rw[jmX h];exact jmv c s h
 | true =>
  obtain⟨m,rfl,hm⟩:=jbJ h;exact jm7 c m hm
theorem jgW(a b c d:Int):C0 285 [.i a,.i b,.i c,.i d] (.v (.int .u32 (hashV a b c d))):=by
 refine xI Tryz.func285 Tryz.call285 λhcap=>?_;iterate 9 refine zW ?_
 refine zP (jjH (m:=56) rfl rfl zd) ?_;iterate 2 refine zW ?_
 refine zP (jjH (m:=24) rfl rfl zd) ?_;iterate 3 refine zW ?_
 refine zP (jjH (m:=8) rfl rfl zd) ?_;iterate 18 refine zW ?_
 refine zP (jjT (m:=30) rfl rfl zd) ?_;iterate 9 refine zW ?_
 refine zP (jjT (m:=27) rfl rfl zd) ?_;iterate 9 refine zW ?_
 refine zP (jjT (m:=31) rfl rfl zd) ?_;iterate 7 refine zW ?_
 refine zP (jjT (m:=32) rfl rfl zd) ?_;refine xP ?_;rfl
end Go.Proofs.YtgmpjpaekpefdaaGreat
