
import Derived.Test.YtgmpjpaekpefdaaGreatAnalyserSplitsW2
import Derived.Test.YtgmpjpaekpefdaaGreatProg
import Derived.KernelRfl
import Derived.Tactics
import Derived.Tactics2
import Derived.StillTactics
set_option linter.unusedVariables false
set_option linter.unusedSimpArgs false
set_option maxRecDepth 4000
set_option maxHeartbeats 8000000
namespace Go.Proofs.YtgmpjpaekpefdaaGreat
open Go Go.Av Go.Tq
variable{c q:List Mem}{n:Nat}{s:Int}{e:Evp}{Ps:Value->World->Prop}
theorem jyj(c:List Mem)(hok:OKA c):Con (some Ps) Tryz.prog 28 [cv c] [] (Is (.tup [.sl 5 ((allV c).map vv),.i 0]) []):=by
 refine xI Tryz.func28 Tryz.call28 λhcap=>?_;have hp:=jsJ hok.len;have hml:(c.map mv).length=c.length:=by simp
 have hrl:((List.replicate (2^c.length) vd0).map vv).length=2^c.length:=by simp
 refine jpW ?_;refine jaY ?_;refine jaP ?_;refine zBx λb1=>?_;refine zW ?_;refine zW ?_;refine jaT ?_;refine jbl ?_;refine jaY ?_;refine jaY ?_;refine jaP ?_;refine xA (jl0 c hok 0 zo) ?_;refine zW ?_;refine jaT ?_;refine jbl ?_;refine jaY ?_;refine jaP ?_;refine zW ?_;refine zW ?_;refine jaT ?_;refine jbl ?_;refine jhO rfl jcm ?_;refine jfZ ?_;refine jbl ?_;refine jaY ?_;refine jaY ?_;refine jaP ?_;refine zW ?_;refine xN λ_=>?_;refine zW ?_;refine jaT ?_;refine jbl ?_;refine jhO rfl (by refine qz ?_;have:=hok.len;omega) ?_;refine jfZ ?_;refine jbl ?_;refine jaY ?_;refine jpw rfl rfl rfl (λch=>?_);refine jff rfl zRc rfl rfl (λb5=>?_);refine jdU rfl rfl jdZ jct rfl zRc ?_;refine jaT ?_;refine jbl ?_;refine jaY ?_;refine jaY ?_;refine jnp (jiZ (b:=b1) (d:=cv c) (live:=[1,5]) jyP .agg (by repeat (first | exact .nil | apply SubB.fz rfl | apply SubB.same rfl))) ?_;refine jnp (jiZ (b:=b5) (d:=.v (.chan (some ch))) (live:=[1,5]) jyP (.one (.v rfl)) (by repeat (first | exact .nil | apply SubB.fz rfl | apply SubB.same rfl))) ?_;refine jaP ?_;refine xA (jdp c hok.len) ?_;refine zP (jb3 (m:=((2^c.length:Nat):Int)) rfl rfl (by show some _=_;simp only[qs];omega) zo) ?_;refine zW ?_;refine jaT ?_;refine jbl ?_;refine jeI ?_;refine jtu (λk=>some (ch,pdl (λk=>valV (judgeC c k)) k)) [1,5,21] [] (λ(k:Nat) r=>(22,.i (k:Int))::r) (λk r=>r) (λk=>k<=2^c.length) (λk=>2^c.length - k) (0) zRc zo (zWk) rfl ?_;intro k hk;refine jaY ?_;refine jaP ?_;refine zW ?_;refine jaT ?_;refine jbl ?_;refine jaY ?_;refine jji rfl (λhc=>?_) λhc=>?_
 ·(
 have hlt:=qc hc;refine jfZ ?_;refine jbl ?_;refine jaY ?_;refine jeI ?_;refine jaY ?_;refine jaP ?_;refine xL λb6=>?_;refine zW ?_;refine jaT ?_;refine jbl ?_;refine jnp (jiZ (b:=b6) (d:=.i (k:Int)) (live:=[1,5,6,21,22]) jyP (.one (.v rfl)) (by repeat (first | exact .nil | apply SubB.fz rfl | apply SubB.same rfl))) ?_;refine jzY (xs:=[.tmp 5,.tmp 1,.tmp 6]) (valV (judgeC c k)) zRc rfl rfl (jql c hok ch k zo) ?_;refine jnG ?_;refine jbl ?_;refine jaP ?_;refine zW ?_;refine zW ?_;refine jaT ?_;refine jbl ?_
 exact⟨k+1,by omega,by omega,rfl,zWk⟩)
 ·(
 have hge:=qd hc;obtain rfl:k=2^c.length:=by omega
 refine jnd ?_;refine jnc ?_;refine jnc ?_;refine joZ rfl ?_;refine jbl ?_;refine jaY ?_;refine jaP ?_;refine xA (jdp c hok.len) ?_;refine zP (jb3 (m:=((2^c.length:Nat):Int)) rfl rfl (by show some _=_;simp only[qs];omega) zo) ?_;refine jeY (N:=2^c.length) (by_:=32) (l:=(List.replicate (2^c.length) vd0).map vv) rfl rfl rfl rfl (jw3 hok.len) (by simp) (λw O=>joe w O _) ⟨by omega,by omega⟩ rfl rfl (λg=>?_);refine zW ?_;refine jaT ?_;refine jbl ?_;refine jaY ?_;refine jaY ?_;refine jaP ?_;refine zW ?_;refine zW ?_;refine zW ?_;refine jaT ?_;refine jbl ?_;refine jeI ?_;refine jr2 (λl q=>some (ch,l.map (λk=>valV (judgeC c k)))) [5,7,32] [] (λ(l:List Nat)(q:List Vd) r=>(33,.i ((2^c.length - l.length:Nat):Int))::r) (λl q r=>.arr (.slice (some ⟨g,0,none⟩) (2^c.length) (2^c.length)) 78 5 (q.map vv)::r) (λl q=>q.length=2^c.length/\(l.length<=2^c.length/\(∀k∈l,k<2^c.length))/\∀k,k<2^c.length->k∈l\/q[k]?=some (judgeC c k)) (λl q=>l.length) (downs (2^c.length)) (List.replicate (2^c.length) vd0) zRc ⟨by simp,⟨by rw[jgz];omega,λk hk=>jg4.1 hk⟩,λk hk=>.inl (jg4.2 hk)⟩ (by rw[show ((2^c.length - (downs (2^c.length)).length:Nat):Int)=0 from by rw[jgz];omega];exact zWk) (by rw[jq1]) ?_;intro l q ⟨hqn,⟨hql,hlm⟩,hI⟩;refine jaY ?_;refine jaP ?_;refine zW ?_;refine jaT ?_;refine jbl ?_;refine jaY ?_;refine jji rfl (λhc=>?_) λhc=>?_
 ·(
 have hlt:=qc hc;refine jfZ ?_;refine jbl ?_;refine jaY ?_;refine jeI ?_;refine jaY ?_;refine jsm rfl rfl rfl (by intro e;rw[List.map_eq_nil_iff] at e;subst e;simp only[qu] at hlt;omega) ?_;refine jny (jcj rfl rfl (.v rfl) (λ_ h=>qp h qv)) rfl rfl rfl ?_;refine jaT ⟨rfl,λl₁ v l₂ hl=>?_⟩;obtain⟨m₁,k,m₂,rfl,rfl,rfl,rfl⟩:=jln hl;have hkN:=hlm k (by simp);obtain⟨y,hy,_⟩:=jab (l:=q) (k:=k) zo;have hyy:=jad vv hy;refine⟨vv (judgeC c k),jwm _,?_⟩;refine jff rfl zRc rfl rfl (λb8=>?_);refine jdU rfl rfl jdZ jct rfl zRc ?_;refine jaT ?_;refine jbl ?_;refine jaP ?_;refine zW ?_;refine zW ?_;refine zW ?_;refine zW ?_;refine zP (jaU (k:=k) rfl rfl rfl rfl rfl hkN) ?_;refine jaD (off:=0) rfl rfl jdZ jct rfl hyy zRc ?_;refine jaT ?_;refine jnG ?_;refine jbl ?_;refine jaP ?_;refine zW ?_;refine zW ?_;refine jaT ?_;refine jbl ?_;rw[show ((2^c.length - (m₁++k::m₂).length:Nat):Int)+1=((2^c.length - (m₁++m₂).length:Nat):Int) from by simp only[qm,qi] at hql ⊢;omega];rw[show (q.map vv).set k (D.agg [.i (judgeC c k).nodes,.b (judgeC c k).splits,.b (judgeC c k).halts,.i (judgeC c k).l,.i (judgeC c k).r])=(q.set k (judgeC c k)).map vv from by rw[List.map_set];rfl];refine⟨m₁++m₂,q.set k (judgeC c k),⟨by rw[List.length_set];exact hqn,⟨by simp only[qm,qi] at hql ⊢;omega,λj hj=>hlm j ?_⟩,λj hj=>?_⟩,by simp only[qm,qi];omega,by rw[List.map_append],zWk⟩
 ·rw[List.mem_append] at hj;rw[List.mem_append,List.mem_cons];exact hj.imp id .inr
 ·(
 by_cases e:j=k
 ·subst e;right;rw[List.getElem?_set_self zo]
 ·(
 rcases hI j hj with h | h
 ·(
 left;rw[List.mem_append,List.mem_cons] at h;rw[List.mem_append];rcases h with h | h | h
 ·exact .inl h
 ·exact qp h e
 ·exact .inr h)
 ·right;rw[List.getElem?_set_ne (λh=>e h.symm)];exact h)))
 ·(
 have hge:=qd hc;have hl0:l=[]:=List.eq_nil_of_length_eq_zero zo;subst hl0;have hqe:=jxV hqn (λk hk=>(hI k hk).resolve_left qv);refine jqL (ch:=ch) ?_;refine jpZ (.slice (some ⟨g,0,none⟩) (2^c.length) (2^c.length)) [7] jyP jcb jcr ?_;refine jnd ?_;refine jnc ?_;refine jnc ?_;refine joZ rfl ?_;refine jbl ?_;refine jaY ?_;refine jaP ?_;refine zW ?_;refine zW ?_;refine zW ?_;refine jaT ?_;refine jbl ?_;refine jwJ ?_;refine⟨rfl,?_⟩
 exact jaq (.tmp rfl (.tmp rfl .nil)) jcy (by rw[hqe];rfl)))
theorem jAk:leastV Vd.splits (allV c3)=[1,2,4]:=by kernel_rfl
theorem jAb:leastV Vd.halts (allV c3)=[3,5,6]:=by kernel_rfl
theorem jAi:silentC c3 1=false:=by kernel_rfl
theorem jvw(hc:c.length<=4)(s:Nat):(judgeC c s).l<1024/\(judgeC c s).r<1024:=by
 have hp:=jaC (show c.length<=10 by omega);cases e:(judgeC c s).splits with
 | true=>have t:=jgl hc e;have h1:=t.an;have h2:=t.bn;have e1:(judgeC c s).l=(pairC c s).1:=rfl;have e2:(judgeC c s).r=(pairC c s).2.1:=rfl;omega
 | false=>have t:=jr8 e;have e1:(judgeC c s).l=(pairC c s).1:=rfl;have e2:(judgeC c s).r=(pairC c s).2.1:=rfl;omega
theorem jij(h:c.length<=4):∀v∈allV c,v.nodes<1024:=by
 intro v hv;obtain⟨k,hk,rfl⟩:=List.mem_map.1 hv;have hk':=List.mem_range.1 hk;have hp:=jaC (show c.length<=10 by omega);show k<1024;omega
theorem jr6(h:c.length<=4):(allV c).length<=1000000:=by
 rw[joi];have hp:=jaC (show c.length<=10 by omega);omega
theorem jrF(c:List Mem)(hok:OKA c):Con (some Ps) Tryz.prog 30 [cv c] [] (Is (.tup [.sl 1 ((leastV Vd.splits (allV c)).map .i),.sl 1 ((leastV Vd.halts (allV c)).map .i),.i 0]) []):=by
 refine xI Tryz.func30 Tryz.call30 λhcap=>?_;refine xX λb1=>?_;refine xA (jyj c hok) ?_;iterate 14 refine zW ?_
 refine jan rfl jcm ?_;refine xA ((jir 85 Vd.splits jmG (allV c) (jij hok.len) (jr6 hok.len)).main) ?_;refine xA ((jir 86 Vd.halts jp6 (allV c) (jij hok.len) (jr6 hok.len)).main) ?_;refine xP ?_;exact rfl
theorem jhW:Con (some Ps) Tryz.prog 12 [] [] (Is (.b true) []):=by
 refine xI Tryz.func12 Tryz.call12 λhcap=>?_;refine xA (jha.main) ?_;refine xA (jrF c3 jv0) ?_;iterate 14 refine zW ?_
 all_goals refine zW ?_
 all_goals (refine zY ?_;refine xLt 3 1 8 ?_)
 all_goals (refine zY ?_;refine jaa zRc ((jk0 (leastV Vd.splits (allV c3)) [1,2,4]).main) rfl rfl ?_)
 iterate 3 all_goals first | refine zW ?_ | refine xG ?_ ?_<;>intro hg
 all_goals first | (refine zY ?_;refine xLt 3 1 8 ?_) | refine zSk ?_
 all_goals first | (refine zY ?_;refine jaa zRc ((jk0 (leastV Vd.halts (allV c3)) [3,5,6]).main) rfl rfl ?_) | refine zSk ?_
 iterate 2 all_goals refine zW ?_
 all_goals first | (refine zY ?_;refine jaa zRc (jha.main) rfl rfl ?_) | refine zSk ?_ | (refine zG (λhg=>?_) λhg=>?_;case' _=>refine jaa zRc (jha.main) rfl rfl ?_)
 all_goals first | (refine zY ?_;refine jaa zRc ((jqg c3 jv0 1 zd).main) rfl rfl ?_) | refine zSk ?_
 iterate 3 all_goals refine zW ?_
 all_goals (
 refine xP ?_
 simp_all[resD,jAk,jAb,jAi];done)
theorem jc4{env:Env}{H:Heap}{dst:Option Tmp}{ty:TypeId}{pos:String}{after:Array Edge}{gd:Option (Nat × Bool)}{x:Operand}{P:Program}{s t k0 p u}(hx:opd env x=some (.v (.int k0 p)))(hs:P.underlying s=some u)(ht:P.underlying t=some (.int .u64))(hb:0<=p/\p<18446744073709551616):AP P n ⟨dst,.convert s t x,ty,pos,after,gd⟩ env H (.v (.int .u64 p)):=by
 have:=jf2 (P:=P) (n:=n) (env:=env) (H:=H) (dst:=dst) (ty:=ty) (pos:=pos) (after:=after) (gd:=gd) hx hs ht
 rwa [jzX hb.1 hb.2] at this
theorem jzW(k n:Nat):∃s:Nat,(k:Int) % ((1 * 2^n:Nat):Int)=s/\s<2^n:=⟨k % (1 * 2^n),by simp,by rw[Nat.one_mul];exact Nat.mod_lt _ (Nat.pow_pos zo)⟩
theorem jh0:∀{l:List Trust},checkL l=0->∀y∈l,checkT y=0
 | [],_,y,h=>qp h qv
 | t::r,h,y,hy=>by
  rw[jbC] at h
  by_cases h0:checkT t=0
  ·rw[qe (by simpa using h0)] at h
   rcases zf hy with rfl | hy
   ·exact h0
   ·exact jh0 h y hy
  ·rw[qf h0] at h;exact qp h h0
theorem jmE:∀t:Trust,checkT t=0->sizeT t<=1000000000->NN t:=by
 intro t
 induction t using Trust.ind with
 | _ t ih =>
  intro h hs;have hs0:sizeT t=t.nodes.length+t.inner.length+sizeL t.inner:=rfl;unfold checkT at h;split at h
  ·cases h
  ·rename_i h1
   split at h
   ·cases h
   ·split at h
    ·rename_i h2;exact qp h h2
    ·have h3:NN (.mk t.th t.nodes t.inner):=.mk ⟨by omega,by omega⟩ λy hy=>ih y hy (jh0 h y hy) (by have:=jbM hy;omega)
     cases t;exact h3
theorem jkz{n:Nat}:∀{l:List Mem},memsV n l=0->∀m∈l,memV m n=0
 | [],_,m,h=>qp h qv
 | x::r,h,m,hm=>by
  simp only[memsV] at h
  by_cases h0:memV x n=0
  ·rw[qf h0] at h
   rcases zf hm with rfl | hm
   ·exact h0
   ·exact jkz h m hm
  ·rw[qe h0] at h;exact qp h h0
structure Lt(c:List Mem):Prop where
 len:c.length<=4
 size:∀m∈c,sizeT m.t<=1000
theorem Lt.s9(h:Lt c):∀m∈c,sizeT m.t<=1000000000:=λm hm=>by have:=h.size m hm;omega
theorem OKA.lt(h:OKA c):Lt c:=⟨h.len,λm hm=>by have:=h.size m hm;omega⟩
theorem jyO(hL:Lt c)(hv:validC c=0)(hd:(c.any λm=>!m.decl)=false):OKA c:=by
 have hdc:∀m∈c,m.decl=true:=λm hm=>by
  have:=List.any_eq_false.1 hd m hm;simpa using this
 have hvt:∀m∈c,validT m.t=0:=λm hm=>by
  have h1:memsV c.length c=0:=by unfold validC at hv;rw[qe (by have:=hL.len;omega)] at hv;exact hv
  have h2:=jkz h1 m hm;unfold memV at h2;rw[qf (hdc m hm)] at h2
  by_cases h3:validT m.t=0
  ·exact h3
  ·rw[qe h3] at h2;exact qp h2 h3
 exact⟨hL.len,hdc,λm hm=>jb2 (hvt m hm),λm hm=>jmE m.t (jbA (hvt m hm)) (by have:=hL.size m hm;omega),hv⟩
def checkE(c:List Mem)(s:Int):Int:=if validC c=0 then (if (c.any λm=>!m.decl)=true then 10 else if s<0\/((2^c.length - 1:Nat):Int)<s then 1 else 0) else validC c
theorem jjm(h:¬validC c=0):checkE c s=validC c:=qe h
theorem jja(h:validC c=0)(h2:(c.any λm=>!m.decl)=true):checkE c s=10:=by unfold checkE;rw[qf h,qf h2]
theorem ji6(h:validC c=0)(h2:(c.any λm=>!m.decl)=false)(h3:s<0\/((2^c.length - 1:Nat):Int)<s):checkE c s=1:=by unfold checkE;rw[qf h,qe (by rw[h2];decide),qf h3]
theorem jjL(h:validC c=0)(h2:(c.any λm=>!m.decl)=false)(h3:¬(s<0\/((2^c.length - 1:Nat):Int)<s)):checkE c s=0:=by unfold checkE;rw[qf h,qe (by rw[h2];decide),qe h3]
theorem jot(hL:Lt c)(h:checkE c s=0):OKA c/\∃n:Nat,s=n/\n<2^c.length:=by
 have hp:=jsJ hL.len
 by_cases hv:validC c=0
 ·(
 cases hd:(c.any λm=>!m.decl) with
 | true=>rw[jja hv hd] at h;cases h
 | false =>
  by_cases h3:s<0\/((2^c.length - 1:Nat):Int)<s
  ·rw[ji6 hv hd h3] at h;cases h
  ·exact⟨jyO hL hv hd,s.toNat,by omega,by omega⟩)
 ·rw[jjm hv] at h;exact qp h hv
theorem jcI(hok:OKA c)(h:n<2^c.length):checkE c n=0:=by
 exact jjL hok.ok hok.any zo
theorem jpj(c:List Mem)(hL:Lt c)(s:Int):C0 46 [cv c,.i s] (.i (checkE c s)):=by
 refine xI Tryz.func46 Tryz.call46 λhcap=>?_;have hp:=jsJ hL.len;have hlen:=hL.len;refine xX λb2=>?_;refine xA (jiC c hL.s9) ?_;refine xC ?_ ?_<;>intro hc
 ·(
 have hv:=jaf hc;refine xP ?_
 rw[jjm hv];rfl)
 ·(
 have hv:validC c=0:=jac hc;refine xA (jd2 _ (λm=>!m.decl) c (λk _=>jiO k)) ?_;refine xC ?_ ?_<;>intro hc
 ·(
 have hd:=hc;refine xP ?_
 rw[jja hv hd];rfl)
 ·(
 have hd:=hc;iterate 5 refine zW ?_
 iterate 2 all_goals first | refine zW ?_ | refine xG ?_ ?_<;>intro hg
 all_goals first | (refine zY ?_;refine jaa zRc (jdp c hL.len) rfl rfl ?_) | refine zSk ?_
 iterate 3 all_goals refine zW ?_
 all_goals (
 refine xC ?_ ?_<;>intro hc
 ·(
 first
 | (exact xQ hc)
 |(
 iterate 8 refine zW ?_
 refine zPi ?_
 rw[ji6 hv hd (by first | (have h5:=qc hg;omega) | (have h5:=qc hc;omega))];rfl))
 ·(
 first
 | (exact xQ hc)
 |(
 iterate 9 refine zW ?_
 refine zPi ?_;have h4:=qd hg;have h5:=qd hc
 rw[jjL hv hd zo];rfl)))))
theorem joy(c:List Mem)(hc:c.length<=4):C0 79 [cv c] (.i ((2^c.length - 1:Nat):Int)):=by
 refine xI Tryz.func79 Tryz.call79 λhcap=>?_;have hml:(c.map mv).length=c.length:=by simp
 have hpos:0<2^c.length:=Nat.pow_pos zo;have hle:=Nat.pow_le_pow_right (show 0<2 by omega) hc;refine xX λb1=>?_;refine xN λ_=>?_
 (rw[hml];refine zP (jc4 rfl rfl rfl zo) ?_)
 refine zP (jaZ (p:=1) rfl rfl rfl zo zo) ?_;refine zP (jb3 (m:=((2^c.length - 1:Nat):Int)) rfl rfl (by show some _=_;simp only[qs];omega) zo) ?_;refine xP ?_;exact rfl
theorem jtA(c:List Mem)(hL:Lt c)(s:Int):C0 77 [cv c,.i s] (.i (checkE c s)):=by
 refine xI Tryz.func77 Tryz.call77 λhcap=>?_;have hp:=jsJ hL.len;have hlen:=hL.len;have hml:(c.map mv).length=c.length:=by simp
 refine xX λb2=>?_;refine xA (jch c hL.s9) ?_;refine xC ?_ ?_<;>intro hc
 ·(
 have hv:=jaf hc;refine xP ?_
 rw[jjm hv];rfl)
 ·(
 have hv:validC c=0:=jac hc;refine xN λ_=>?_;iterate 4 refine zW ?_
 refine jah [1,2,14,15] [.box b2 _ _] (λ(k:Nat) r=>(16,.i (k:Int))::r) (λk r=>r) (λk=>k<=c.length/\((c.drop k).any λm=>!m.decl)=(c.any λm=>!m.decl)) (λk=>c.length - k) (0) zRc ⟨by omega,by simp⟩ (zWk) ?_;intro k ⟨hk,hI⟩;refine xC ?_ ?_<;>intro hc
 ·(
 have hlt:=qc hc;obtain⟨x,hx,hd⟩:=jab (l:=c) (k:=k) zo;have hx':=jad mv hx;rw[hd] at hI;refine xL λb7=>?_;refine xC ?_ ?_<;>intro hc
 ·(
 refine xP ?_;rw[jeb (by exact hc)] at hI
 rw[jja hv hI.symm];rfl)
 ·(
 iterate 8 refine zW ?_
 rw[jef (by exact hc)] at hI
 refine⟨k+1,⟨by omega,hI⟩,by omega,zWk⟩))
 ·(
 have hge:=qd hc;have hd:(c.any λm=>!m.decl)=false:=by rw[jae zo] at hI;exact hI.symm
 iterate 11 refine zW ?_
 iterate 3 all_goals first | refine zW ?_ | refine xG ?_ ?_<;>intro hg
 all_goals first | (refine zY ?_;(first | refine zLn λ_=>?_ | refine zW ?_)) | refine zSk ?_
 all_goals first | (refine zY ?_;(rw[hml];refine zP (jc4 rfl rfl rfl zo) ?_)) | refine zSk ?_
 all_goals first | (refine zY ?_;refine zP (jaZ (p:=1) rfl rfl rfl zo zo) ?_) | refine zSk ?_
 iterate 2 all_goals refine zW ?_
 all_goals (
 refine xC ?_ ?_<;>intro hc
 ·(
 first
 | (exact xQ hc)
 |(
 iterate 7 refine zW ?_
 refine zPi ?_
 rw[ji6 hv hd (by first | (have h5:=qc hg;omega) | (have h5:=qc hc;omega))];rfl))
 ·(
 first
 | (exact xQ hc)
 |(
 iterate 8 refine zW ?_
 refine zPi ?_;have h4:=qd hg;have h5:=qd hc
 rw[jjL hv hd zo];rfl)))))
def pairE(c:List Mem)(s:Int):Nat × Nat × Bool:=if checkE c s=0 then pairC c s.toNat else (0,0,false)
theorem jt8(h:¬checkE c s=0):pairE c s=(0,0,false):=qe h
theorem jjK(h:checkE c n=0):pairE c n=pairC c n:=by unfold pairE;rw[qf h,qq]
theorem jpY(c:List Mem):great c ((0:Nat):Int)=0:=by
 have g:=(jbw c (show 0<1024 by omega)).within
 exact Nat.eq_of_testBit_eq λi=>by
  rw[Nat.zero_testBit];cases h:(great c ((0:Nat):Int)).testBit i with
  | false=>rfl
  | true=>have:=g i h;rw[Nat.zero_testBit] at this;cases this
theorem jpf{s:Nat}(h:1<=2^c.length):pairGo (pairL c s) (pairR c s) (2^c.length - 1) 1=pairC c s:=by
 have h1:=jd6 (f:=pairL c s) (g:=pairR c s) (n:=2^c.length) (k:=0) zo (.inl (jpY (delC c s)));exact h1.symm
theorem jqD(c:List Mem)(hL:Lt c)(s:Int):C0 25 [cv c,.i s] (.tup [.i ((pairE c s).1:Nat),.i ((pairE c s).2.1:Nat),.b (pairE c s).2.2]):=by
 refine xI Tryz.func25 Tryz.call25 λhcap=>?_;refine xX λb2=>?_;refine xA (jtA c hL s) ?_;refine xC ?_ ?_<;>intro hc
 ·(
 have h0:=jaf hc;iterate 9 refine zW ?_
 rw[jt8 h0]
 (refine zPi ?_;exact rfl))
 ·(
 have h0:=jac hc;obtain⟨hok,n,rfl,hs⟩:=jot hL h0;have hp:=jsJ hL.len;refine xA (jrc c hok.l10 n zo hok.s2) ?_;refine zAl λb7=>?_;iterate 10 refine zW ?_
 refine jah [2,7] [.box b7 _ _,.box b2 _ _] (λ(k:Nat) r=>(8,.i (k:Int))::r) (λk r=>r) (λk=>(1<=k/\k<=2^c.length)/\pairGo (pairL c n) (pairR c n) (2^c.length - k) k=pairC c n) (λk=>2^c.length - k) (1) zRc ⟨by omega,jpf hp.1⟩ (zWk) ?_;intro k ⟨hk,hI⟩;refine xA (joy c hL.len) ?_;refine xC ?_ ?_<;>intro hc
 ·(
 have hlt:=qc hc;refine xA (jb8 (delC c n) k) ?_;iterate 4 refine zW ?_
 refine zDr [] ?_;refine zT 0 ?_;refine zT 1 ?_;refine zT 3 ?_;refine zOn 2 ?_;refine xA (joy c hL.len) ?_;refine zW ?_;refine zT 4 ?_;refine zOn 5 ?_;refine xA (jb8 (delC c n) (co c k:Nat)) ?_;refine zW ?_;refine zT 6 ?_;refine zW ?_
 all_goals (
 iterate 6 refine zW ?_
 iterate 3 all_goals first | refine zW ?_ | refine xG ?_ ?_<;>intro hg
 all_goals (
 refine xC ?_ ?_<;>intro hc
 ·(
 first
 | (exact xQ hc)
 |(
 iterate 15 refine zW ?_
 rw[jiF zo (js7 (by unfold pairL;with_reducible assumption)) (js7 (by unfold pairR;with_reducible assumption))] at hI;rw[jjK h0,<-hI]
 (refine zPi ?_;exact rfl)))
 ·(
 first
 | (exact xQ hc)
 |(
 iterate 9 refine zW ?_
 have hz:pairL c n k=0\/pairR c n k=0:=by
  first
  | (refine .inl (jsK ?_);unfold pairL;with_reducible assumption)
  | (refine .inr (jsK ?_);unfold pairR;with_reducible assumption)
 rw[jd6 zo hz] at hI
 refine⟨k+1,⟨by omega,hI⟩,by omega,zWk⟩)))))
 ·(
 have hge:=qd hc;rw[jhX zo] at hI;iterate 13 refine zW ?_
 rw[jjK h0,<-hI]
 (refine zPi ?_;exact rfl)))
structure Stp where
 kind:Int
 node:Int
 to:Int
 slot:Int
 count:Int
 val:ByteArray
 lk:Int
 ls:Int
 en:Int
 es:Int
 eq:Int
 th:Int
 tn:List Int
 ek:Int
 bn:Int
 bv:ByteArray
 lo:Int
 hi:Int
 parts:List Int
def stv(x:Stp):D:=.agg [.i x.kind,.i x.node,.i x.to,.i x.slot,.i x.count,.v (.string x.val),.i 0,.sl 1 [],.sl 3 [],.i x.lk,.i x.ls,.i 0,.i 0,.i 0,.sl 1 [],.sl 3 [],.sl 1 [],.sl 1 [],.i x.en,.i x.es,.i x.eq,.i x.th,.sl 1 (x.tn.map .i),.sl 3 [],.i x.ek,.i x.bn,.v (.string x.bv),.i 0,.v (.string ⟨#[]⟩),.i 0,.v (.string ⟨#[]⟩),.i x.lo,.i x.hi,.sl 1 (x.parts.map .i)]
abbrev sE:ByteArray:=⟨#[]⟩
def lieS(i k slot:Int)(w:ByteArray):Stp:=⟨5,i,k,0,0,sE,2,slot,i,slot,1,1,[i],3,1,w,1,1,[]⟩
def prefS(k:Int)(w:ByteArray):Stp:=⟨8,k,0,1,0,w,0,0,0,0,0,0,[],0,0,sE,0,0,[]⟩
def tickS:Stp:=⟨2,0,0,0,12,sE,0,0,0,0,0,0,[],0,0,sE,0,0,[]⟩
def partS(l:List Int):Stp:=⟨6,0,0,0,0,sE,0,0,0,0,0,0,[],0,0,sE,0,0,l⟩
theorem jz7(i k slot:Int)(w:ByteArray):Cv (.slice none 0 0) 1 [] (.agg [.i 5,.i i,.i k,.i 0,.i 0,.v (.string sE),.i 0,.nil,.nil,.i 2,.i slot,.i 0,.i 0,.i 0,.nil,.nil,.nil,.nil,.i i,.i slot,.i 1,.i 1,.sl 1 [.i i],.nil,.i 3,.i 1,.v (.string w),.i 0,.v (.string ⟨#[]⟩),.i 0,.v (.string ⟨#[]⟩),.i 1,.i 1,.nil]) (stv (lieS i k slot w)):=Cv.agg (by repeat (first | exact CvL.nil | apply CvL.cons (by first | exact Cv.same | exact Cv.nil)))
theorem jz1(k:Int)(w:ByteArray):Cv (.slice none 0 0) 1 [] (.agg [.i 8,.i k,.i 0,.i 1,.i 0,.v (.string w),.i 0,.nil,.nil,.i 0,.i 0,.i 0,.i 0,.i 0,.nil,.nil,.nil,.nil,.i 0,.i 0,.i 0,.i 0,.nil,.nil,.i 0,.i 0,.v (.string sE),.i 0,.v (.string ⟨#[]⟩),.i 0,.v (.string ⟨#[]⟩),.i 0,.i 0,.nil]) (stv (prefS k w)):=Cv.agg (by repeat (first | exact CvL.nil | apply CvL.cons (by first | exact Cv.same | exact Cv.nil)))
theorem jyM:Cv (.slice none 0 0) 1 [] (.agg [.i 2,.i 0,.i 0,.i 0,.i 12,.v (.string sE),.i 0,.nil,.nil,.i 0,.i 0,.i 0,.i 0,.i 0,.nil,.nil,.nil,.nil,.i 0,.i 0,.i 0,.i 0,.nil,.nil,.i 0,.i 0,.v (.string sE),.i 0,.v (.string ⟨#[]⟩),.i 0,.v (.string ⟨#[]⟩),.i 0,.i 0,.nil]) (stv tickS):=Cv.agg (by repeat (first | exact CvL.nil | apply CvL.cons (by first | exact Cv.same | exact Cv.nil)))
theorem jzL(l:List Int):Cv (.slice none 0 0) 1 [] (.agg [.i 6,.i 0,.i 0,.i 0,.i 0,.v (.string sE),.i 0,.nil,.nil,.i 0,.i 0,.i 0,.i 0,.i 0,.nil,.nil,.nil,.nil,.i 0,.i 0,.i 0,.i 0,.nil,.nil,.i 0,.i 0,.v (.string sE),.i 0,.v (.string ⟨#[]⟩),.i 0,.v (.string ⟨#[]⟩),.i 0,.i 0,.sl 1 (l.map .i)]) (stv (partS l)):=Cv.agg (by repeat (first | exact CvL.nil | apply CvL.cons (by first | exact Cv.same | exact Cv.nil)))
def prefL(s:Int)(w:ByteArray):List Stp:=(nodesOf s).map λk=>prefS k w
theorem jcp(s:Int):(nodesOf s).length<=10:=by
 unfold nodesOf;have:=List.length_filter_le (λk=>has s k) (upTo 10);rw[jvm] at this;exact this
theorem jjW(q:List Stp)(x:Stp):q.map stv++[stv x]=(q++[x]).map stv:=by simp
theorem jt1{α:Type}{l:List α}{k:Nat}{x:α}(h:l[k]?=some x):l.take (k+1)=l.take k++[x]:=by rw[List.take_add_one,h];rfl
theorem jqU(i k slot:Int)(w:ByteArray):C0 76 [.i i,.i k,.i slot,.v (.string w)] (stv (lieS i k slot w)):=by
 refine xI Tryz.func76 Tryz.call76 λhcap=>?_;refine xL λb8=>?_;iterate 5 refine zW ?_
 refine xLt 3 1 8 ?_;refine xL λb9=>?_;refine xL λb10=>?_;iterate 11 refine zW ?_
 refine jau [8,25] 1 rfl rfl (by repeat (first | exact SelC.nil | apply SelC.cons rfl (jz7 i k slot w) | apply SelC.cons rfl Cv.same)) ja4 ?_;refine jdU rfl rfl jdZ jct rfl zRc ?_;refine xP ?_;exact rfl
theorem jix(v0:Value)(q:List Stp)(hq:q.length<=1000)(s:Int)(w:ByteArray):Con none Tryz.prog 71 [.v v0,.i s,.v (.string w)] [.arr v0 59 34 (q.map stv)] (λd H=>∃v,d=.v v/\H=[.arr v 59 34 ((q++prefL s w).map stv)]):=by
 refine xI Tryz.func71 Tryz.call71 λhcap=>?_;have hnl:((nodesOf s).map D.i).length=(nodesOf s).length:=by simp
 have hn10:=jcp s;refine xA (jdl _) ?_;refine zLn λ_=>?_;iterate 4 refine zW ?_
 refine jag [2,10,11] [] (λ(k:Nat)(v:Value) r=>(0,.v v)::(12,.i (k:Int))::r) (λk v r=>.arr v 59 34 ((q++((nodesOf s).take k).map (λj=>prefS j w)).map stv)::r) (λk v=>k<=(nodesOf s).length) (λk v=>(nodesOf s).length - k) (0) (v0) zRc zo (by rw[List.take_zero,List.map_nil,List.append_nil];exact zWk) ?_;intro k v hk;have hql:((q++((nodesOf s).take k).map (λj=>prefS j w)).map stv).length<=1010:=by simp only[qw,qm,List.length_take];omega
 refine xC ?_ ?_<;>intro hc
 ·(
 have hlt:=qc hc;obtain⟨x,hx,_⟩:=jab (l:=nodesOf s) (k:=k) zo;have hx':=jad D.i hx;iterate 16 refine zW ?_
 refine jau [2,10,11,12,16,19] 1 rfl rfl (by repeat (first | exact SelC.nil | apply SelC.cons rfl (jz1 x w) | apply SelC.cons rfl Cv.same)) ja4 ?_;refine xLt 59 34 448 ?_;refine xEa 59 34 448 (hb:=by simp only[qi,qu];omega) λv21 hv21=>?_;iterate 9 refine zW ?_
 rw[jjW,show q++((nodesOf s).take k).map (λj=>prefS j w)++[prefS x w]=q++((nodesOf s).take (k+1)).map (λj=>prefS j w) from by rw[jt1 hx,List.map_append,List.append_assoc];rfl]
 refine⟨k+1,_,by omega,by omega,zWk⟩)
 ·(
 have hge:=qd hc;rw[qC (show (nodesOf s).length<=k by omega)];iterate 12 refine zW ?_
 exact jaS (.tmp rfl .nil) jcy ⟨_,rfl,rfl⟩)
abbrev sa:ByteArray:=⟨#[97]⟩
abbrev sb:ByteArray:=⟨#[98]⟩
def restC(c:List Mem)(n l r:Nat):Nat:=(2^c.length - 1)&&&(2^63 - 1 - (l|||r|||n))
def partsL(c:List Mem)(n l r:Nat):List Int:=if restC c n l r=0 then [(l:Int),r] else [(l:Int),r,restC c n l r]
theorem jwX{l r:Nat}(h:restC c n l r=0):partsL c n l r=[(l:Int),r]:=qf h
theorem jx6{l r:Nat}(h:¬restC c n l r=0):partsL c n l r=[(l:Int),r,restC c n l r]:=qe h
def headL(c:List Mem)(n l r:Nat):List Stp:=[partS (partsL c n l r)]++prefL l sa++prefL r sb
def lieA(l i:Int):List Stp:=(nodesOf l).map λk=>lieS i k 1 sa
def lieB(r i:Int):List Stp:=(nodesOf r).map λk=>lieS i k 1 sb
def liesL(l r:Int)(is:List Int):List Stp:=is.flatMap λi=>lieA l i++lieB r i
theorem jsL(l r:Int)(is:List Int)(i:Int):liesL l r (is++[i])=liesL l r is++(lieA l i++lieB r i):=by simp[liesL]
theorem jnN(l r:Int):∀is:List Int,(liesL l r is).length<=20 * is.length
 | []=>by simp[liesL]
 | i::t=>by
  have h1:=jnN l r t;have h2:=jcp l;have h3:=jcp r;simp only[liesL,List.flatMap_cons,qm,lieA,lieB,qw,qi] at h1 ⊢;omega
theorem juP(c:List Mem)(n l r:Nat):(headL c n l r).length<=21:=by
 have h2:=jcp l;have h3:=jcp r;simp only[headL,prefL,qm,qw,qi,qu];omega
def splitE(c:List Mem)(s:Int):List Stp × Int :=
 if checkE c s=0 then (if (pairC c s.toNat).2.2=true then (headL c s.toNat (pairC c s.toNat).1 (pairC c s.toNat).2.1++liesL (pairC c s.toNat).1 (pairC c s.toNat).2.1 (nodesOf s)++[tickS],0) else ([],11)) else ([],checkE c s)
theorem juD(h:¬checkE c s=0):splitE c s=([],checkE c s):=qe h
theorem jfd(h:checkE c n=0)(h2:(pairC c n).2.2=false):splitE c n=([],11):=by unfold splitE;rw[qf h,qq,qe (by rw[h2];decide)]
theorem jjF(h:checkE c n=0)(h2:(pairC c n).2.2=true):splitE c n=(headL c n (pairC c n).1 (pairC c n).2.1++liesL (pairC c n).1 (pairC c n).2.1 (nodesOf n)++[tickS],0):=by unfold splitE;rw[qf h,qq,qf h2]
theorem jx3(hc:c.length<=4)(n:Nat):(pairC c n).1<1024/\(pairC c n).2.1<1024:=jvw hc n
theorem jp7(c:List Mem)(hL:Lt c)(s:Int):C0 24 [cv c,.i s] (.tup [.sl 34 ((splitE c s).1.map stv),.i (splitE c s).2]):=by
 refine xI Tryz.func24 Tryz.call24 λhcap=>?_;refine xX λb2=>?_;refine xA (jpj c hL s) ?_;refine xC ?_ ?_<;>intro hc
 ·(
 have h0:=jaf hc;iterate 7 refine zW ?_
 refine jak [4,5] 34 rfl jcb jcr ?_;iterate 2 refine zW ?_
 rw[juD h0]
 (refine zPi ?_;exact rfl))
 ·(
 have h0:=jac hc;obtain⟨hok,n,rfl,hs⟩:=jot hL h0;have hp:=jsJ hL.len;obtain⟨hl10,hr10⟩:=jx3 hL.len n;have hn1024:n<1024:=by omega
 have hlr:(pairC c n).1|||(pairC c n).2.1<1024:=Nat.or_lt_two_pow (n:=10) hl10 hr10
 have hlrn:(pairC c n).1|||(pairC c n).2.1|||n<1024:=Nat.or_lt_two_pow (n:=10) hlr hn1024
 have hhl:=juP c n (pairC c n).1 (pairC c n).2.1;have hnn:=jcp (n:Int);have hnl:=jcp ((pairC c n).1:Int);have hnr:=jcp ((pairC c n).2.1:Int);refine xA (jlS c hok n hs) ?_;refine xC ?_ ?_<;>intro hc
 ·(
 have h2:(pairC c n).2.2=false:=jaw hc;iterate 6 refine zW ?_
 refine jak [4,5] 34 rfl jcb jcr ?_;iterate 2 refine zW ?_
 rw[jfd h0 h2]
 (refine zPi ?_;exact rfl))
 ·(
 have h2:(pairC c n).2.2=true:=jav hc;iterate 6 refine zW ?_
 refine jf8 (e:=3) (sz:=1) (by_:=8) rfl rfl zRc rfl rfl rfl rfl (λv36 hv36=>?_);refine xA (jdp c hL.len) ?_;refine xC ?_ ?_<;>intro hc
 rotate_left
 case' _ =>(
 have hrest:(!decide ((restC c n (pairC c n).1 (pairC c n).2.1:Int)=0))=false:=hc
 refine zW ?_)
 rotate_right
 case' _ =>(
 have hrest:(!decide ((restC c n (pairC c n).1 (pairC c n).2.1:Int)=0))=true:=hc;iterate 3 refine zW ?_
 refine xLt 3 1 8 ?_;refine xEa 3 1 8 (hb:=by simp only[qi,qu];omega) λv50 hv50=>?_
 iterate 2 refine zW ?_)
 all_goals (
 iterate 2 refine zW ?_
 first | (have h46:decide (1=1)=true:=rfl;refine zFz v50 [1,7,8,10] ?_;rw[show [D.i ((pairC c n).1:Int),D.i ((pairC c n).2.1:Int)]++[D.i (((2^c.length - 1)&&&(2^63 - 1 - ((pairC c n).1|||(pairC c n).2.1|||n)):Nat):Int)]=(partsL c n (pairC c n).1 (pairC c n).2.1).map D.i from by rw[jx6 (js7 zO)];rfl]) | (refine zFz v36 [1,7,8,10] ?_;rw[show [D.i ((pairC c n).1:Int),D.i ((pairC c n).2.1:Int)]=(partsL c n (pairC c n).1 (pairC c n).2.1).map D.i from by rw[jwX (jsK zO)];rfl])
 iterate 3 refine zW ?_
 (refine jau [1,7,8,52] 1 rfl rfl (by repeat (first | exact SelC.nil | apply SelC.cons rfl (jzL (partsL c n (pairC c n).1 (pairC c n).2.1)) | apply SelC.cons rfl Cv.same)) ja4 ?_;refine jf8 (e:=59) (sz:=34) (by_:=448) rfl rfl zRc rfl rfl rfl rfl (λv53 hv53=>?_))
 refine xB (jix _ ([partS (partsL c n (pairC c n).1 (pairC c n).2.1)]) (by simp only[prefL,qm,qw,qi,qu];omega) ((pairC c n).1:Int) sa) ?_;rintro _ _ ⟨v56,rfl,rfl⟩;refine xB (jix _ ([partS (partsL c n (pairC c n).1 (pairC c n).2.1)]++prefL ((pairC c n).1:Int) sa) (by simp only[prefL,qm,qw,qi,qu];omega) ((pairC c n).2.1:Int) sb) ?_;rintro _ _ ⟨v58,rfl,rfl⟩;refine xA (jdl _) ?_;refine zLn λ_=>?_;iterate 4 refine zW ?_
 refine jag [7,8,60,61] [] (λ(k:Nat)(v:Value) r=>(12,.v v)::(62,.i (k:Int))::r) (λk v r=>.arr v 59 34 ((headL c n (pairC c n).1 (pairC c n).2.1++liesL (pairC c n).1 (pairC c n).2.1 ((nodesOf (n:Int)).take k)).map stv)::r) (λk v=>k<=(nodesOf (n:Int)).length) (λk v=>(nodesOf (n:Int)).length - k) (0) (v58) zRc zo (by rw[List.take_zero,show liesL (pairC c n).1 (pairC c n).2.1 []=[] from rfl,List.append_nil];exact zWk) ?_;intro k v hk;have hfl:=jnN ((pairC c n).1:Int) ((pairC c n).2.1:Int) ((nodesOf (n:Int)).take k);have hql:((headL c n (pairC c n).1 (pairC c n).2.1++liesL (pairC c n).1 (pairC c n).2.1 ((nodesOf (n:Int)).take k)).map stv).length<=221:=by simp only[qw,qm,List.length_take] at hfl ⊢;omega
 refine xC ?_ ?_<;>intro hc
 ·(
 have hlt:=qc hc;obtain⟨x,hx,_⟩:=jab (l:=nodesOf (n:Int)) (k:=k) (by simp only[qw] at hlt;omega);have hx':=jad D.i hx;refine xA (jdl _) ?_;refine zLn λ_=>?_;iterate 4 refine zW ?_
 refine jag [7,8,14,60,61,62,67,68] [] (λ(j:Nat)(v2:Value) r=>(12,.v v2)::(69,.i (j:Int))::r) (λj v2 r=>.arr v2 59 34 ((headL c n (pairC c n).1 (pairC c n).2.1++liesL (pairC c n).1 (pairC c n).2.1 ((nodesOf (n:Int)).take k)++((nodesOf ((pairC c n).1:Int)).take j).map (λm=>lieS x m 1 sa)).map stv)::r) (λj v2=>j<=(nodesOf ((pairC c n).1:Int)).length) (λj v2=>(nodesOf ((pairC c n).1:Int)).length - j) (0) (v) zRc zo (by rw[List.take_zero,List.map_nil,List.append_nil];exact zWk) ?_;intro j v2 hj;have hql2:((headL c n (pairC c n).1 (pairC c n).2.1++liesL (pairC c n).1 (pairC c n).2.1 ((nodesOf (n:Int)).take k)++((nodesOf ((pairC c n).1:Int)).take j).map (λm=>lieS x m 1 sa)).map stv).length<=231:=by simp only[qw,qm,List.length_take] at hfl ⊢;omega
 refine xC ?_ ?_<;>intro hc
 ·(
 have hlt2:=qc hc;obtain⟨y,hy,_⟩:=jab (l:=nodesOf ((pairC c n).1:Int)) (k:=j) (by simp only[qw] at hlt2;omega);have hy':=jad D.i hy;refine xA (jqU x y 1 sa) ?_;refine xLt 59 34 448 ?_;refine xEa 59 34 448 (hb:=by simp only[qi,qu];omega) λv78 hv78=>?_;iterate 9 refine zW ?_
 rw[jjW,show headL c n (pairC c n).1 (pairC c n).2.1++liesL (pairC c n).1 (pairC c n).2.1 ((nodesOf (n:Int)).take k)++((nodesOf ((pairC c n).1:Int)).take j).map (λm=>lieS x m 1 sa)++[lieS x y 1 sa]=headL c n (pairC c n).1 (pairC c n).2.1++liesL (pairC c n).1 (pairC c n).2.1 ((nodesOf (n:Int)).take k)++((nodesOf ((pairC c n).1:Int)).take (j+1)).map (λm=>lieS x m 1 sa) from by rw[jt1 hy,List.map_append];simp only[List.append_assoc,List.map_cons,List.map_nil]]
 refine⟨j+1,_,by simp only[qw] at hlt2;omega,by simp only[qw] at hlt2;omega,zWk⟩)
 ·(
 have hge2:=qd hc;simp only[qw] at hge2;refine xA (jdl _) ?_;refine zLn λ_=>?_;iterate 4 refine zW ?_
 refine jag [7,8,14,60,61,62,81,82] [] (λ(j:Nat)(v3:Value) r=>(12,.v v3)::(83,.i (j:Int))::r) (λj v3 r=>.arr v3 59 34 ((headL c n (pairC c n).1 (pairC c n).2.1++liesL (pairC c n).1 (pairC c n).2.1 ((nodesOf (n:Int)).take k)++lieA ((pairC c n).1:Int) x++((nodesOf ((pairC c n).2.1:Int)).take j).map (λm=>lieS x m 1 sb)).map stv)::r) (λj v3=>j<=(nodesOf ((pairC c n).2.1:Int)).length) (λj v3=>(nodesOf ((pairC c n).2.1:Int)).length - j) (0) (v2) zRc zo (by rw[List.take_zero,List.map_nil,List.append_nil,show ((nodesOf ((pairC c n).1:Int)).take j).map (λm=>lieS x m 1 sa)=lieA ((pairC c n).1:Int) x from by rw[qC zo];rfl];exact zWk) ?_;intro j v3 hj;have hql3:((headL c n (pairC c n).1 (pairC c n).2.1++liesL (pairC c n).1 (pairC c n).2.1 ((nodesOf (n:Int)).take k)++lieA ((pairC c n).1:Int) x++((nodesOf ((pairC c n).2.1:Int)).take j).map (λm=>lieS x m 1 sb)).map stv).length<=241:=by simp only[lieA,qw,qm,List.length_take] at hfl ⊢;omega
 refine xC ?_ ?_<;>intro hc
 ·(
 have hlt3:=qc hc;obtain⟨y,hy,_⟩:=jab (l:=nodesOf ((pairC c n).2.1:Int)) (k:=j) (by simp only[qw] at hlt3;omega);have hy':=jad D.i hy;refine xA (jqU x y 1 sb) ?_;refine xLt 59 34 448 ?_;refine xEa 59 34 448 (hb:=by simp only[qi,qu];omega) λv92 hv92=>?_;iterate 9 refine zW ?_
 rw[jjW,show headL c n (pairC c n).1 (pairC c n).2.1++liesL (pairC c n).1 (pairC c n).2.1 ((nodesOf (n:Int)).take k)++lieA ((pairC c n).1:Int) x++((nodesOf ((pairC c n).2.1:Int)).take j).map (λm=>lieS x m 1 sb)++[lieS x y 1 sb]=headL c n (pairC c n).1 (pairC c n).2.1++liesL (pairC c n).1 (pairC c n).2.1 ((nodesOf (n:Int)).take k)++lieA ((pairC c n).1:Int) x++((nodesOf ((pairC c n).2.1:Int)).take (j+1)).map (λm=>lieS x m 1 sb) from by rw[jt1 hy,List.map_append];simp only[List.append_assoc,List.map_cons,List.map_nil]]
 refine⟨j+1,_,by simp only[qw] at hlt3;omega,by simp only[qw] at hlt3;omega,zWk⟩)
 ·(
 have hge3:=qd hc;simp only[qw] at hge3;iterate 11 refine zW ?_
 rw[show headL c n (pairC c n).1 (pairC c n).2.1++liesL (pairC c n).1 (pairC c n).2.1 ((nodesOf (n:Int)).take k)++lieA ((pairC c n).1:Int) x++((nodesOf ((pairC c n).2.1:Int)).take j).map (λm=>lieS x m 1 sb)=headL c n (pairC c n).1 (pairC c n).2.1++liesL (pairC c n).1 (pairC c n).2.1 ((nodesOf (n:Int)).take (k+1)) from by rw[jt1 hx,jsL,show (nodesOf ((pairC c n).2.1:Int)).take j=nodesOf ((pairC c n).2.1:Int) from qC zo];simp only[List.append_assoc];rfl]
 refine⟨k+1,_,by simp only[qw] at hlt;omega,by simp only[qw] at hlt;omega,zWk⟩)))
 ·(
 have hge:=qd hc;simp only[qw] at hge;rw[qC (show (nodesOf (n:Int)).length<=k by omega)] at hql ⊢;iterate 9 refine zW ?_
 first | refine zLn λ_=>?_ | refine zW ?_
 iterate 3 refine zW ?_
 refine jan rfl (by refine qz ?_;omega) ?_;iterate 6 refine zW ?_
 refine jau [98,99] 1 rfl rfl (by repeat (first | exact SelC.nil | apply SelC.cons rfl (jyM) | apply SelC.cons rfl Cv.same)) ja4 ?_;refine xLt 59 34 448 ?_;refine xEa 59 34 448 (hb:=by simp only[qi,qu];omega) λv101 hv101=>?_;iterate 4 refine zW ?_
 refine zFz v101 [4,5] ?_;refine xP ?_
 rw[jjF h0 h2,<-jjW];rfl))))
theorem bcl{x y:Bool}(h:x=y):resD [D.b x]=D.b y:=by rw[h];rfl
theorem icl{x y:Int}(h:x=y):resD [D.i x]=D.i y:=by rw[h];rfl
theorem jd7(q:List Evp)(x:Evp):q.map ev++[ev x]=(q++[x]).map ev:=by simp
theorem jAh{s u:ByteArray}(h:s.toList=u.toList):s=u:=by
 rw[ByteArray.toList_eq,ByteArray.toList_eq] at h;cases s;cases u;simp only at h
 congr 1
 exact Array.toList_inj.1 h
theorem jvL(a:Int)(s:ByteArray)(c:Int)(u:ByteArray):EqS Tryz.prog 53 #[.int .i64 a,.string s] #[.int .i64 c,.string u] (decide (a=c)&&decide (s=u)):=by
 have u3:=Tryz.underlying3;have a3:=Tryz.isAgg3;have z3:=Tryz.sizeOf3;have u4:=Tryz.underlying9;have a4:=Tryz.isAgg9;have z4:=Tryz.sizeOf9;have hS:Tryz.prog.underlying 53=some (.struct (Tryz.prog.fieldsOf 53)):=by kernel_rfl
 have hp:Tryz.prog.stoodInHeld 53=false:=by kernel_rfl
 refine⟨by kernel_rfl,λw=>⟨?_,?_⟩⟩
 ·(
 rw[show (10000:Nat)=9999+1 from rfl,run_equalIn_agg w 9999 53 _ _ hS hp];simp only[Program.fieldsOf,Tryz.underlying53]
 go_simp
 by_cases h1:a=c<;>by_cases h2:s.toList=u.toList<;>simp[h1,h2]
 ·exact jAh h2
 ·exact λe=>h2 (by rw[e]))
 ·(
 rw[show (10000:Nat)=9999+1 from rfl,jdi w 9999 53 _ _ _ hS hp];simp only[Program.fieldsOf,Tryz.underlying53]
 go_simp
 by_cases h1:a=c<;>by_cases h2:s.toList=u.toList<;>simp[h1,h2]
 all_goals simp only[show (9999:Nat)=9998+1 from rfl,jeD _ _ _ _ _ _ _ _ u3,jdh _ _ _ _ _ _ u4])
theorem jaM(b:Bal):C0 183 [bv b] (.b (zB b)):=by
 refine xI Tryz.func183 Tryz.call183 λhcap=>?_;refine xX λb1=>?_;iterate 7 refine zW ?_
 refine zP (jej rfl zRc rfl zRc (jvL _ _ _ _)) ?_;refine xP ?_;exact rfl
theorem jdT(b:Bal):C0 202 [bv b] (.b (vB b)):=by
 refine xI Tryz.func202 Tryz.call202 λhcap=>?_;refine xX λb1=>?_;iterate 9 refine zW ?_
 iterate 22 all_goals first | refine zW ?_ | refine xG ?_ ?_<;>intro hg
 all_goals (
 refine xP ?_;refine(bcl ?_)
 first | rfl | (simp only[vB];simp[*];done) | grind[vB])
theorem jbb(a b:Bal):C0 204 [bv a,bv b] (.b (cB a b)):=by
 refine xI Tryz.func204 Tryz.call204 λhcap=>?_;refine xX λb2=>?_;refine zBx λb3=>?_;refine xP ?_;exact rfl
theorem jsQ(a b:Str):C0 230 [.v (.string a),.v (.string b)] (.b (decide (cV a b<0))):=by
 refine xI Tryz.func230 Tryz.call230 λhcap=>?_;refine xC ?_ ?_<;>intro hc
 ·(
 have h1:=jaf hc;refine xP ?_;refine(bcl ?_)
 rw[jtk,qe zo])
 ·(
 have h1:=jac hc;refine xP ?_;refine(bcl ?_)
 rw[jtk,qf zo];rfl)
theorem jc7(a b:Bal):C0 203 [bv a,bv b] (.b (lB a b)):=by
 refine xI Tryz.func203 Tryz.call203 λhcap=>?_;refine xX λb2=>?_;refine zBx λb3=>?_;refine xC ?_ ?_<;>intro hc
 ·(
 have h1:=jaf hc;refine xP ?_;refine(bcl ?_)
 rw[jk5,qe h1])
 ·(
 have h1:=jac hc;refine xA (jsQ a.v b.v) ?_;refine xP ?_;refine(bcl ?_)
 rw[jk5,qf h1])
theorem jeh(p b:Bal):C0 231 [bv p,bv b] (.b (covB p b)):=by
 refine xI Tryz.func231 Tryz.call231 λhcap=>?_;refine xX λb2=>?_;refine zBx λb3=>?_;refine xA (jaM p) ?_;iterate 2 refine zW ?_
 iterate 2 all_goals first | refine zW ?_ | refine xG ?_ ?_<;>intro hg
 all_goals first | (refine zY ?_;refine jaa zRc (jbb p b) rfl rfl ?_) | refine zSk ?_
 iterate 9 all_goals first | refine zW ?_ | refine xG ?_ ?_<;>intro hg
 all_goals (
 refine xP ?_;refine(bcl ?_)
 first | rfl | (simp only[covB];simp[*];done))
theorem jfc(p b:Bal):C0 206 [bv p,bv b] (.b (abB p b)):=by
 refine xI Tryz.func206 Tryz.call206 λhcap=>?_;refine xX λb2=>?_;refine zBx λb3=>?_;refine xA (jaM p) ?_;iterate 2 refine zW ?_
 iterate 2 all_goals first | refine zW ?_ | refine xG ?_ ?_<;>intro hg
 all_goals first | (refine zY ?_;refine jaa zRc (jbb p b) rfl rfl ?_) | refine zSk ?_
 iterate 5 all_goals first | refine zW ?_ | refine xG ?_ ?_<;>intro hg
 all_goals first | (refine zY ?_;refine jaa zRc (jc7 b p) rfl rfl ?_) | refine zSk ?_
 iterate 2 all_goals refine zW ?_
 all_goals (
 refine xP ?_;refine(bcl ?_)
 first | rfl | (simp only[abB];simp[*];done))
theorem jhk(p q b:Bal):C0 205 [bv p,bv q,bv b] (.b (prB p q b)):=by
 refine xI Tryz.func205 Tryz.call205 λhcap=>?_;refine xX λb3=>?_;refine zBx λb4=>?_;refine zBx λb5=>?_;refine xA (jeh p b) ?_;refine zW ?_
 iterate 2 all_goals first | refine zW ?_ | refine xG ?_ ?_<;>intro hg
 all_goals first | (refine zY ?_;refine jaa zRc (jeh q b) rfl rfl ?_) | refine zSk ?_
 iterate 3 all_goals first | refine zW ?_ | refine xG ?_ ?_<;>intro hg
 all_goals first | (refine zY ?_;refine jaa zRc (jaM q) rfl rfl ?_) | refine zSk ?_
 iterate 4 all_goals first | refine zW ?_ | refine xG ?_ ?_<;>intro hg
 all_goals first | (refine zY ?_;refine jaa zRc (jc7 b q) rfl rfl ?_) | refine zSk ?_
 iterate 3 all_goals refine zW ?_
 all_goals (
 refine xP ?_;refine(bcl ?_)
 first | rfl | (simp only[prB];simp[*];done))
def headR(e:Evp):Bool:=headE e&&vB e.bal
theorem jvG(h:headR e=false):vE e=false:=by
 unfold vE headR at *;cases h1:headE e with
 | false=>rfl
 | true =>
  rw[h1,qx] at h;rw[qx];unfold kindE prepE finB;rw[h];simp
theorem jaA(e:Evp)(hs:sizeT e.t<=1000000000):C0 166 [ev e] (.b (vE e)):=by
 refine xI Tryz.func166 Tryz.call166 λhcap=>?_;refine xX λb1=>?_;iterate 10 refine zW ?_
 iterate 27 all_goals first | refine zW ?_ | refine xG ?_ ?_<;>intro hg
 all_goals first | (refine zY ?_;refine jaa zRc (jaI e.t hs) rfl rfl ?_) | refine zSk ?_
 iterate 5 all_goals first | refine zW ?_ | refine xG ?_ ?_<;>intro hg
 all_goals first | (refine zY ?_;refine jaa zRc (jdT e.bal) rfl rfl ?_) | refine zSk ?_
 iterate 2 all_goals refine zW ?_
 all_goals (
 refine xC ?_ ?_<;>intro hc
 ·(
 first
 | (exact xQ hc)
 |(
 have hb:vE e=false:=jvG (by first | (simp only[headR,headE];simp[*];done) | grind[headR,headE])
 refine xP ?_;exact(bcl hb.symm)))
 ·(
 first
 | (exact xQ hc)
 |(
 have hh:headE e=true:=by first | (simp only[headE];simp[*];done) | grind[headE]
 have hvb:vB e.bal=true:=by first | (simp[*];done) | grind
 refine xA (jaM e.prep) ?_;iterate 4 refine zW ?_
 refine zDr [] ?_;refine zT 0 ?_;refine zT 1 ?_;refine zT 2 ?_;refine zT 3 ?_;refine zT 4 ?_;refine zT 5 ?_;refine zT 6 ?_;refine zT 7 ?_;refine zT 8 ?_;refine zT 9 ?_;refine zT 10 ?_;refine zT 11 ?_;refine zE2 12 13 ?_ ?_
 rotate_left
 case' _ =>(
 refine zAl λb5=>?_;refine zW ?_;refine zOn 12 ?_;refine zAl λb4=>?_;refine zW ?_;refine zOn 14 ?_;iterate 2 refine zW ?_
 refine zOn 15 ?_
 iterate 3 refine zW ?_)
 rotate_right
 case' _ =>(
 refine zAl λb4=>?_;refine zW ?_;refine zOn 13 ?_;refine zAl λb5=>?_;refine zW ?_;refine zOn 14 ?_;iterate 2 refine zW ?_
 refine zOn 15 ?_
 iterate 3 refine zW ?_)
 all_goals (
 refine xC ?_ ?_<;>intro hc
 ·(
 have hk1:=qc hc;iterate 8 refine zW ?_
 iterate 5 all_goals first | refine zW ?_ | refine xG ?_ ?_<;>intro hg
 all_goals first | (refine zY ?_;refine jaa zRc (jdT e.prep) rfl rfl ?_) | refine zSk ?_
 iterate 3 all_goals refine zW ?_
 all_goals (
 refine xC ?_ ?_<;>intro hc
 ·(
 first
 | (exact xQ hc)
 |(
 iterate 9 refine zW ?_
 (refine zPi ?_;refine(bcl ?_))
 unfold vE;rw[hh,qx]
 first | (simp only[kindE,prepE,finB,optB,rngE];simp[*];done) | grind[kindE,prepE,finB,optB,rngE]))
 ·(
 first
 | (exact xQ hc)
 |(
 iterate 7 refine zW ?_
 refine xA (jaM e.prime) ?_;iterate 2 refine zW ?_
 iterate 4 all_goals first | refine zW ?_ | refine xG ?_ ?_<;>intro hg
 all_goals first | (refine zY ?_;refine jaa zRc (jdT e.prime) rfl rfl ?_) | refine zSk ?_
 iterate 7 all_goals first | refine zW ?_ | refine xG ?_ ?_<;>intro hg
 all_goals first | (refine zY ?_;refine jaa zRc (jc7 e.prime e.prep) rfl rfl ?_) | refine zSk ?_
 iterate 7 all_goals first | refine zW ?_ | refine xG ?_ ?_<;>intro hg
 all_goals first | (refine zY ?_;refine jaa zRc (jbb e.prime e.prep) rfl rfl ?_) | refine zSk ?_
 iterate 2 all_goals refine zW ?_
 all_goals (
 refine xC ?_ ?_<;>intro hc
 ·(
 first
 | (exact xQ hc)
 |(
 iterate 9 refine zW ?_
 (refine zPi ?_;refine(bcl ?_))
 unfold vE;rw[hh,qx]
 first | (simp only[kindE,prepE,finB,optB,rngE];simp[*];done) | grind[kindE,prepE,finB,optB,rngE]))
 ·(
 first
 | (exact xQ hc)
 |(
 iterate 9 refine zW ?_
 iterate 14 all_goals first | refine zW ?_ | refine xG ?_ ?_<;>intro hg
 all_goals (
 refine xC ?_ ?_<;>intro hc
 ·(
 first
 | (exact xQ hc)
 |(
 iterate 9 refine zW ?_
 (refine zPi ?_;refine(bcl ?_))
 unfold vE;rw[hh,qx]
 first | (simp only[kindE,prepE,finB,optB,rngE];simp[*];done) | grind[kindE,prepE,finB,optB,rngE]))
 ·(
 first
 | (exact xQ hc)
 |(
 iterate 9 refine zW ?_
 iterate 5 all_goals first | refine zW ?_ | refine xG ?_ ?_<;>intro hg
 all_goals first | (refine zY ?_;refine jaa zRc (jhk e.prep e.prime (at_ e e.high)) rfl rfl ?_) | refine zSk ?_
 iterate 2 all_goals refine zW ?_
 all_goals (
 refine xC ?_ ?_<;>intro hc
 ·(
 first
 | (exact xQ hc)
 |(
 iterate 9 refine zW ?_
 (refine zPi ?_;refine(bcl ?_))
 unfold vE;rw[hh,qx]
 first | (simp only[kindE,prepE,finB,optB,rngE];simp[*];done) | grind[kindE,prepE,finB,optB,rngE]))
 ·(
 first
 | (exact xQ hc)
 |(
 iterate 8 refine zW ?_
 iterate 3 all_goals first | refine zW ?_ | refine xG ?_ ?_<;>intro hg
 all_goals first | (refine zY ?_;refine jaa zRc (jfc e.prep (at_ e e.low)) rfl rfl ?_) | refine zSk ?_
 iterate 5 all_goals first | refine zW ?_ | refine xG ?_ ?_<;>intro hg
 all_goals first | (refine zY ?_;refine jaa zRc (jfc e.prime (at_ e e.low)) rfl rfl ?_) | refine zSk ?_
 iterate 4 all_goals refine zW ?_
 all_goals (
 refine xP ?_;refine(bcl ?_);unfold vE;rw[hh,qx]
 first | (simp only[kindE,prepE,finB,optB,rngE];simp[*];done) | grind[kindE,prepE,finB,optB,rngE]))))))))))))))
 ·(
 have hk1:=qd hc;refine xC ?_ ?_<;>intro hc
 ·(
 have hk2:=qc hc;iterate 7 refine zW ?_
 iterate 2 all_goals first | refine zW ?_ | refine xG ?_ ?_<;>intro hg
 all_goals first | (refine zY ?_;refine jaa zRc (jdT e.prep) rfl rfl ?_) | refine zSk ?_
 iterate 6 all_goals first | refine zW ?_ | refine xG ?_ ?_<;>intro hg
 all_goals first | (refine zY ?_;refine jaa zRc (jbb e.prep e.bal) rfl rfl ?_) | refine zSk ?_
 iterate 4 all_goals first | refine zW ?_ | refine xG ?_ ?_<;>intro hg
 all_goals first | (refine zY ?_;refine jaa zRc (jaM e.prime) rfl rfl ?_) | refine zSk ?_
 iterate 27 all_goals first | refine zW ?_ | refine xG ?_ ?_<;>intro hg
 all_goals (
 refine xP ?_;refine(bcl ?_);unfold vE;rw[hh,qx]
 simp only[kindE,prepE,finB,optB,rngE];simp[*];done))
 ·(
 have hk2:=qd hc;refine xC ?_ ?_<;>intro hc
 ·(
 have hk3:=qc hc;iterate 4 refine zW ?_
 iterate 2 all_goals first | refine zW ?_ | refine xG ?_ ?_<;>intro hg
 all_goals first | (refine zY ?_;refine jaa zRc (jaM e.prime) rfl rfl ?_) | refine zSk ?_
 iterate 19 all_goals first | refine zW ?_ | refine xG ?_ ?_<;>intro hg
 all_goals (
 refine xP ?_;refine(bcl ?_);unfold vE;rw[hh,qx]
 simp only[kindE,prepE,finB,optB,rngE];simp[*];done))
 ·(
 have hk3:=qd hc;refine xP ?_;refine(bcl ?_);unfold vE;rw[hh,qx]
 simp only[kindE,prepE,finB,optB,rngE];simp[*];done)))))))
theorem jxY(e:Evp)(hs:sizeT e.t<=1000000000)(b:Bal):C0 293 [ev e,bv b] (.b (apR e b)):=by
 refine xI Tryz.func293 Tryz.call293 λhcap=>?_;refine xX λb2=>?_;refine zBx λb3=>?_;refine xA (jaA e hs) ?_;iterate 2 refine zW ?_
 all_goals refine xG ?_ ?_<;>intro hg
 all_goals first | (refine zY ?_;refine jaa zRc (jaM b) rfl rfl ?_) | refine zSk ?_
 all_goals refine zW ?_
 all_goals (
 refine xC ?_ ?_<;>intro hc
 ·(
 first
 | (exact xQ hc)
 |(
 iterate 7 refine zW ?_
 (refine zPi ?_;refine(bcl ?_))
 first | rfl | (simp only[apR];simp[*];done) | grind[apR]))
 ·(
 first
 | (exact xQ hc)
 |(
 iterate 10 refine zW ?_
 refine zC (λhc=>?_) λhc=>?_
 ·(
 refine xA (jbb e.bal b) ?_;refine xP ?_;refine(bcl ?_)
 grind[apR])
 ·(
 refine xA (jhk e.prep e.prime b) ?_;refine xP ?_;refine(bcl ?_)
 grind[apR]))))
theorem jxm(e:Evp)(hs:sizeT e.t<=1000000000)(b:Bal):C0 294 [ev e,bv b] (.b (vpR e b)):=by
 refine xI Tryz.func294 Tryz.call294 λhcap=>?_;refine xX λb2=>?_;refine zBx λb3=>?_;refine xA (jaA e hs) ?_;iterate 2 refine zW ?_
 all_goals refine xG ?_ ?_<;>intro hg
 all_goals first | (refine zY ?_;refine jaa zRc (jaM b) rfl rfl ?_) | refine zSk ?_
 all_goals refine zW ?_
 all_goals (
 refine xC ?_ ?_<;>intro hc
 ·(
 first
 | (exact xQ hc)
 |(
 iterate 7 refine zW ?_
 (refine zPi ?_;refine(bcl ?_))
 first | rfl | (simp only[vpR];simp[*];done) | grind[vpR]))
 ·(
 first
 | (exact xQ hc)
 |(
 iterate 10 refine zW ?_
 refine zC (λhc=>?_) λhc=>?_
 ·(
 refine xA (jeh e.bal b) ?_;refine xP ?_;refine(bcl ?_)
 grind[vpR])
 ·(
 refine xA (jbb e.bal b) ?_;refine xP ?_;refine(bcl ?_)
 grind[vpR]))))
theorem jxp(e:Evp)(hs:sizeT e.t<=1000000000)(v:Str)(lo hi:Int):C0 295 [ev e,.v (.string v),.i lo,.i hi] (.b (acR e v lo hi)):=by
 refine xI Tryz.func295 Tryz.call295 λhcap=>?_;refine xX λb4=>?_;refine xA (jaA e hs) ?_;iterate 2 refine zW ?_
 iterate 26 all_goals first | refine zW ?_ | refine xG ?_ ?_<;>intro hg
 all_goals (
 refine xC ?_ ?_<;>intro hc
 ·(
 first
 | (exact xQ hc)
 |(
 iterate 7 refine zW ?_
 (refine zPi ?_;refine(bcl ?_))
 first | rfl | (simp only[acR];simp_all;done) | (simp only[acR];simp_all;omega)))
 ·(
 first
 | (exact xQ hc)
 |(
 iterate 8 refine zW ?_
 iterate 6 all_goals first | refine zW ?_ | refine xG ?_ ?_<;>intro hg
 all_goals (
 refine xP ?_;refine(bcl ?_)
 first | rfl | (simp only[acR];simp_all;done)))))
theorem jx5(e:Evp)(hs:sizeT e.t<=1000000000)(v:Str)(lo hi:Int):C0 296 [ev e,.v (.string v),.i lo,.i hi] (.b (vcR e v lo hi)):=by
 refine xI Tryz.func296 Tryz.call296 λhcap=>?_;refine xX λb4=>?_;refine xA (jaA e hs) ?_;iterate 2 refine zW ?_
 iterate 26 all_goals first | refine zW ?_ | refine xG ?_ ?_<;>intro hg
 all_goals (
 refine xC ?_ ?_<;>intro hc
 ·(
 first
 | (exact xQ hc)
 |(
 iterate 7 refine zW ?_
 (refine zPi ?_;refine(bcl ?_))
 first | rfl | (simp only[vcR];simp_all;done) | (simp only[vcR];simp_all;omega)))
 ·(
 first
 | (exact xQ hc)
 |(
 iterate 8 refine zW ?_
 iterate 6 all_goals first | refine zW ?_ | refine xG ?_ ?_<;>intro hg
 all_goals (
 refine xP ?_;refine(bcl ?_)
 first | rfl | (simp only[vcR];simp_all;done)))))
theorem jdC(e:Evp)(hs:sizeT e.t<=1000000000):C0 240 [ev e] (.i (cntR e)):=by
 refine xI Tryz.func240 Tryz.call240 λhcap=>?_;refine xX λb1=>?_;refine xA (jaA e hs) ?_;refine xC ?_ ?_<;>intro hc
 ·(
 have hv:vE e=false:=jaw hc;refine xP ?_;refine(icl ?_);unfold cntR
 rw[qe (by rw[hv];decide)];done)
 ·(
 have hv:vE e=true:=jav hc;refine xC ?_ ?_<;>intro hc
 ·(
 have h3:=qc hc;refine xP ?_;refine(icl ?_);unfold cntR
 rw[qf hv];unfold cntE;rw[qf h3];done)
 ·(
 have h3:=qd hc;refine xP ?_;refine(icl ?_);unfold cntR
 rw[qf hv];unfold cntE;rw[qe h3];done))
theorem jmw(e f:Evp):C0 198 [ev e,ev f] (.b (sameE e f)):=by
 refine xI Tryz.func198 Tryz.call198 λhcap=>?_;refine xX λb2=>?_;refine zBx λb3=>?_;iterate 11 refine zW ?_
 iterate 18 all_goals first | refine zW ?_ | refine xG ?_ ?_<;>intro hg
 all_goals first | (refine zY ?_;refine jaa zRc (jcd e.t f.t) rfl rfl ?_) | refine zSk ?_
 iterate 13 all_goals first | refine zW ?_ | refine xG ?_ ?_<;>intro hg
 all_goals first | (refine zY ?_;refine zP (jej rfl zRc rfl zRc (jvL _ _ _ _)) ?_) | refine zSk ?_
 iterate 6 all_goals first | refine zW ?_ | refine xG ?_ ?_<;>intro hg
 all_goals first | (refine zY ?_;refine zP (jej rfl zRc rfl zRc (jvL _ _ _ _)) ?_) | refine zSk ?_
 iterate 6 all_goals first | refine zW ?_ | refine xG ?_ ?_<;>intro hg
 all_goals first | (refine zY ?_;refine zP (jej rfl zRc rfl zRc (jvL _ _ _ _)) ?_) | refine zSk ?_
 iterate 16 all_goals first | refine zW ?_ | refine xG ?_ ?_<;>intro hg
 all_goals (
 refine xP ?_;refine(bcl ?_)
 first | rfl | (simp only[sameE,beqB];simp[*];done))
theorem jgB{α:Type}(l:List α)(k:Nat)(d:α):∃y,k<l.length->l[k]?=some y:=by
 by_cases h:k<l.length
 ·exact⟨l[k],λ_=>ze h⟩
 ·exact⟨d,λh'=>qp h' h⟩
theorem jc5{α:Type}(f:α->D)(l:List α)(x:α)(k j:Nat):(List.take k (l.map f)++[f x])++List.drop j (l.map f)=(l.take k++[x]++l.drop j).map f:=by simp[List.map_take,List.map_drop]
theorem joQ(l:List Bal)(hlen:l.length<=1000)(b:Bal):C0 287 [.sl 2 (l.map bv),bv b] (.sl 2 ((intoV l b).map bv)):=by
 refine xI Tryz.func287 Tryz.call287 λhcap=>?_;have hml:(l.map bv).length=l.length:=by simp
 refine xX λb3=>?_;refine xA (jaM b) ?_;refine xC ?_ ?_<;>intro hc
 ·(
 have hbz:zB b=true:=hc;refine xP ?_
 rw[jwE hbz];rfl)
 ·(
 have hbz:zB b=false:=hc;iterate 9 refine zW ?_
 refine jah [0,3] [.box b3 _ _] (λ(k:Nat) r=>(5,.i (k:Int))::r) (λk r=>r) (λk=>k<=l.length/\posG (λx=>lB b x) (l.drop k)+k=posG (λx=>lB b x) l) (λk=>l.length - k) (0) zRc ⟨by omega,by simp⟩ (zWk) ?_;intro k ⟨hk,hI⟩;obtain⟨y,hy⟩:=jgB l k b;iterate 2 refine zW ?_
 refine zDr [] ?_;refine zT 0 ?_;refine zT 1 ?_;refine zT 2 ?_;refine zT 3 ?_;refine zT 4 ?_;refine jai 4 rfl (λhg=>?_) λhg=>?_
 rotate_left
 case' _ =>(
 refine zK 5 ?_;refine zK 6 ?_;refine zK 7 ?_;refine zK 8 ?_;refine zK 9 ?_;refine zK 10 ?_;refine zT 11 ?_
 refine zW ?_)
 rotate_right
 case' _ =>(
 refine zT 5 ?_;refine zT 6 ?_;refine zT 7 ?_;refine jam 8 rfl zGd zKr zKr zKr (AP.ar (jap (k:=k) rfl rfl rfl rfl zd rfl (jad bv (hy (by have h9:decide ((k:Int)<((l.map bv).length:Int))=true:=(by first | with_reducible assumption | exact hg);have:=qc h9;simp only[qw] at this;omega))))) rfl rfl ?_;refine zT 9 ?_;refine zOn 10 ?_;refine xA (jc7 b y) ?_;refine zW ?_;refine zT 11 ?_
 refine zW ?_)
 all_goals (
 refine xC ?_ ?_<;>intro hc
 ·(
 first
 | (exact xQ hc)
 |(
 iterate 10 refine zW ?_
 have hlt:k<l.length:=by have h9:decide ((k:Int)<((l.map bv).length:Int))=true:=(by first | with_reducible assumption | exact hg | exact hc);have:=qc h9;omega
 rw[jfz (lt:=λx=>lB b x) (hy hlt) (show lB b y=true by first | with_reducible assumption | exact hc)] at hI
 refine⟨k+1,⟨by omega,by omega⟩,by omega,zWk⟩))
 ·(
 first
 | (exact xQ hc)
 |(
 have hpos:posG (λx=>lB b x) l=k:=by first | (have h9:decide ((k:Int)<((l.map bv).length:Int))=false:=(by first | with_reducible assumption | exact hg | exact hc);have:=qd h9;rw[jdy zo] at hI;omega) | (have h9:lB b y=false:=(by first | with_reducible assumption | exact hg | exact hc);rw[jcN (lt:=λx=>lB b x) (hy (by have h8:decide ((k:Int)<((l.map bv).length:Int))=true:=(by first | with_reducible assumption | exact hg | exact hc);have:=qc h8;omega)) h9] at hI;omega)
 iterate 7 refine zW ?_
 refine zDr [] ?_;refine zT 0 ?_;refine zT 1 ?_;refine zT 2 ?_;refine zT 3 ?_;refine zT 4 ?_;refine jai 4 rfl (λhg=>?_) λhg=>?_
 rotate_left
 case' _ =>(
 refine zK 5 ?_;refine zK 6 ?_;refine zK 7 ?_;refine zK 8 ?_;refine zK 9 ?_;refine zK 10 ?_;refine zT 11 ?_
 refine zW ?_)
 rotate_right
 case' _ =>(
 refine zT 5 ?_;refine zT 6 ?_;refine jam 7 rfl zGd zKr zKr zKr (AP.ar (jap (k:=k) rfl rfl rfl rfl zd rfl (jad bv (hy (by have h9:decide ((k:Int)<((l.map bv).length:Int))=true:=(by first | with_reducible assumption | exact hg);have:=qc h9;simp only[qw] at this;omega))))) rfl rfl ?_;refine zT 8 ?_;refine zT 9 ?_;refine jam 10 rfl zGd zKr zKr zKr (AP.ar (jej rfl zRc rfl zRc (jvL _ _ _ _))) rfl rfl ?_;refine zT 11 ?_
 refine zW ?_)
 all_goals (
 refine xC ?_ ?_<;>intro hc
 ·(
 first
 | (exact xQ hc)
 |(
 have he9:intoV l b=l:=by rw[jqR hbz];exact jrm hpos (hy (by have h8:decide ((k:Int)<((l.map bv).length:Int))=true:=(by first | with_reducible assumption | exact hg);have:=qc h8;omega)) hc
 refine xP ?_
 rw[he9];rfl))
 ·(
 first
 | (exact xQ hc)
 |(
 have he9:intoV l b=l.take k++[b]++l.drop k:=by
  rw[jqR hbz];refine jnq hpos (λz hz=>?_)
  first | (have h9:decide ((k:Int)<((l.map bv).length:Int))=false:=(by first | with_reducible assumption | exact hg);have:=qd h9;rw[List.getElem?_eq_none zo] at hz;cases hz) | (have h8:decide ((k:Int)<((l.map bv).length:Int))=true:=(by first | with_reducible assumption | exact hg);have:=qc h8;have hyk:=hy zo;rw[hyk] at hz;cases hz;exact hc)
 iterate 3 refine zW ?_
 refine zDr [] ?_;refine zT 0 ?_;refine zT 1 ?_;refine zT 2 ?_;refine zT 4 ?_;refine zT 7 ?_;refine zT 8 ?_;refine zT 9 ?_;refine zE2 3 5 ?_ ?_
 rotate_left
 case' _ =>(
 refine xLt 53 2 24 ?_;refine zW ?_;refine zOn 3 ?_
 first | refine xEa 53 2 24 (hb:=xLb) λv39 hv39=>?_ | refine xEn 53 2 24 (hb:=xLb) λv39 hv39=>?_
 refine zW ?_;refine zOn 6 ?_;refine xEa 53 2 24 (hb:=xLb) λv42 hv42=>?_;refine zW ?_;refine zOn 10 ?_;refine xEa 53 2 24 (hb:=xLb) λv46 hv46=>?_;refine zW ?_;refine zT 11 ?_
 refine zW ?_)
 rotate_right
 case' _ =>(
 first | refine xEa 53 2 24 (hb:=xLb) λv39 hv39=>?_ | refine xEn 53 2 24 (hb:=xLb) λv39 hv39=>?_
 refine zW ?_;refine zOn 5 ?_;refine xLt 53 2 24 ?_;refine zW ?_;refine zOn 6 ?_;refine xEa 53 2 24 (hb:=xLb) λv42 hv42=>?_;refine zW ?_;refine zOn 10 ?_;refine xEa 53 2 24 (hb:=xLb) λv46 hv46=>?_;refine zW ?_;refine zT 11 ?_
 refine zW ?_)
 all_goals (
 refine zW ?_;rw[show D.agg [.i b.n,.v (.string b.v)]=bv b from rfl,List.nil_append,jc5];refine zFz v46 [4] ?_;refine xP ?_
 rw[he9];rfl))))))))
def strv(s:Str):D:=.v (.string s)
theorem jnl(e:Evp):(ownB e).length<=3:=by unfold ownB;split<;>simp
theorem jbY:∀(ys:List Bal)(q:List Bal),(ys.foldl intoV q).length<=q.length+ys.length
 | [],q=>by simp
 | y::r,q=>by
  have h1:=jbY r (intoV q y);have h2:=jsh (l:=q) (b:=y);simp only[List.foldl_cons,qi];omega
theorem jh3{ys:List Bal}{j:Nat}{y:Bal}{q:List Bal}(h:ys[j]?=some y):(ys.take (j+1)).foldl intoV q=intoV ((ys.take j).foldl intoV q) y:=by
 rw[List.take_add_one,h];simp
theorem jfT(l:List Evp)(hlen:l.length<=100)(hl:∀e∈l,sizeT e.t<=1000000000):C0 273 [.sl 15 (l.map ev)] (.sl 2 ((ballotsV l).map bv)):=by
 refine xI Tryz.func273 Tryz.call273 λhcap=>?_;have hml:(l.map ev).length=l.length:=by simp
 iterate 12 refine zW ?_
 refine jak [0,3] 2 rfl jcb jcr ?_;refine xN λ_=>?_;iterate 4 refine zW ?_
 refine jag [9,10] [] (λ(k:Nat)(q:List Bal) r=>(3,.sl 2 (q.map bv))::(11,.i (k:Int))::r) (λk q r=>r) (λk q=>k<=l.length/\q.length<=3 * k/\ballotsGo (l.drop k) q=ballotsV l) (λk q=>l.length - k) (0) ([]) zRc ⟨by omega,by simp,by simp[ballotsV]⟩ (zWk) ?_;intro k q ⟨hk,hql,hI⟩;refine xC ?_ ?_<;>intro hc
 ·(
 have hlt:=qc hc;obtain⟨x,hx,hd⟩:=jab (l:=l) (k:=k) zo;have hx':=jad ev hx;have hxs:=hl x (qk hx);refine xL λb5=>?_;refine xA (jaA x hxs) ?_;refine xC ?_ ?_<;>intro hc
 ·(
 have hvn:vE x=false:=jaw hc;iterate 9 refine zW ?_
 rw[hd] at hI;simp only[ballotsGo] at hI
 rw[qe (by rw[hvn];decide)] at hI;refine⟨k+1,q,⟨by omega,by omega,hI⟩,by omega,zWk⟩)
 ·(
 have hve:vE x=true:=jav hc;iterate 10 refine zW ?_
 refine xLt 53 2 24 ?_;refine xC ?_ ?_<;>intro hc
 ·(
 have hk1:=jaf hc;iterate 7 refine zW ?_
 refine xLt 53 2 24 ?_;iterate 4 refine zW ?_
 obtain⟨ys,hys⟩:∃ys:List Bal,ys=ownB x:=⟨_,rfl⟩
 have hysl:ys.length<=3:=by rw[hys];exact jnl x
 rw[show [D.agg [.i x.prep.n,.v (.string x.prep.v)],D.agg [.i 1000000,.v (.string x.bal.v)]]=ys.map bv from by rw[hys];unfold ownB;rw[qe hk1];rfl];have hym:(ys.map bv).length=ys.length:=by simp
 refine xN λ_=>?_;iterate 4 refine zW ?_
 refine jah [9,10,11,35,36] [] (λ(j:Nat) r=>(3,.sl 2 (((ys.take j).foldl intoV q).map bv))::(37,.i (j:Int))::r) (λj r=>r) (λj=>j<=ys.length) (λj=>ys.length - j) (0) zRc zo (zWk) ?_;intro j hj;have hfl:=jbY (ys.take j) q;have htl:(ys.take j).length<=3:=by rw[List.length_take];omega
 refine xC ?_ ?_<;>intro hc
 ·(
 have hlt2:=qc hc;obtain⟨y,hy,_⟩:=jab (l:=ys) (k:=j) zo;have hy':=jad bv hy;refine xL λb8=>?_;refine xA (joQ ((ys.take j).foldl intoV q) zo y) ?_;iterate 9 refine zW ?_
 rw[<-jh3 hy]
 refine⟨j+1,by omega,by omega,zWk⟩)
 ·(
 have hge2:=qd hc;iterate 11 refine zW ?_
 rw[hd] at hI;simp only[ballotsGo] at hI
 have hj9:(j:Nat)=j:=rfl;rw[qf hve,<-hys] at hI;have hyf:=jbY ys q;rw[qC zo];refine⟨k+1,ys.foldl intoV q,⟨by omega,by omega,hI⟩,by omega,zWk⟩))
 ·(
 have hk1:=jac hc;iterate 3 refine zW ?_
 obtain⟨ys,hys⟩:∃ys:List Bal,ys=ownB x:=⟨_,rfl⟩
 have hysl:ys.length<=3:=by rw[hys];exact jnl x
 rw[show [D.agg [.i x.bal.n,.v (.string x.bal.v)],D.agg [.i x.prep.n,.v (.string x.prep.v)],D.agg [.i x.prime.n,.v (.string x.prime.v)]]=ys.map bv from by rw[hys];unfold ownB;rw[qf hk1];rfl];have hym:(ys.map bv).length=ys.length:=by simp
 refine xN λ_=>?_;iterate 4 refine zW ?_
 refine jah [9,10,11,35,36] [] (λ(j:Nat) r=>(3,.sl 2 (((ys.take j).foldl intoV q).map bv))::(37,.i (j:Int))::r) (λj r=>r) (λj=>j<=ys.length) (λj=>ys.length - j) (0) zRc zo (zWk) ?_;intro j hj;have hfl:=jbY (ys.take j) q;have htl:(ys.take j).length<=3:=by rw[List.length_take];omega
 refine xC ?_ ?_<;>intro hc
 ·(
 have hlt2:=qc hc;obtain⟨y,hy,_⟩:=jab (l:=ys) (k:=j) zo;have hy':=jad bv hy;refine xL λb8=>?_;refine xA (joQ ((ys.take j).foldl intoV q) zo y) ?_;iterate 9 refine zW ?_
 rw[<-jh3 hy]
 refine⟨j+1,by omega,by omega,zWk⟩)
 ·(
 have hge2:=qd hc;iterate 11 refine zW ?_
 rw[hd] at hI;simp only[ballotsGo] at hI
 have hj9:(j:Nat)=j:=rfl;rw[qf hve,<-hys] at hI;have hyf:=jbY ys q;rw[qC zo];refine⟨k+1,ys.foldl intoV q,⟨by omega,by omega,hI⟩,by omega,zWk⟩))))
 ·(
 have hge:=qd hc;rw[jae zo] at hI;simp only[ballotsGo] at hI;refine xP ?_
 rw[<-hI];rfl)
theorem jfk{ys:List Int}{j:Nat}{y:Int}{q:List Int}(h:ys[j]?=some y):(ys.take (j+1)).foldl intoI q=intoI ((ys.take j).foldl intoI q) y:=by
 rw[List.take_add_one,h];simp
theorem arr2(a b:Int){i:Nat}(h:i<2):∃z,SubL [D.i a,D.i b] (i * 1) 1 [D.i z]/\[a,b][i]?=some z:=by
 have:i=0\/i=1:=by omega
 rcases this with rfl | rfl
 ·exact⟨a,by repeat constructor,rfl⟩
 ·exact⟨b,by repeat constructor,rfl⟩
theorem jma(l:List Evp)(hlen:l.length<=100)(hl:∀e∈l,sizeT e.t<=1000000000):C0 277 [.sl 15 (l.map ev)] (.sl 1 ((valuesV l).map strv)):=by
 refine xI Tryz.func277 Tryz.call277 λhcap=>?_;have hml:(l.map ev).length=l.length:=by simp
 iterate 12 refine zW ?_
 refine jak [0,3] 1 rfl jcb jcr ?_;refine xN λ_=>?_;iterate 4 refine zW ?_
 refine jag [7,8] [] (λ(i:Nat)(q:List Str) r=>(3,.sl 1 (q.map strv))::(9,.i (i:Int))::r) (λi q r=>r) (λi q=>i<=l.length/\q.length<=i/\valuesGo (l.drop i) q=valuesV l) (λi q=>l.length - i) (0) ([]) zRc ⟨by omega,by simp,by simp[valuesV]⟩ (zWk) ?_;intro i q ⟨hi,hql,hI⟩;have hqm:(q.map strv).length=q.length:=by simp
 refine xC ?_ ?_<;>intro hc
 ·(
 have hlt:=qc hc;obtain⟨x,hx,hd⟩:=jab (l:=l) (k:=i) zo;have hx':=jad ev hx;have hxs:=hl x (qk hx);refine xL λb5=>?_;refine xA (jaA x hxs) ?_;refine xC ?_ ?_<;>intro hc
 ·(
 have hvn:vE x=false:=jaw hc;iterate 4 refine zW ?_
 skip;iterate 5 refine zW ?_
 rw[hd] at hI;simp only[valuesGo] at hI;have hil:(intoS q x.bal.v).length<=q.length+1:=jdR
 rw[qe (by rw[hvn];decide)] at hI;refine⟨i+1,q,⟨by omega,by omega,hI⟩,by omega,zWk⟩)
 ·(
 have hve:vE x=true:=jav hc;iterate 9 refine zW ?_
 refine jah [3,5,7,8,9] [.box b5 _ _] (λ(k:Nat) r=>(6,.i (k:Int))::r) (λk r=>r) (λk=>k<=q.length/\posG (λy=>decide (cV y x.bal.v<0)) (q.drop k)+k=posG (λy=>decide (cV y x.bal.v<0)) q) (λk=>q.length - k) (0) zRc ⟨by omega,by simp⟩ (zWk) ?_;intro k ⟨hk,hJ⟩;obtain⟨y,hy⟩:=jgB q k x.bal.v;iterate 2 refine zW ?_
 refine zDr [] ?_;refine zT 0 ?_;refine zT 1 ?_;refine zT 2 ?_;refine zT 3 ?_;refine zT 4 ?_;refine jai 4 rfl (λhg=>?_) λhg=>?_
 rotate_left
 case' _ =>(
 refine zK 5 ?_;refine zK 6 ?_;refine zK 7 ?_;refine zK 8 ?_;refine zK 9 ?_;refine zK 10 ?_;refine zK 11 ?_;refine zK 12 ?_;refine zT 13 ?_
 refine zW ?_)
 rotate_right
 case' _ =>(
 refine zT 5 ?_;refine zT 6 ?_;refine jam 7 rfl zGd zKr zKr zKr (AP.ar (jap (k:=k) rfl rfl rfl rfl zd rfl (jad strv (hy (by have h9:decide ((k:Int)<((q.map strv).length:Int))=true:=(by first | with_reducible assumption | exact hg);have:=qc h9;simp only[qw] at this;omega))))) rfl rfl ?_;refine zT 8 ?_;refine zT 9 ?_;refine zT 10 ?_;refine zT 11 ?_;refine zOn 12 ?_;refine xA (jsQ y x.bal.v) ?_;refine zW ?_;refine zT 13 ?_
 refine zW ?_)
 all_goals (
 refine xC ?_ ?_<;>intro hc
 ·(
 first
 | (exact xQ hc)
 |(
 iterate 10 refine zW ?_
 have hlt:k<q.length:=by have h9:decide ((k:Int)<((q.map strv).length:Int))=true:=(by first | with_reducible assumption | exact hg | exact hc);have:=qc h9;omega
 rw[jfz (lt:=(λy=>decide (cV y x.bal.v<0))) (hy hlt) (show decide (cV y x.bal.v<0)=true by first | with_reducible assumption | exact hc)] at hJ
 refine⟨k+1,⟨by omega,by omega⟩,by omega,zWk⟩))
 ·(
 first
 | (exact xQ hc)
 |(
 have hpos:posG (λy=>decide (cV y x.bal.v<0)) q=k:=by first | (have h9:decide ((k:Int)<((q.map strv).length:Int))=false:=(by first | with_reducible assumption | exact hg | exact hc);have:=qd h9;rw[jdy zo] at hJ;omega) | (rw[jcN (lt:=(λy=>decide (cV y x.bal.v<0))) (hy (by have h8:decide ((k:Int)<((q.map strv).length:Int))=true:=(by first | with_reducible assumption | exact hg | exact hc);have:=qc h8;omega)) (show decide (cV y x.bal.v<0)=false by first | with_reducible assumption | exact hc | exact hg)] at hJ;omega)
 iterate 6 refine zW ?_
 refine zDr [] ?_;refine zT 0 ?_;refine zT 1 ?_;refine zT 2 ?_;refine zT 3 ?_;refine zT 4 ?_;refine jai 4 rfl (λhg=>?_) λhg=>?_
 rotate_left
 case' _ =>(
 refine zT 5 ?_;refine zT 6 ?_;refine jam 7 rfl zGd zKr zKr zKr (AP.ar (jap (k:=k) rfl rfl rfl rfl zd rfl (jad strv (hy (by have h9:decide ((k:Int)=((q.map strv).length:Int))=false:=(by first | with_reducible assumption | exact hg);have:=qd h9;simp only[qw] at this;omega))))) rfl rfl ?_;refine zT 8 ?_;refine zT 9 ?_;refine zT 10 ?_;refine zT 11 ?_;refine zT 12 ?_;refine zT 13 ?_
 refine zW ?_)
 rotate_right
 case' _ =>(
 refine zK 5 ?_;refine zK 6 ?_;refine zK 7 ?_;refine zK 8 ?_;refine zK 9 ?_;refine zK 10 ?_;refine zK 11 ?_;refine zK 12 ?_;refine zT 13 ?_
 refine zW ?_)
 all_goals (
 refine xC ?_ ?_<;>intro hc
 ·(
 first
 | (exact xQ hc)
 |(
 have he9:intoS q x.bal.v=q.take k++[x.bal.v]++q.drop k:=by
  refine jnq hpos (λz hz=>?_)
  first | (have h9:decide ((k:Int)=((q.map strv).length:Int))=true:=(by first | with_reducible assumption | exact hg);have:=qc h9;rw[List.getElem?_eq_none zo] at hz;cases hz) | (have h8:decide ((k:Int)=((q.map strv).length:Int))=false:=(by first | with_reducible assumption | exact hg);have:=qd h8;have hyk:=hy zo;rw[hyk] at hz;cases hz;exact jaw hc)
 refine zDr [] ?_;refine zT 0 ?_;refine zT 1 ?_;refine zT 2 ?_;refine zT 4 ?_;refine zT 5 ?_;refine zT 6 ?_;refine zT 9 ?_;refine zT 10 ?_;refine zT 11 ?_;refine zE2 3 7 ?_ ?_
 rotate_left
 case' _ =>(
 refine xLt 9 1 16 ?_;refine zW ?_;refine zOn 3 ?_
 first | refine xEa 9 1 16 (hb:=xLb) λv49 hv49=>?_ | refine xEn 9 1 16 (hb:=xLb) λv49 hv49=>?_
 refine zW ?_;refine zOn 8 ?_;refine xEa 9 1 16 (hb:=xLb) λv54 hv54=>?_;refine zW ?_;refine zOn 12 ?_;refine xEa 9 1 16 (hb:=xLb) λv58 hv58=>?_;refine zW ?_;refine zT 13 ?_
 refine zW ?_)
 rotate_right
 case' _ =>(
 first | refine xEa 9 1 16 (hb:=xLb) λv49 hv49=>?_ | refine xEn 9 1 16 (hb:=xLb) λv49 hv49=>?_
 refine zW ?_;refine zOn 7 ?_;refine xLt 9 1 16 ?_;refine zW ?_;refine zOn 8 ?_;refine xEa 9 1 16 (hb:=xLb) λv54 hv54=>?_;refine zW ?_;refine zOn 12 ?_;refine xEa 9 1 16 (hb:=xLb) λv58 hv58=>?_;refine zW ?_;refine zT 13 ?_
 refine zW ?_)
 all_goals (
 iterate 2 refine zW ?_
 rw[show D.v (.string x.bal.v)=strv x.bal.v from rfl,List.nil_append,jc5];refine zFz v58 [3,7,8,9] ?_;iterate 5 refine zW ?_
 rw[hd] at hI;simp only[valuesGo] at hI;have hil:(intoS q x.bal.v).length<=q.length+1:=jdR
 have h58:Value:=v58;rw[qf hve] at hI;rw[<-he9];refine⟨i+1,intoS q x.bal.v,⟨by omega,by omega,hI⟩,by omega,zWk⟩)))
 ·(
 first
 | (exact xQ hc)
 |(
 have he9:intoS q x.bal.v=q:=jrm hpos (hy (by have h8:decide ((k:Int)=((q.map strv).length:Int))=false:=(by first | with_reducible assumption | exact hg);have:=qd h8;omega)) (jav hc);iterate 3 refine zW ?_
 first | (rw[show D.v (.string x.bal.v)=strv x.bal.v from rfl,List.nil_append,jc5];refine zFz v58 [3,7,8,9] ?_) | skip
 iterate 5 refine zW ?_
 rw[hd] at hI;simp only[valuesGo] at hI;have hil:(intoS q x.bal.v).length<=q.length+1:=jdR
 first
 | (have h58:Value:=v58;rw[qf hve] at hI;rw[<-he9];refine⟨i+1,intoS q x.bal.v,⟨by omega,by omega,hI⟩,by omega,zWk⟩)
 | (rw[qf hve,he9] at hI;refine⟨i+1,q,⟨by omega,by omega,hI⟩,by omega,zWk⟩)))))))))
 ·(
 have hge:=qd hc;rw[jae zo] at hI;simp only[valuesGo] at hI;refine xP ?_
 rw[<-hI];rfl)
theorem jcl(l:List Evp)(hlen:l.length<=100)(hl:∀e∈l,sizeT e.t<=1000000000)(v:Str):C0 278 [.sl 15 (l.map ev),.v (.string v)] (.sl 1 ((boundsV l v).map .i)):=by
 refine xI Tryz.func278 Tryz.call278 λhcap=>?_;have hml:(l.map ev).length=l.length:=by simp
 iterate 12 refine zW ?_
 refine jak [0,1,5] 1 rfl jcb jcr ?_;refine xN λ_=>?_;iterate 4 refine zW ?_
 refine jag [1,11,12] [] (λ(i:Nat)(q:List Int) r=>(5,.sl 1 (q.map .i))::(13,.i (i:Int))::r) (λi q r=>r) (λi q=>i<=l.length/\q.length<=2 * i/\boundsGo v (l.drop i) q=boundsV l v) (λi q=>l.length - i) (0) ([]) zRc ⟨by omega,by simp,by simp[boundsV]⟩ (zWk) ?_;intro i q ⟨hi,hql,hI⟩;refine xC ?_ ?_<;>intro hc
 ·(
 have hlt:=qc hc;obtain⟨x,hx,hd⟩:=jab (l:=l) (k:=i) zo;have hx':=jad ev hx;have hxs:=hl x (qk hx);refine xL λb7=>?_;refine xA (jaA x hxs) ?_;iterate 2 refine zW ?_
 iterate 11 all_goals first | refine zW ?_ | refine xG ?_ ?_<;>intro hg
 all_goals (
 refine xC ?_ ?_<;>intro hc
 ·(
 first
 | (exact xQ hc)
 |(
 have hin:(vE x&&(decide (x.bal.v=v)&&!decide (x.low=0)))=false:=by first | (simp_all;done) | grind
 iterate 9 refine zW ?_
 rw[hd] at hI;simp only[boundsGo] at hI
 first
 | (have hj9:q=q':=hq'.trans rfl;skip;fail)
 | (have hj9:=hq';rw[qf hin] at hI;have e2:q'=intoI (intoI q0 x.low) x.high:=(by rw[hq',qC (by simp;omega)];rfl);rw[<-e2] at hI;refine⟨i+1,q',⟨by omega,by omega,hI⟩,by omega,zWk⟩)
 | (rw[qe (by rw[hin];decide)] at hI;refine⟨i+1,q,⟨by omega,by omega,hI⟩,by omega,zWk⟩)))
 ·(
 first
 | (exact xQ hc)
 |(
 have hin:(vE x&&(decide (x.bal.v=v)&&!decide (x.low=0)))=true:=by first | (simp_all;done) | grind
 obtain⟨q0,hq0⟩:∃q0:List Int,q0=q:=⟨_,rfl⟩
 rw[<-hq0] at hI hql ⊢;iterate 13 refine zW ?_
 refine jag [1,11,12,13,36] [] (λ(j:Nat)(q:List Int) r=>(5,.sl 1 (q.map .i))::(37,.i (j:Int))::r) (λj q r=>r) (λj q=>j<=2/\q.length<=2 * i+j/\q=([x.low,x.high].take j).foldl intoI q0) (λj q=>2 - j) (0) (q0) zRc ⟨by omega,by omega,by simp⟩ (zWk) ?_;intro j q' ⟨hj,hql',hq'⟩;have hqm:(q'.map D.i).length=q'.length:=by simp
 refine xC ?_ ?_<;>intro hc
 ·(
 have hj2:=qc hc;obtain⟨z,hz,hz2⟩:=arr2 x.low x.high (i:=j) zo;iterate 6 refine zW ?_
 refine zP (jie (k:=j) rfl rfl rfl rfl rfl rfl zo hz) ?_;iterate 10 refine zW ?_
 refine jah [1,5,9,11,12,13,36,37] [] (λ(k:Nat) r=>(10,.i (k:Int))::r) (λk r=>r) (λk=>k<=q'.length/\posG (λy=>decide (y<z)) (q'.drop k)+k=posG (λy=>decide (y<z)) q') (λk=>q'.length - k) (0) zRc ⟨by omega,by simp⟩ (zWk) ?_;intro k ⟨hk,hJ⟩;obtain⟨y,hy⟩:=jgB q' k 0;refine xN λ_=>?_;iterate 2 refine zW ?_
 iterate 2 all_goals first | refine zW ?_ | refine xG ?_ ?_<;>intro hg
 all_goals first | (refine zY ?_;(refine zP (jap (k:=k) rfl rfl rfl rfl zd rfl (jad D.i (hy (by have h9:decide ((k:Int)<((q'.map D.i).length:Int))=true:=(by first | with_reducible assumption | exact hg);have:=qc h9;simp only[qw] at this;omega)))) ?_)) | refine zSk ?_
 iterate 4 all_goals refine zW ?_
 all_goals (
 refine xC ?_ ?_<;>intro hc
 ·(
 first
 | (exact xQ hc)
 |(
 iterate 10 refine zW ?_
 have hlt:k<q'.length:=by have h9:decide ((k:Int)<((q'.map D.i).length:Int))=true:=(by first | with_reducible assumption | exact hg | exact hc);have:=qc h9;omega
 rw[jfz (lt:=(λy=>decide (y<z))) (hy hlt) (show decide (y<z)=true by first | with_reducible assumption | exact hc)] at hJ
 refine⟨k+1,⟨by omega,by omega⟩,by omega,zWk⟩))
 ·(
 first
 | (exact xQ hc)
 |(
 have hpos:posG (λy=>decide (y<z)) q'=k:=by first | (have h9:decide ((k:Int)<((q'.map D.i).length:Int))=false:=(by first | with_reducible assumption | exact hg | exact hc);have:=qd h9;rw[jdy zo] at hJ;omega) | (rw[jcN (lt:=(λy=>decide (y<z))) (hy (by have h8:decide ((k:Int)<((q'.map D.i).length:Int))=true:=(by first | with_reducible assumption | exact hg | exact hc);have:=qc h8;omega)) (show decide (y<z)=false by first | with_reducible assumption | exact hc | exact hg)] at hJ;omega)
 refine xN λ_=>?_;iterate 2 refine zW ?_
 iterate 2 all_goals first | refine zW ?_ | refine xG ?_ ?_<;>intro hg
 all_goals first | (refine zY ?_;(refine zP (jap (k:=k) rfl rfl rfl rfl zd rfl (jad D.i (hy (by have h9:decide ((k:Int)=((q'.map D.i).length:Int))=false:=(by first | with_reducible assumption | exact hg);have:=qd h9;simp only[qw] at this;omega)))) ?_)) | refine zSk ?_
 iterate 4 all_goals refine zW ?_
 all_goals (
 refine xC ?_ ?_<;>intro hc
 ·(
 first
 | (exact xQ hc)
 |(
 have he9:intoI q' z=q'.take k++[z]++q'.drop k:=by
  refine jnq hpos (λu hu=>?_)
  first | (have h9:decide ((k:Int)=((q'.map D.i).length:Int))=true:=(by first | with_reducible assumption | exact hg);have:=qc h9;rw[List.getElem?_eq_none zo] at hu;cases hu) | (have h8:decide ((k:Int)=((q'.map D.i).length:Int))=false:=(by first | with_reducible assumption | exact hg);have:=qd h8;have hyk:=hy zo;rw[hyk] at hu;cases hu;exact jaw hc)
 refine zDr [] ?_;refine zT 0 ?_;refine zT 1 ?_;refine zT 2 ?_;refine zT 4 ?_;refine zT 7 ?_;refine zT 8 ?_;refine zT 9 ?_;refine zE2 3 5 ?_ ?_
 rotate_left
 case' _ =>(
 refine xLt 3 1 8 ?_;refine zW ?_;refine zOn 3 ?_
 first | refine xEa 3 1 8 (hb:=xLb) λv69 hv69=>?_ | refine xEn 3 1 8 (hb:=xLb) λv69 hv69=>?_
 refine zW ?_;refine zOn 6 ?_;refine xEa 3 1 8 (hb:=xLb) λv72 hv72=>?_;refine zW ?_;refine zOn 10 ?_;refine xEa 3 1 8 (hb:=xLb) λv76 hv76=>?_;refine zW ?_;refine zT 11 ?_
 refine zW ?_)
 rotate_right
 case' _ =>(
 first | refine xEa 3 1 8 (hb:=xLb) λv69 hv69=>?_ | refine xEn 3 1 8 (hb:=xLb) λv69 hv69=>?_
 refine zW ?_;refine zOn 5 ?_;refine xLt 3 1 8 ?_;refine zW ?_;refine zOn 6 ?_;refine xEa 3 1 8 (hb:=xLb) λv72 hv72=>?_;refine zW ?_;refine zOn 10 ?_;refine xEa 3 1 8 (hb:=xLb) λv76 hv76=>?_;refine zW ?_;refine zT 11 ?_
 refine zW ?_)
 all_goals (
 iterate 2 refine zW ?_
 rw[jc5 D.i];refine zFz v76 [1,5,11,12,13,36,37] ?_;iterate 5 refine zW ?_
 have hil:(intoI q' z).length<=q'.length+1:=jdR
 have h76:Value:=v76;rw[<-he9];refine⟨j+1,intoI q' z,⟨by omega,by omega,by rw[jfk hz2,<-hq']⟩,by omega,zWk⟩)))
 ·(
 first
 | (exact xQ hc)
 |(
 have he9:intoI q' z=q':=jrm hpos (hy (by have h8:decide ((k:Int)=((q'.map D.i).length:Int))=false:=(by first | with_reducible assumption | exact hg);have:=qd h8;omega)) (jav hc);iterate 3 refine zW ?_
 first | (rw[jc5 D.i];refine zFz v76 [1,5,11,12,13,36,37] ?_) | skip
 iterate 5 refine zW ?_
 have hil:(intoI q' z).length<=q'.length+1:=jdR
 first
 | (have h76:Value:=v76;rw[<-he9];refine⟨j+1,intoI q' z,⟨by omega,by omega,by rw[jfk hz2,<-hq']⟩,by omega,zWk⟩)
 | (refine⟨j+1,q',⟨by omega,by omega,by rw[jfk hz2,<-hq',he9]⟩,by omega,zWk⟩))))))))
 ·(
 have hj2:=qd hc;iterate 11 refine zW ?_
 rw[hd] at hI;simp only[boundsGo] at hI
 have hj9:=hq';rw[qf hin] at hI;have e2:q'=intoI (intoI q0 x.low) x.high:=(by rw[hq',qC (by simp;omega)];rfl);rw[<-e2] at hI;refine⟨i+1,q',⟨by omega,by omega,hI⟩,by omega,zWk⟩)))))
 ·(
 have hge:=qd hc;rw[jae zo] at hI;simp only[boundsGo] at hI;refine xP ?_
 rw[<-hI];rfl)
theorem jb1(c:List Mem)(v a:Int):C0 237 [cv c,.i v,.i a] (.b (confirmsC c v a)):=by
 refine xI Tryz.func237 Tryz.call237 λhcap=>?_;refine xX λb3=>?_;refine xA (jb8 c a) ?_;refine xA (jb6 _ _) ?_;refine xP ?_;exact rfl
theorem jy5{m:Nat}(h:m<1024):1023&&&(2^63 - 1 - m)=1023 - m:=by
 refine Nat.eq_of_testBit_eq λi=>?_;rw[Nat.testBit_and,show (1023:Nat) - m=2^10 - (m+1) from by omega,Nat.testBit_two_pow_sub_succ (n:=10) h,show (1023:Nat)=2^10 - 1 from rfl,Nat.testBit_two_pow_sub_one]
 by_cases hi:i<10
 ·rw[jgG h hi]
 ·simp[hi]
theorem jeX(c:List Mem)(v s:Int):C0 271 [cv c,.i v,.i s] (.b (blocksC c v s)):=by
 refine xI Tryz.func271 Tryz.call271 λhcap=>?_;refine xX λb3=>?_;refine xE (jbg s) λc8 hc8=>?_;iterate 2 refine zW ?_
 all_goals refine xG ?_ ?_<;>intro hg
 all_goals first | (refine zY ?_;refine jaa zRc (jcE c) rfl rfl ?_) | refine zSk ?_
 all_goals refine zW ?_
 all_goals first | (refine zY ?_;refine jbE zRc (jb6 (declC c) v) rfl rfl λc14 hc14=>?_) | refine zSk ?_
 iterate 2 all_goals refine zW ?_
 all_goals (
 refine xC ?_ ?_<;>intro hc
 ·(
 first
 | (exact xQ hc)
 |(
 iterate 7 refine zW ?_
 refine zPi ?_
 first | (rw[jsR (hc14.trans (jaw (c:=c14) zO))];rfl) | (rw[jst (hc8.trans (jaw (c:=c8) zO))];rfl)))
 ·(
 first
 | (exact xQ hc)
 |(
 have hv0:=hc8.trans (jav (c:=c8) zO);have hh0:=hc14.trans (jav hc);obtain⟨m,rfl,hm⟩:=jbJ hv0;obtain⟨j,x,rfl,hj,hx,_⟩:=jvh hh0;have hx':=jad mv hx;have hp:=jaL hj;have hxt:=jbp hx;have hsub:(1023:Int) - (m:Int)=((1023 - m:Nat):Int):=by omega
 have hand:1023 - m<1024:=by omega
 iterate 3 refine zW ?_
 refine zDr [] ?_;refine zT 0 ?_;refine zT 1 ?_;refine zT 2 ?_;refine jam 3 rfl zGd zKr zKr zKr (AP.ar (jap (k:=j) rfl rfl rfl rfl zd rfl hx')) rfl rfl ?_;refine zT 4 ?_;refine zT 5 ?_;refine zT 6 ?_;refine jam 7 rfl zGd zKr zKr zKr (AP.ar (jb3 (m:=((1023 - m:Nat):Int)) rfl rfl (by simp only[addI,qs];omega) zo)) rfl rfl ?_;refine zT 8 ?_;refine jam 9 rfl zGd zKr zKr zKr (AP.ar (jaZ (p:=1) rfl rfl rfl zo zo)) rfl rfl ?_;refine zT 10 ?_;refine zOn 11 ?_;refine xE (je3 _ x.t) λc28 hc28=>?_;refine zW ?_;refine zT 12 ?_;refine zT 13 ?_;refine zW ?_
 all_goals (
 refine xP ?_
 rw[jt5 hv0 hh0 hxt,show (1023&&&(2^63 - 1 - m))=1023 - m from jy5 zo,hc28];rfl))))
theorem jdf(c:List Mem)(v a b:Int):C0 256 [cv c,.i v,.i a,.i b] (.b (acceptsC c v a b)):=by
 refine xI Tryz.func256 Tryz.call256 λhcap=>?_;refine xX λb4=>?_;refine xE (jbg a) λc10 hc10=>?_;iterate 2 refine zW ?_
 all_goals refine xG ?_ ?_<;>intro hg
 all_goals first | (refine zY ?_;refine jbE zRc (jbg b) rfl rfl λc14 hc14=>?_) | refine zSk ?_
 iterate 2 all_goals refine zW ?_
 all_goals (
 refine xC ?_ ?_<;>intro hc
 ·(
 first
 | (exact xQ hc)
 |(
 iterate 7 refine zW ?_
 refine zPi ?_
 first | (rw[jo8 (hc14.trans (jaw (c:=c14) zO))];rfl) | (rw[jo6 (hc10.trans (jaw (c:=c10) zO))];rfl)))
 ·(
 first
 | (exact xQ hc)
 |(
 have hv0:=hc10.trans (jav (c:=c10) zO);have hw0:=hc14.trans (jav hc);obtain⟨m,rfl,hm⟩:=jbJ hv0;obtain⟨j,rfl,hj⟩:=jbJ hw0;refine xE (jeX c v _) λc20 hc20=>?_;refine zW ?_
 iterate 4 all_goals first | refine zW ?_ | refine xG ?_ ?_<;>intro hg
 all_goals first | (refine zY ?_;refine jaa zRc (jb8 c _) rfl rfl ?_) | refine zSk ?_
 all_goals refine zW ?_
 all_goals first | (refine zY ?_;refine jbE zRc (jb6 _ _) rfl rfl λc28 hc28=>?_) | refine zSk ?_
 iterate 2 all_goals refine zW ?_
 all_goals (
 refine xP ?_;rw[jto hv0 hw0,hc20]
 first | (rw[hc28,show c20=false by with_reducible assumption];rfl) | (rw[show c20=true by with_reducible assumption];rfl)))))
def setR:Nat->List Evp->List Bool->Nat
 | s,[],_=>s
 | s,e::r,[]=>setR s r []
 | s,e::r,o::os=>setR (if (o&&(decide (0<=e.node)&&decide (e.node<=9)))=true then s|||1 * 2^e.node.toNat else s) r os
theorem jvU{s:Nat}{r:List Evp}{o:Bool}{os:List Bool}(h:o=true)(hn:e.node=n)(h9:n<=9):setR s (e::r) (o::os)=setR (s|||1 * 2^n) r os:=by
 simp only[setR];rw[qf (by rw[h,hn];simp;omega),hn,qq]
theorem jzE{s:Nat}{r:List Evp}{o:Bool}{os:List Bool}(h:o=false\/¬(0<=e.node/\e.node<=9)):setR s (e::r) (o::os)=setR s r os:=by
 simp only[setR];rw[qe];intro h2;simp only[qh,qo] at h2;rcases h with h | h
 ·rw[h] at h2;cases h2.1
 ·exact h h2.2
theorem jtH(h:n<=9):IntKind.u64.wrap (n:Int)=(n:Int):=by
 have:n=0\/n=1\/n=2\/n=3\/n=4\/n=5\/n=6\/n=7\/n=8\/n=9:=by omega
 rcases this with h | h | h | h | h | h | h | h | h | h<;>subst h<;>decide
def bV(b:Bool):D:=.b b
theorem jdA(l:List Evp)(os:List Bool)(hlo:l.length=os.length):C0 242 [.sl 15 (l.map ev),.sl 1 (os.map bV)] (.i (setR 0 l os:Nat)):=by
 refine xI Tryz.func242 Tryz.call242 λhcap=>?_;have hml:(l.map ev).length=l.length:=by simp
 have hmo:(os.map bV).length=os.length:=by simp
 refine xN λ_=>?_;iterate 4 refine zW ?_
 refine jag [1,8,9] [] (λ(k:Nat)(s:Nat) r=>(5,.i (s:Int))::(10,.i (k:Int))::r) (λk s r=>r) (λk s=>k<=l.length/\s<1024/\setR s (l.drop k) (os.drop k)=setR 0 l os) (λk s=>l.length - k) (0) (0) zRc ⟨by omega,by omega,by simp⟩ (zWk) ?_;intro k s ⟨hk,hs,hI⟩;refine xC ?_ ?_<;>intro hc
 ·(
 have hlt:=qc hc;obtain⟨x,hx,hd⟩:=jab (l:=l) (k:=k) zo;have hx':=jad ev hx;obtain⟨o,ho,hd2⟩:=jab (l:=os) (k:=k) zo;have ho':=jad bV ho;refine xL λb7=>?_;refine xN λ_=>?_;iterate 2 refine zW ?_
 iterate 2 all_goals refine zW ?_
 all_goals (refine zY ?_;refine zP (jap (k:=k) rfl rfl rfl rfl zd rfl ho') ?_)
 iterate 12 all_goals first | refine zW ?_ | refine xG ?_ ?_<;>intro hg
 all_goals (
 refine xC ?_ ?_<;>intro hc
 ·(
 first
 | (exact xQ hc)
 |(
 obtain⟨n9,hn9,hn99⟩:∃n:Nat,x.node=n/\n<=9:=by have h1:=qc (show decide (x.node<=9)=true by first | with_reducible assumption | exact hc);have h2:=qc (show decide (x.node>=0)=true by first | with_reducible assumption | exact hg);exact⟨x.node.toNat,by omega,by omega⟩
 rw[hn9];have hpn:=jaL (k:=n9) zo;iterate 5 refine zW ?_
 (rw[jtH (by omega:n9<=9)];refine zP (jaZ (p:=1) rfl rfl rfl zo zo) ?_)
 iterate 10 refine zW ?_
 rw[hd,hd2] at hI
 have h9:Nat:=n9;rw[jvU zO hn9 hn99] at hI;refine⟨k+1,s|||1 * 2^n9,⟨by omega,jcw hs zo,hI⟩,by omega,zWk⟩))
 ·(
 first
 | (exact xQ hc)
 |(
 iterate 8 refine zW ?_
 rw[hd,hd2] at hI
 first
 | (have h9:Nat:=n9;rw[jvU zO hn9 hn99] at hI;refine⟨k+1,s|||1 * 2^n9,⟨by omega,jcw hs zo,hI⟩,by omega,zWk⟩)
 | (have hff:o=false\/¬(0<=x.node/\x.node<=9):=(by first | exact .inl zO | exact .inr (by have:=qd (show decide (x.node<=9)=false by with_reducible assumption);omega) | exact .inr (by have:=qd (show decide (x.node>=0)=false by with_reducible assumption);omega));rw[jzE hff] at hI;refine⟨k+1,s,⟨by omega,hs,hI⟩,by omega,zWk⟩)))))
 ·(
 have hge:=qd hc;rw[jae zo] at hI;refine xP ?_
 rw[<-hI];cases os.drop k<;>rfl)
theorem jnA(p:Evp->Bool):∀(l:List Evp)(s:Nat),setR s l (l.map p)=whoGo (λe=>p e&&(decide (0<=e.node)&&decide (e.node<=9))) l s
 | [],_=>rfl
 | e::r,s=>by
  simp only[List.map_cons,setR,whoGo];exact jnA p r _
theorem jgT(p:Evp->Bool)(l:List Evp):setR 0 l (l.map p)=setP p l:=jnA p l 0
theorem jlY:tmade Tryz.prog 101 (10 * 4)=some (List.replicate 10 zeroMem.cells.toList).flatten:=by kernel_rfl
theorem jvW{y:Mem}(hv:vE e=true)(hn:n=e.node.toNat)(hy:q[n]?=some y)(hd:y.decl=false):putE q e=q.set n ⟨true,e.t⟩:=by
 subst hn;unfold putE;rw[qf hv,hy];show (if y.decl=true then q else _)=_;rw[qe (by rw[hd];decide)]
theorem jwV(hv:vE e=false):putE q e=q:=by unfold putE;rw[qe (by rw[hv];decide)]
theorem jwO{y:Mem}(hv:vE e=true)(hn:n=e.node.toNat)(hy:q[n]?=some y)(hd:y.decl=true):putE q e=q:=by
 subst hn;unfold putE;rw[qf hv,hy];show (if y.decl=true then q else _)=_;rw[qf hd]
theorem jyI(h:q.length=10):∃y,n<10->q[n]?=some y:=by
 by_cases hn:n<10
 ·exact⟨q[n]'zo,λ_=>ze _⟩
 ·exact⟨⟨false,Trust.none⟩,λh=>qp h hn⟩
theorem jsz:(List.replicate 10 noMem)=nobody:=rfl
theorem jrT{node:Int}{t:Trust}{l:List Evp}(h:node<0\/10<=node):viewE node t l=nobody:=by unfold viewE;rw[qf h]
theorem juA{t:Trust}{l:List Evp}(h:n<10):viewE (n:Int) t l=putsE l (nobody.set n ⟨true,t⟩):=by unfold viewE;rw[qe zo,qq]
end Go.Proofs.YtgmpjpaekpefdaaGreat
