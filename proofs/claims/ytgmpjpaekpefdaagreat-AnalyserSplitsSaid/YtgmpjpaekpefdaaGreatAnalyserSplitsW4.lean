
import Derived.Test.YtgmpjpaekpefdaaGreatAnalyserSplitsW3
import Derived.Test.YtgmpjpaekpefdaaGreatProg
import Derived.KernelRfl
import Derived.Tactics
import Derived.Tactics2
import Derived.StillTactics
set_option linter.unusedVariables false
set_option linter.unusedSimpArgs false
set_option maxRecDepth 4000
set_option maxHeartbeats 8000000
namespace Go.Proofs.YtgmpjpaekpefdaaGreat
open Go Go.Av Go.Tq
variable{m:Mach}{k:Nat}{x e z:Evp}{l q r:List Evp}{t:Tm}{now:Int}{b:Bal}
theorem jcC(node:Int)(t:Trust)(l:List Evp)(hl:∀e∈l,sizeT e.t<=1000000000):C0 241 [.i node,av t,.sl 15 (l.map ev)] (cv (viewE node t l)):=by
 refine xI Tryz.func241 Tryz.call241 λhcap=>?_;have hml:(l.map ev).length=l.length:=by simp
 refine xX λb4=>?_;refine zAl λb6=>?_;iterate 4 refine zW ?_
 refine jeY (N:=10) (l:=(List.replicate 10 noMem).map mv) rfl rfl rfl rfl jlY (by simp) jn4 ⟨by decide,by decide⟩ rfl rfl (λg=>?_);refine xL λb7=>?_;iterate 9 refine zW ?_
 iterate 3 all_goals first | refine zW ?_ | refine xG ?_ ?_<;>intro hg
 all_goals (
 refine xC ?_ ?_<;>intro hc
 ·(
 first
 | (exact xQ hc)
 |(
 have hbad:node<0\/10<=node:=by first | (have:=qc hg;omega) | (have:=qc hc;omega)
 iterate 6 refine zW ?_
 refine zFz (.slice (some ⟨g,0,none⟩) 10 10) [6] ?_;refine xP ?_
 rw[jrT hbad];rfl))
 ·(
 first
 | (exact xQ hc)
 |(
 have hgood:¬(node<0\/10<=node):=by have h1:=qd hc;have h2:=qd (by first | with_reducible assumption | exact hg:decide (node<0)=false);omega
 iterate 3 refine zW ?_
 obtain⟨n0,rfl,hn10⟩:∃n:Nat,node=n/\n<10:=⟨node.toNat,by omega,by omega⟩
 obtain⟨y0,hy0,_⟩:=jab (l:=List.replicate 10 noMem) (k:=n0) (by simp;omega);have hyy0:=jad mv hy0;iterate 6 refine zW ?_
 refine zP (jaU (k:=n0) rfl rfl rfl rfl rfl zo) ?_;refine jaD (off:=0) rfl rfl jdZ jct rfl hyy0 zRc ?_;refine xN λ_=>?_;iterate 4 refine zW ?_
 refine jag [6,7,25,26] [.box b7 _ _,.box b6 _ _,.box b4 _ _] (λ(k:Nat)(q:List Mem) r=>(27,.i (k:Int))::r) (λk q r=>.arr (.slice (some ⟨g,0,none⟩) 10 10) 101 4 (q.map mv)::r) (λk q=>k<=l.length/\q.length=10/\putsE (l.drop k) q=putsE l (nobody.set n0 ⟨true,t⟩)) (λk q=>l.length - k) (0) (((List.replicate 10 noMem).set n0 ⟨true,t⟩)) zRc ⟨by omega,by simp,by rw[jsz];simp⟩ (by rw[show D.agg [.b true,.i t.th,.sl 1 (t.nodes.map .i),.sl 3 (avs t.inner)]=mv ⟨true,t⟩ from rfl,<-List.map_set];exact(zWk)) ?_;intro k q ⟨hk,hql,hI⟩;refine xC ?_ ?_<;>intro hc
 ·(
 have hlt:=qc hc;obtain⟨x,hx,hd⟩:=jab (l:=l) (k:=k) zo;have hx':=jad ev hx;have hxs:=hl x (qk hx);obtain⟨n,hn⟩:∃n,n=x.node.toNat:=⟨_,rfl⟩
 have hnn:vE x=true->x.node=(n:Int)/\n<10:=λh=>by have:=jcx h;omega
 obtain⟨y,hy⟩:=jyI (n:=n) hql;refine xL λb9=>?_;refine xA (jaA x hxs) ?_;refine zW ?_
 iterate 4 all_goals first | refine zW ?_ | refine xG ?_ ?_<;>intro hg
 all_goals first | (refine zY ?_;(rw[(hnn (by first | with_reducible assumption | exact hg)).1];refine zP (jaU (k:=n) rfl rfl rfl rfl rfl (hnn (by first | with_reducible assumption | exact hg)).2) ?_)) | refine zSk ?_
 all_goals refine zW ?_
 all_goals first | (refine zY ?_;(refine jny (jjB (off:=0) rfl jct qv rfl (jad mv (hy (hnn (by first | with_reducible assumption | exact hg)).2)) zRc) rfl rfl rfl ?_)) | refine zSk ?_
 iterate 2 all_goals refine zW ?_
 all_goals (
 refine xC ?_ ?_<;>intro hc
 ·(
 first
 | (exact xQ hc)
 |(
 have hve:vE x=true:=by first | with_reducible assumption | assumption
 have hn1:=hnn hve;have hy1:=hy hn1.2;have hyd:y.decl=false:=jaw zO;have hyy1:=jad mv hy1;iterate 8 refine zW ?_
 refine zP (jaU (k:=n) rfl rfl rfl rfl rfl zo) ?_;refine jaD (off:=0) rfl rfl jdZ jct rfl hyy1 zRc ?_;iterate 8 refine zW ?_
 rw[hd] at hI;simp only[putsE] at hI
 rw[jvW hve hn hy1 hyd] at hI;refine⟨k+1,q.set n ⟨true,x.t⟩,⟨by omega,by rw[List.length_set];exact hql,hI⟩,by omega,?_⟩;rw[List.map_set];exact(zWk)))
 ·(
 first
 | (exact xQ hc)
 |(
 iterate 8 refine zW ?_
 rw[hd] at hI;simp only[putsE] at hI
 first
 | (rw[jvW hve hn hy1 hyd] at hI;refine⟨k+1,q.set n ⟨true,x.t⟩,⟨by omega,by rw[List.length_set];exact hql,hI⟩,by omega,?_⟩;rw[List.map_set];exact(zWk))
 | (rw[jwV zO] at hI;refine⟨k+1,q,⟨by omega,hql,hI⟩,by omega,zWk⟩)
 | (rw[jwO (by first | with_reducible assumption | exact hg) hn (hy (hnn (by first | with_reducible assumption | exact hg)).2) (jav zO)] at hI;refine⟨k+1,q,⟨by omega,hql,hI⟩,by omega,zWk⟩)))))
 ·(
 have hge:=qd hc;rw[jae zo] at hI;simp only[putsE] at hI;refine zFz (.slice (some ⟨g,0,none⟩) 10 10) [6,7] ?_;refine xP ?_
 rw[juA hn10,<-hI];rfl))))
theorem bsn(q:List Bool)(y:Bool):List.map bV q++[D.b y]=List.map bV (q++[y]):=by rw[List.map_append];rfl
theorem jb4{α β:Type}(f:α->β){l:List α}{x:α}(h:l[k]?=some x):(l.take (k+1)).map f=(l.take k).map f++[f x]:=by rw[List.take_add_one,h];simp
theorem jlJ(l:List Evp)(hlen:l.length<=100)(hl:∀e∈l,sizeT e.t<=1000000000)(b:Bal):C0 288 [.sl 15 (l.map ev),bv b] (.tup [.i (setP (λe=>apR e b||vpR e b) l:Nat),.i (setP (λe=>apR e b) l:Nat)]):=by
 refine xI Tryz.func288 Tryz.call288 λhcap=>?_;have hml:(l.map ev).length=l.length:=by simp
 refine xX λb3=>?_;refine xN λ_=>?_;iterate 4 refine zW ?_
 refine jax [0,3,11,12] [.box b3 _ _] (λ(k:Nat)(v:Value)(w:Value) r=>(6,.v v)::(7,.v w)::(13,.i (k:Int))::r) (λk v w r=>.arr v 4 1 (((l.take k).map (λe=>apR e b||vpR e b)).map bV)::.arr w 4 1 (((l.take k).map (λe=>apR e b)).map bV)::r) (λk v w=>k<=l.length) (λk v w=>l.length - k) (0) (.slice none 0 0) (.slice none 0 0) zRc zo ((jaF 4 1 rfl).trans ((jaF 4 1 rfl).trans (zWk))) ?_;intro k v w hk;have hm1:(((l.take k).map (λe=>apR e b||vpR e b)).map bV).length=k:=by simp;omega
 have hm2:(((l.take k).map (λe=>apR e b)).map bV).length=k:=by simp;omega
 refine xC ?_ ?_<;>intro hc
 ·(
 have hlt:=qc hc;obtain⟨x,hx,hd⟩:=jab (l:=l) (k:=k) zo;have hx':=jad ev hx;have hxs:=hl x (qk hx);refine xL λb9=>?_;refine xB (jxY x hxs b) ?_;rintro _ _ ⟨rfl,rfl⟩;obtain⟨ya,hya⟩:∃y,y=apR x b:=⟨_,rfl⟩;rw[<-hya];iterate 7 refine zW ?_
 iterate 2 all_goals first | refine zW ?_ | refine xG ?_ ?_<;>intro hg
 all_goals first | (refine zY ?_;(refine jas zRc (jxm x hxs b) jaE rfl rfl ?_;rintro _ _ ⟨rfl,rfl⟩;obtain⟨yv,hyv⟩:∃y,y=vpR x b:=⟨_,rfl⟩;rw[<-hyv])) | refine zSk ?_
 all_goals refine zW ?_
 all_goals (refine xLt 4 1 1 ?_)
 all_goals (first | refine xEa 4 1 1 (hb:=xLb) λv28 hv28=>?_ | refine xEn 4 1 1 (hb:=xLb) λv28 hv28=>?_)
 iterate 2 all_goals refine zW ?_
 all_goals (refine xLt 4 1 1 ?_)
 all_goals (first | refine xEa 4 1 1 (hb:=xLb) λv32 hv32=>?_ | refine xEn 4 1 1 (hb:=xLb) λv32 hv32=>?_)
 iterate 2 all_goals refine zW ?_
 all_goals (
 iterate 8 refine zW ?_
 rw[bsn,bsn]
 first
 | (have h0:ya=true:=(by first | with_reducible assumption | exact hg);rw[show (l.take k).map (λe=>apR e b||vpR e b)++[true]=(l.take (k+1)).map (λe=>apR e b||vpR e b) from by rw[jb4 _ hx];rw[<-hya,h0];rfl,show (l.take k).map (λe=>apR e b)++[ya]=(l.take (k+1)).map (λe=>apR e b) from by rw[jb4 _ hx,hya]];refine⟨k+1,_,_,by omega,by omega,zWk⟩)
 | (have h0:ya=false:=(by first | with_reducible assumption | exact hg);rw[show (l.take k).map (λe=>apR e b||vpR e b)++[yv]=(l.take (k+1)).map (λe=>apR e b||vpR e b) from by rw[jb4 _ hx];rw[<-hya,<-hyv,h0];rfl,show (l.take k).map (λe=>apR e b)++[ya]=(l.take (k+1)).map (λe=>apR e b) from by rw[jb4 _ hx,hya]];refine⟨k+1,_,_,by omega,by omega,zWk⟩)))
 ·(
 have hge:=qd hc;rw[qC (show l.length<=k by omega)];refine zFz v [0,6,7] ?_;refine zFz w [0,6,7] ?_;refine xA (jdA l (l.map (λe=>apR e b||vpR e b)) (by simp)) ?_;refine xA (jdA l (l.map (λe=>apR e b)) (by simp)) ?_;refine xP ?_
 rw[jgT,jgT];rfl)
theorem jp3(node:Int)(t:Trust)(l:List Evp)(hlen:l.length<=100)(hl:∀e∈l,sizeT e.t<=1000000000)(b:Bal):C0 275 [.i node,av t,.sl 15 (l.map ev),bv b] (.b (acc25 node t l b)):=by
 refine xI Tryz.func275 Tryz.call275 λhcap=>?_;refine xX λb5=>?_;refine zBx λb7=>?_;refine xA (jlJ l hlen hl b) ?_;refine xA (jcC node t l hl) ?_;refine xA (jdf _ _ _ _) ?_;refine xP ?_;exact rfl
theorem jph(node:Int)(t:Trust)(l:List Evp)(hlen:l.length<=100)(hl:∀e∈l,sizeT e.t<=1000000000)(b:Bal):C0 276 [.i node,av t,.sl 15 (l.map ev),bv b] (.b (cnf25 node t l b)):=by
 refine xI Tryz.func276 Tryz.call276 λhcap=>?_;refine xX λb5=>?_;refine zBx λb7=>?_;refine xA (jlJ l hlen hl b) ?_;refine xA (jcC node t l hl) ?_;refine xA (jb1 _ _ _) ?_;refine xP ?_;exact rfl
theorem jdM(b:Bal):C0 274 [bv b] (bv (raiseB b)):=by
 refine xI Tryz.func274 Tryz.call274 λhcap=>?_;refine xX λb1=>?_;refine zAl λb2=>?_;refine xC ?_ ?_<;>intro hc
 ·(
 have h1:=qc hc;refine xP ?_;unfold raiseB bv
 rw[qf h1];rfl)
 ·(
 have h1:=qd hc;refine xP ?_;unfold raiseB bv
 rw[qe h1];rfl)
theorem jcO(node:Int)(t:Trust)(l:List Evp)(hlen:l.length<=100)(hl:∀e∈l,sizeT e.t<=1000000000)(p q:Bal)(v:Str):C0 259 [.i node,av t,.sl 15 (l.map ev),bv p,bv q,.v (.string v)] (bv (nextV node t l p q v)):=by
 refine xI Tryz.func259 Tryz.call259 λhcap=>?_;refine xX λb7=>?_;refine zBx λb9=>?_;refine zBx λb10=>?_;refine zAl λb12=>?_;refine xB (jfT l hlen hl) ?_;rintro _ _ ⟨rfl,rfl⟩;obtain⟨bs,hbs⟩:∃bs,bs=ballotsV l:=⟨_,rfl⟩;rw[<-hbs];have hbm:(bs.map bv).length=bs.length:=(by simp)
 refine zLn λ_=>?_;iterate 4 refine zW ?_
 refine jah [0,2,5,7,9,10,12,16,17] [.box b12 _ _,.box b10 _ _,.box b9 _ _,.box b7 _ _] (λ(k:Nat) r=>(18,.i (k:Int))::r) (λk r=>r) (λk=>k<=bs.length/\nextGo node t l p q v (bs.drop k)=nextV node t l p q v) (λk=>bs.length - k) (0) zRc ⟨by omega,by rw[hbs];rfl⟩ (zWk) ?_;intro k ⟨hk,hI⟩;refine xC ?_ ?_<;>intro hc
 ·(
 have hlt:=qc hc;obtain⟨x,hx,hd⟩:=jab (l:=bs) (k:=k) zo;have hx':=jad bv hx;refine xL λb14=>?_;iterate 5 refine zW ?_
 refine zDr [] ?_;refine zT 0 ?_;refine zT 1 ?_;refine zT 2 ?_;refine jai 2 rfl (λhg=>?_) λhg=>?_
 rotate_left
 case' _ =>(
 refine zK 3 ?_;refine zK 4 ?_;refine zK 5 ?_;refine zK 6 ?_;refine zT 7 ?_;refine zT 8 ?_;refine zT 9 ?_;refine zT 11 ?_;refine zT 13 ?_;refine zOn 10 ?_;refine xA (jdM p) ?_;refine zW ?_;refine zOn 12 ?_;refine xA (jdM q) ?_;refine zW ?_;refine zOn 14 ?_;refine xA (jhk (raiseB p) (raiseB q) x) ?_;refine zW ?_;refine zT 15 ?_
 refine zW ?_)
 rotate_right
 case' _ =>(
 refine zT 3 ?_;refine zT 4 ?_;refine zT 5 ?_;refine zT 6 ?_;refine zT 7 ?_;refine zT 8 ?_;refine jai 8 rfl (λhg=>?_) λhg=>?_
 rotate_left
 case' _ =>(
 refine zT 9 ?_;refine zT 11 ?_;refine zT 13 ?_;refine zOn 10 ?_;refine xA (jdM p) ?_;refine zW ?_;refine zOn 12 ?_;refine xA (jdM q) ?_;refine zW ?_;refine zOn 14 ?_;refine xA (jhk (raiseB p) (raiseB q) x) ?_;refine zW ?_;refine zT 15 ?_
 refine zW ?_)
 rotate_right
 case' _ =>(
 refine zK 9 ?_;refine zK 10 ?_;refine zK 11 ?_;refine zK 12 ?_;refine zK 13 ?_;refine zK 14 ?_;refine zT 15 ?_
 refine zW ?_))
 all_goals (
 refine xC ?_ ?_<;>intro hc
 ·(
 first
 | (exact xQ hc)
 |(
 have hco:((!decide (v=noS)&&!decide (x.v=v))||prB (raiseB p) (raiseB q) x)=true:=by first | (simp_all[noS];done) | grind[noS]
 iterate 9 refine zW ?_
 rw[hd] at hI;simp only[nextGo] at hI
 rw[qf hco] at hI;refine⟨k+1,⟨by omega,hI⟩,by omega,zWk⟩))
 ·(
 first
 | (exact xQ hc)
 |(
 have hco:((!decide (v=noS)&&!decide (x.v=v))||prB (raiseB p) (raiseB q) x)=false:=by first | (simp_all[noS];done) | grind[noS]
 refine xA (jp3 node t l hlen hl x) ?_;refine xC ?_ ?_<;>intro hc
 ·(
 have hac:acc25 node t l x=true:=hc;refine xP ?_;rw[hd] at hI;simp only[nextGo] at hI;rw[qe (by rw[hco];decide),qf hac] at hI
 rw[<-hI];rfl)
 ·(
 have hac:acc25 node t l x=false:=hc;iterate 8 refine zW ?_
 rw[hd] at hI;simp only[nextGo] at hI
 first
 | (rw[qf hco] at hI;refine⟨k+1,⟨by omega,hI⟩,by omega,zWk⟩)
 | (rw[qe (by rw[hco];decide),qe (by rw[hac];decide)] at hI;refine⟨k+1,⟨by omega,hI⟩,by omega,zWk⟩))))))
 ·(
 have hge:=qd hc;rw[jae zo] at hI;simp only[nextGo] at hI;refine xP ?_
 rw[<-hI];rfl)
theorem jgJ(node:Int)(t:Trust)(l:List Evp)(hlen:l.length<=100)(hl:∀e∈l,sizeT e.t<=1000000000)(a:Bal):C0 263 [.i node,av t,.sl 15 (l.map ev),bv a] (bv (highV node t l a)):=by
 refine xI Tryz.func263 Tryz.call263 λhcap=>?_;refine xX λb5=>?_;refine zBx λb7=>?_;refine zAl λb8=>?_;refine xB (jfT l hlen hl) ?_;rintro _ _ ⟨rfl,rfl⟩;obtain⟨bs,hbs⟩:∃bs,bs=ballotsV l:=⟨_,rfl⟩;rw[<-hbs];have hbm:(bs.map bv).length=bs.length:=(by simp)
 refine zLn λ_=>?_;iterate 4 refine zW ?_
 refine jah [0,2,5,7,8,12,13] [.box b8 _ _,.box b7 _ _,.box b5 _ _] (λ(k:Nat) r=>(14,.i (k:Int))::r) (λk r=>r) (λk=>k<=bs.length/\highGo node t l a (bs.drop k)=highV node t l a) (λk=>bs.length - k) (0) zRc ⟨by omega,by rw[hbs];rfl⟩ (zWk) ?_;intro k ⟨hk,hI⟩;refine xC ?_ ?_<;>intro hc
 ·(
 have hlt:=qc hc;obtain⟨x,hx,hd⟩:=jab (l:=bs) (k:=k) zo;have hx':=jad bv hx;refine xL λb10=>?_;iterate 9 refine zW ?_
 iterate 2 all_goals first | refine zW ?_ | refine xG ?_ ?_<;>intro hg
 all_goals first | (refine zY ?_;refine jaa zRc (jc7 a x) rfl rfl ?_) | refine zSk ?_
 iterate 6 all_goals first | refine zW ?_ | refine xG ?_ ?_<;>intro hg
 all_goals first | (refine zY ?_;refine jaa zRc (jph node t l hlen hl x) rfl rfl ?_) | refine zSk ?_
 all_goals refine zW ?_
 all_goals (
 refine xC ?_ ?_<;>intro hc
 ·(
 first
 | (exact xQ hc)
 |(
 have hco:(decide (x.n<=1000)&&(lB a x&&cnf25 node t l x))=true:=by first | (simp_all;done) | grind
 refine xP ?_;rw[hd] at hI;simp only[highGo] at hI;rw[qf hco] at hI
 rw[<-hI];rfl))
 ·(
 first
 | (exact xQ hc)
 |(
 have hco:(decide (x.n<=1000)&&(lB a x&&cnf25 node t l x))=false:=by first | (simp_all;done) | grind
 iterate 8 refine zW ?_
 rw[hd] at hI;simp only[highGo] at hI;rw[qe (by rw[hco];decide)] at hI
 refine⟨k+1,⟨by omega,hI⟩,by omega,zWk⟩))))
 ·(
 have hge:=qd hc;rw[jae zo] at hI;simp only[highGo] at hI;refine xP ?_
 rw[<-hI];rfl)
theorem jkq(p q b:Bal):C0 261 [bv p,bv q,bv b] (.tup [bv (joinV p q b).1,bv (joinV p q b).2]):=by
 refine xI Tryz.func261 Tryz.call261 λhcap=>?_;refine xX λb3=>?_;refine zBx λb4=>?_;refine zBx λb5=>?_;refine zAl λb6=>?_;refine zAl λb7=>?_;refine xA (jaM b) ?_;refine xC ?_ ?_<;>intro hc
 ·(
 refine zW ?_;refine zDr [.box b7 _ _,.box b6 _ _] ?_;refine zT 0 ?_;refine zT 1 ?_;refine zOn 2 ?_;iterate 2 refine zW ?_
 refine zOn 3 ?_;iterate 3 refine zW ?_
 all_goals (
 refine xP ?_;unfold joinV
 simp[*];rfl))
 ·(
 refine xA (jaM p) ?_;refine xC ?_ ?_<;>intro hc
 ·(
 refine zW ?_;refine zDr [.box b7 _ _,.box b6 _ _] ?_;refine zT 0 ?_;refine zT 1 ?_;refine zOn 2 ?_;iterate 2 refine zW ?_
 refine zOn 3 ?_;iterate 3 refine zW ?_
 all_goals (
 refine xP ?_;unfold joinV
 simp[*];rfl))
 ·(
 refine xA (jc7 p b) ?_;refine xC ?_ ?_<;>intro hc
 ·(
 refine xA (jbb p b) ?_;refine xC ?_ ?_<;>intro hc
 ·(
 refine zW ?_;refine zDr [.box b7 _ _,.box b6 _ _] ?_;refine zT 0 ?_;refine zT 1 ?_;refine zOn 2 ?_;iterate 2 refine zW ?_
 refine zOn 3 ?_;iterate 3 refine zW ?_
 all_goals (
 refine xP ?_;unfold joinV
 simp[*];rfl))
 ·(
 refine xA (jbb q b) ?_;refine xC ?_ ?_<;>intro hc
 ·(
 iterate 6 refine zW ?_
 refine zDr [.box b7 _ _,.box b6 _ _] ?_;refine zT 0 ?_;refine zT 1 ?_;refine zOn 2 ?_;iterate 2 refine zW ?_
 refine zOn 3 ?_;iterate 3 refine zW ?_
 all_goals (
 refine xP ?_;unfold joinV
 simp[*];rfl))
 ·(
 iterate 3 refine zW ?_
 refine zDr [.box b7 _ _,.box b6 _ _] ?_;refine zT 0 ?_;refine zT 1 ?_;refine zOn 2 ?_;iterate 2 refine zW ?_
 refine zOn 3 ?_;iterate 3 refine zW ?_
 all_goals (
 refine xP ?_;unfold joinV
 simp[*];rfl))))
 ·(
 refine xA (jc7 b p) ?_;refine zW ?_
 iterate 2 all_goals first | refine zW ?_ | refine xG ?_ ?_<;>intro hg
 all_goals first | (refine zY ?_;refine jaa zRc (jbb b p) rfl rfl ?_) | refine zSk ?_
 iterate 4 all_goals first | refine zW ?_ | refine xG ?_ ?_<;>intro hg
 all_goals first | (refine zY ?_;refine jaa zRc (jaM q) rfl rfl ?_) | refine zSk ?_
 iterate 3 all_goals first | refine zW ?_ | refine xG ?_ ?_<;>intro hg
 all_goals first | (refine zY ?_;refine jaa zRc (jc7 q b) rfl rfl ?_) | refine zSk ?_
 iterate 3 all_goals refine zW ?_
 all_goals (
 refine xC ?_ ?_<;>intro hc
 ·(
 refine zW ?_;refine zDr [.box b7 _ _,.box b6 _ _] ?_;refine zT 0 ?_;refine zT 1 ?_;refine zOn 2 ?_;iterate 2 refine zW ?_
 refine zOn 3 ?_;iterate 3 refine zW ?_
 all_goals (
 refine xP ?_;unfold joinV
 first | (simp[*];done) | (simp[*];rfl) | (simp_all;done)))
 ·(
 iterate 4 refine zW ?_
 refine zDr [.box b7 _ _,.box b6 _ _] ?_;refine zT 0 ?_;refine zT 1 ?_;refine zOn 2 ?_;iterate 2 refine zW ?_
 refine zOn 3 ?_;iterate 3 refine zW ?_
 all_goals (
 refine xP ?_;unfold joinV
 first | (simp[*];done) | (simp[*];rfl)))))))
theorem jgE(l:List Evp)(hlen:l.length<=100)(hl:∀e∈l,sizeT e.t<=1000000000)(sv:Str)(lo hi:Int):C0 289 [.sl 15 (l.map ev),.v (.string sv),.i lo,.i hi] (.tup [.i (setP (λe=>acR e sv lo hi||vcR e sv lo hi) l:Nat),.i (setP (λe=>acR e sv lo hi) l:Nat)]):=by
 refine xI Tryz.func289 Tryz.call289 λhcap=>?_;have hml:(l.map ev).length=l.length:=by simp
 refine xN λ_=>?_;iterate 4 refine zW ?_
 refine jax [0,1,2,3,15,16] [] (λ(k:Nat)(v:Value)(w:Value) r=>(10,.v v)::(11,.v w)::(17,.i (k:Int))::r) (λk v w r=>.arr v 4 1 (((l.take k).map (λe=>acR e sv lo hi||vcR e sv lo hi)).map bV)::.arr w 4 1 (((l.take k).map (λe=>acR e sv lo hi)).map bV)::r) (λk v w=>k<=l.length) (λk v w=>l.length - k) (0) (.slice none 0 0) (.slice none 0 0) zRc zo ((jaF 4 1 rfl).trans ((jaF 4 1 rfl).trans (zWk))) ?_;intro k v w hk;have hm1:(((l.take k).map (λe=>acR e sv lo hi||vcR e sv lo hi)).map bV).length=k:=by simp;omega
 have hm2:(((l.take k).map (λe=>acR e sv lo hi)).map bV).length=k:=by simp;omega
 refine xC ?_ ?_<;>intro hc
 ·(
 have hlt:=qc hc;obtain⟨x,hx,hd⟩:=jab (l:=l) (k:=k) zo;have hx':=jad ev hx;have hxs:=hl x (qk hx);refine xL λb13=>?_;refine xB (jxp x hxs sv lo hi) ?_;rintro _ _ ⟨rfl,rfl⟩;obtain⟨ya,hya⟩:∃y,y=acR x sv lo hi:=⟨_,rfl⟩;rw[<-hya];iterate 7 refine zW ?_
 iterate 4 all_goals first | refine zW ?_ | refine xG ?_ ?_<;>intro hg
 all_goals first | (refine zY ?_;(refine jas zRc (jx5 x hxs sv lo hi) jaE rfl rfl ?_;rintro _ _ ⟨rfl,rfl⟩;obtain⟨yv,hyv⟩:∃y,y=vcR x sv lo hi:=⟨_,rfl⟩;rw[<-hyv])) | refine zSk ?_
 all_goals refine zW ?_
 all_goals (refine xLt 4 1 1 ?_)
 all_goals (first | refine xEa 4 1 1 (hb:=xLb) λv36 hv36=>?_ | refine xEn 4 1 1 (hb:=xLb) λv36 hv36=>?_)
 iterate 2 all_goals refine zW ?_
 all_goals (refine xLt 4 1 1 ?_)
 all_goals (first | refine xEa 4 1 1 (hb:=xLb) λv40 hv40=>?_ | refine xEn 4 1 1 (hb:=xLb) λv40 hv40=>?_)
 iterate 2 all_goals refine zW ?_
 all_goals (
 iterate 8 refine zW ?_
 rw[bsn,bsn]
 first
 | (have h0:ya=true:=(by first | with_reducible assumption | exact hg);rw[show (l.take k).map (λe=>acR e sv lo hi||vcR e sv lo hi)++[true]=(l.take (k+1)).map (λe=>acR e sv lo hi||vcR e sv lo hi) from by rw[jb4 _ hx];rw[<-hya,h0];rfl,show (l.take k).map (λe=>acR e sv lo hi)++[ya]=(l.take (k+1)).map (λe=>acR e sv lo hi) from by rw[jb4 _ hx,hya]];refine⟨k+1,_,_,by omega,by omega,zWk⟩)
 | (have h0:ya=false:=(by first | with_reducible assumption | exact hg);rw[show (l.take k).map (λe=>acR e sv lo hi||vcR e sv lo hi)++[yv]=(l.take (k+1)).map (λe=>acR e sv lo hi||vcR e sv lo hi) from by rw[jb4 _ hx];rw[<-hya,<-hyv,h0];rfl,show (l.take k).map (λe=>acR e sv lo hi)++[ya]=(l.take (k+1)).map (λe=>acR e sv lo hi) from by rw[jb4 _ hx,hya]];refine⟨k+1,_,_,by omega,by omega,zWk⟩)))
 ·(
 have hge:=qd hc;rw[qC (show l.length<=k by omega)];refine zFz v [0,10,11] ?_;refine zFz w [0,10,11] ?_;refine xA (jdA l (l.map (λe=>acR e sv lo hi||vcR e sv lo hi)) (by simp)) ?_;refine xA (jdA l (l.map (λe=>acR e sv lo hi)) (by simp)) ?_;refine xP ?_
 rw[jgT,jgT];rfl)
theorem jdx(node:Int)(t:Trust)(l:List Evp)(hlen:l.length<=100)(hl:∀e∈l,sizeT e.t<=1000000000)(sv:Str)(lo hi:Int):C0 280 [.i node,av t,.sl 15 (l.map ev),.v (.string sv),.i lo,.i hi] (.b (acc26 node t l sv lo hi)):=by
 refine xI Tryz.func280 Tryz.call280 λhcap=>?_;refine xX λb7=>?_;refine xA (jgE l hlen hl sv lo hi) ?_;refine xA (jcC node t l hl) ?_;refine xA (jdf _ _ _ _) ?_;refine xP ?_;exact rfl
theorem jil(node:Int)(t:Trust)(l:List Evp)(hlen:l.length<=100)(hl:∀e∈l,sizeT e.t<=1000000000)(sv:Str)(lo hi:Int):C0 282 [.i node,av t,.sl 15 (l.map ev),.v (.string sv),.i lo,.i hi] (.b (cnf26 node t l sv lo hi)):=by
 refine xI Tryz.func282 Tryz.call282 λhcap=>?_;refine xX λb7=>?_;refine xA (jgE l hlen hl sv lo hi) ?_;refine xA (jcC node t l hl) ?_;refine xA (jb1 _ _ _) ?_;refine xP ?_;exact rfl
theorem jkt(p q:Bal)(n:Int)(sv:Str):C0 279 [bv p,bv q,.i n,.v (.string sv)] (.b (freeV p q n sv)):=by
 refine xI Tryz.func279 Tryz.call279 λhcap=>?_;refine xX λb4=>?_;refine zBx λb5=>?_;refine xL λb9=>?_;refine xA (jfc p ⟨n,sv⟩) ?_;iterate 2 refine zW ?_
 iterate 2 all_goals first | refine zW ?_ | refine xG ?_ ?_<;>intro hg
 all_goals first | (refine zY ?_;refine jaa zRc (jfc q ⟨n,sv⟩) rfl rfl ?_) | refine zSk ?_
 iterate 3 all_goals refine zW ?_
 all_goals (
 refine xP ?_;refine(bcl ?_)
 first | rfl | (simp only[freeV];simp[*];done))
theorem jeT(node:Int)(t:Trust)(l:List Evp)(hlen:l.length<=100)(hl:∀e∈l,sizeT e.t<=1000000000)(sv:Str)(fr hi:Int):C0 281 [.i node,av t,.sl 15 (l.map ev),.v (.string sv),.i fr,.i hi] (.i (downV node t l sv fr hi)):=by
 refine xI Tryz.func281 Tryz.call281 λhcap=>?_;refine xX λb7=>?_;refine xB (jcl l hlen hl sv) ?_;rintro _ _ ⟨rfl,rfl⟩;obtain⟨q,hq⟩:∃q,q=boundsV l sv:=⟨_,rfl⟩;rw[<-hq];have hqm:(q.map D.i).length=q.length:=(by simp)
 refine xN λ_=>?_;iterate 5 refine zW ?_
 refine jag [0,2,3,5,7,13] [.box b7 _ _] (λ(i:Int)(f:Int) r=>(4,.i f)::(14,.i i)::r) (λi f r=>r) (λi f=>(-1<=i/\i<(q.length:Int))/\lowGo (λn=>acc26 node t l sv n hi) (rvP q i) f=downV node t l sv fr hi) (λi f=>(i+1).toNat) (((q.length:Int) - 1)) (fr) zRc ⟨by omega,by rw[jj5,hq];rfl⟩ (by rw[hqm];exact(zWk)) ?_;intro i f ⟨hi0,hI⟩;refine xC ?_ ?_<;>intro hc
 ·(
 obtain⟨n,rfl⟩:=qD (show 0<=i from qc (hc));obtain⟨x,hx,_⟩:=jab (l:=q) (k:=n) zo;have hx':=jad D.i hx;refine xC ?_ ?_<;>intro hc
 ·(
 have hge:x>=f:=qc hc;iterate 10 refine zW ?_
 rw[jcP hx,lowGo] at hI
 rw[qf hge] at hI;refine⟨(n:Int) - 1,f,⟨by omega,hI⟩,by omega,zWk⟩)
 ·(
 have hge:¬x>=f:=qd hc;iterate 4 refine zW ?_
 refine zDr [] ?_;refine zT 0 ?_;refine zT 1 ?_;refine zT 2 ?_;refine zT 3 ?_;refine zT 4 ?_;refine zT 5 ?_;refine zT 6 ?_;refine zT 7 ?_;refine zT 8 ?_;refine zOn 9 ?_;refine xA (jdx node t l hlen hl sv x hi) ?_;refine zW ?_;refine zT 10 ?_;refine zW ?_
 all_goals (
 refine xC ?_ ?_<;>intro hc
 ·(
 have hac:acc26 node t l sv x hi=false:=jaw hc;rw[jcP hx,lowGo,qe hge,qe (by rw[hac];decide)] at hI
 refine xP ?_;exact(icl hI))
 ·(
 have hac:acc26 node t l sv x hi=true:=jav hc;iterate 17 refine zW ?_
 rw[jcP hx,lowGo] at hI
 rw[qe hge,qf hac] at hI;refine⟨(n:Int) - 1,x,⟨by omega,hI⟩,by omega,zWk⟩))))
 ·(
 have hneg:i<0:=by have:=qd hc;omega
 rw[jhm q hneg] at hI;simp only[lowGo] at hI
 refine xP ?_;exact(icl hI))
theorem jwr(l:List Int)(i:Int):∃y,0<=i->i<(l.length:Int)->l[i.toNat]?=some y:=by
 by_cases h:i.toNat<l.length
 ·exact⟨l[i.toNat],λ_ _=>ze h⟩
 ·exact⟨0,λh0 h1=>qp zo h⟩
theorem jmr(node:Int)(t:Trust)(l:List Evp)(hlen:l.length<=100)(hl:∀e∈l,sizeT e.t<=1000000000)(sv:Str)(lo hi:Int):C0 265 [.i node,av t,.sl 15 (l.map ev),.v (.string sv),.i lo,.i hi] (.tup [.i (extendV node t l sv lo hi).1,.i (extendV node t l sv lo hi).2]):=by
 have hcap:=jbK;obtain⟨lh,hlh⟩:∃lh,lh=(extGo node t l sv (boundsV l sv).reverse (lo,hi)):=⟨_,rfl⟩
 refine jar Tryz.func265 rfl Tryz.call265 rfl ?_;refine xX λb7=>?_;refine xB (jcl l hlen hl sv) ?_;rintro _ _ ⟨rfl,rfl⟩;obtain⟨q,hq⟩:∃q,q=boundsV l sv:=⟨_,rfl⟩;rw[<-hq];have hqm:(q.map D.i).length=q.length:=(by simp)
 refine xN λ_=>?_;iterate 5 refine zW ?_
 refine jah [0,2,3,7,14] [.box b7 _ _] (λ(i:Int) r=>(4,.i lo)::(5,.i hi)::(15,.i i)::r) (λi r=>r) (λi=>(-1<=i/\i<(q.length:Int))/\extGo node t l sv (rvP q i) (lo,hi)=lh) (λi=>(i+1).toNat) (((q.length:Int) - 1)) zRc ⟨by omega,by rw[jj5,hq,hlh]⟩ (by rw[hqm];exact(zWk)) ?_;intro i ⟨⟨hi1,hi2⟩,hI⟩;obtain⟨y,hy⟩:=jwr q i;iterate 6 refine zW ?_
 iterate 2 all_goals first | refine zW ?_ | refine xG ?_ ?_<;>intro hg
 all_goals first | (refine zY ?_;(refine zP (jap (k:=i.toNat) rfl rfl rfl rfl zd (by have h9:decide (i>=0)=true:=(by first | with_reducible assumption | exact hg | exact hc);have:=qc h9;omega) (jad D.i (hy (by have h9:decide (i>=0)=true:=(by first | with_reducible assumption | exact hg | exact hc);have:=qc h9;omega) zo))) ?_)) | refine zSk ?_
 iterate 4 all_goals refine zW ?_
 all_goals (
 refine xC ?_ ?_<;>intro hc
 ·(
 first
 | (exact xQ hc)
 |(
 have hyg0:=qc hc;obtain⟨n,rfl⟩:=qD (show 0<=i from qc (by first | with_reducible assumption | exact hg:decide (i>=0)=true));obtain⟨x,hx,_⟩:=jab (l:=q) (k:=n) zo;have hx':=jad D.i hx;have hxy:x=y:=by have:=hy zo zo;rw[qq,hx] at this;exact Option.some.inj this
 have hyg:x>(lo,hi).2:=by rw[hxy];exact hyg0
 have hxb:=jaW l sv x (by rw[<-hq];exact qk hx);have hdb:=jdN node t l sv x x;refine xA (jdx node t l hlen hl sv x x) ?_;refine xC ?_ ?_<;>intro hc
 ·(
 have hac:acc26 node t l sv x x=false:=jaw hc;iterate 10 refine zW ?_
 rw[jcP hx,jtQ hyg hac] at hI
 refine⟨(n:Int) - 1,⟨by omega,hI⟩,by omega,zWk⟩)
 ·(
 have hac:acc26 node t l sv x x=true:=jav hc;rw[jcP hx,jrJ hyg hac] at hI;refine xA (jeT node t l hlen hl sv x x) ?_;refine xC ?_ ?_<;>intro hc
 ·(
 have hml:=qc hc;rw[qf hml] at hI;have mk58t:True:=trivial;iterate 18 refine zW ?_
 have h7:=mk58t;rw[show D.i x=D.i lh.2 from by rw[<-hI],show D.i (downV node t l sv x x)=D.i lh.1 from by rw[<-hI]];refine xA (jeT node t l hlen hl sv lh.1 lh.2) ?_;refine xP ?_
 rw[hlh];rfl)
 ·(
 have hml:=qd hc;rw[qe hml] at hI;have mk58f:True:=trivial;iterate 20 refine zW ?_
 have h7:=mk58f;rw[show D.i x=D.i lh.2 from by rw[<-hI],show D.i (min lo (downV node t l sv x x))=D.i lh.1 from by rw[<-hI]];refine xA (jeT node t l hlen hl sv lh.1 lh.2) ?_;refine xP ?_
 rw[hlh];rfl))))
 ·(
 first
 | (exact xQ hc)
 |(
 have hlo:lh=(lo,hi):=by
  first
  | (have h9:decide (i>=0)=false:=(by first | with_reducible assumption | exact hg);have:=qd h9;rw[jhm q zo] at hI;rw[<-hI];rfl)
  | (have h9:decide (i>=0)=true:=(by first | with_reducible assumption | exact hg);have h8:=qc h9;have h7:=hy h8 zo;obtain⟨n,rfl⟩:=qD h8;rw[qq] at h7;rw[jcP h7,jiG (qd hc)] at hI;exact hI.symm)
 have e1:lo=lh.1:=by rw[hlo]
 have e2:hi=lh.2:=by rw[hlo]
 iterate 6 refine zW ?_
 have h7:=e1;have h6:=e2;rw[show (D.i lo)=D.i lh.1 from by rw[<-e1],show (D.i hi)=D.i lh.2 from by rw[<-e2]];refine xA (jeT node t l hlen hl sv lh.1 lh.2) ?_;refine xP ?_
 rw[hlh];rfl)))
theorem jo1(node:Int)(t:Trust)(l:List Evp)(hlen:l.length<=100)(hl:∀e∈l,sizeT e.t<=1000000000)(sv:Str):C0 266 [.i node,av t,.sl 15 (l.map ev),.v (.string sv)] (.tup [.i (finalB node t l sv).1,.i (finalB node t l sv).2.1,.b (finalB node t l sv).2.2]):=by
 refine xI Tryz.func266 Tryz.call266 λhcap=>?_;refine xX λb5=>?_;refine xB (jcl l hlen hl sv) ?_;rintro _ _ ⟨rfl,rfl⟩;obtain⟨q,hq⟩:∃q,q=boundsV l sv:=⟨_,rfl⟩;rw[<-hq];have hqm:(q.map D.i).length=q.length:=(by simp)
 refine xN λ_=>?_;iterate 5 refine zW ?_
 refine jah [0,2,3,5,11] [.box b5 _ _] (λ(j:Int) r=>(12,.i j)::r) (λj r=>r) (λj=>(-1<=j/\j<(q.length:Int))/\finGo node t l sv (rvP q j)=finalB node t l sv) (λj=>(j+1).toNat) (((q.length:Int) - 1)) zRc ⟨by omega,by rw[jj5,hq];rfl⟩ (by rw[hqm];exact(zWk)) ?_;intro j ⟨⟨hj1,hj2⟩,hI⟩;refine xC ?_ ?_<;>intro hc
 ·(
 obtain⟨n,rfl⟩:=qD (show 0<=j from qc (hc));obtain⟨x,hx,_⟩:=jab (l:=q) (k:=n) zo;have hx':=jad D.i hx;refine xA (jil node t l hlen hl sv x x) ?_;refine xC ?_ ?_<;>intro hc
 ·(
 have hcf:cnf26 node t l sv x x=false:=jaw hc;iterate 10 refine zW ?_
 rw[jcP hx,finGo,qe (by rw[hcf];decide)] at hI
 refine⟨(n:Int) - 1,⟨by omega,hI⟩,by omega,zWk⟩)
 ·(
 have hcf:cnf26 node t l sv x x=true:=jav hc;rw[jcP hx,finGo,qf hcf] at hI;iterate 17 refine zW ?_
 refine jag [0,2,3,5,11,13] [.box b5 _ _] (λ(i:Int)(f:Int) r=>(14,.i f)::(15,.i i)::r) (λi f r=>r) (λi f=>(-1<=i/\i<(q.length:Int))/\finLow node t l sv x (rvP q i) f=finLow node t l sv x (rvP q ((n:Int) - 1)) x) (λi f=>(i+1).toNat) (((n:Int) - 1)) (x) zRc ⟨by omega,rfl⟩ (zWk) ?_;intro i f ⟨⟨hi1,hi2⟩,hJ⟩;obtain⟨y,hy⟩:=jwr q i;iterate 2 refine zW ?_
 refine zDr [] ?_;refine zT 0 ?_;refine zT 1 ?_;refine zT 2 ?_;refine jai 2 rfl (λhg=>?_) λhg=>?_
 rotate_left
 case' _ =>(
 refine zK 3 ?_;refine zK 4 ?_;refine zK 5 ?_;refine zK 6 ?_;refine zK 7 ?_;refine zK 8 ?_;refine zK 9 ?_;refine zK 10 ?_;refine zK 11 ?_;refine zK 12 ?_;refine zT 13 ?_
 refine zW ?_)
 rotate_right
 case' _ =>(
 refine zT 3 ?_;refine zT 4 ?_;refine zT 5 ?_;refine zT 6 ?_;refine zT 7 ?_;refine zT 8 ?_;refine jam 9 rfl zGd zKr zKr zKr (AP.ar (jap (k:=i.toNat) rfl rfl rfl rfl zd (by have h9:decide (i>=0)=true:=(by first | with_reducible assumption | exact hg | exact hc);have:=qc h9;omega) (jad D.i (hy (by have h9:decide (i>=0)=true:=(by first | with_reducible assumption | exact hg | exact hc);have:=qc h9;omega) zo)))) rfl rfl ?_;refine zT 10 ?_;refine zT 11 ?_;refine zOn 12 ?_;refine xA (jil node t l hlen hl sv y x) ?_;refine zW ?_;refine zT 13 ?_
 refine zW ?_)
 all_goals (
 refine xC ?_ ?_<;>intro hc
 ·(
 first
 | (exact xQ hc)
 |(
 have hi0:0<=i:=qc (by first | with_reducible assumption | exact hg:decide (i>=0)=true);obtain⟨n2,hn2⟩:=qD hi0;have hyy:q[i.toNat]?=some y:=hy hi0 zo;have hcy:cnf26 node t l sv y x=true:=hc;iterate 7 refine zW ?_
 refine zP (jap (k:=i.toNat) rfl rfl rfl rfl zd zo (jad D.i hyy)) ?_;iterate 11 refine zW ?_
 rw[hn2] at hJ ⊢;have hyn:q[n2]?=some y:=by rw[hn2,qq] at hyy;exact hyy
 rw[jcP hyn,finLow,qf hcy] at hJ
 refine⟨(n2:Int) - 1,y,⟨by omega,hJ⟩,by omega,zWk⟩))
 ·(
 first
 | (exact xQ hc)
 |(
 have hfl:finLow node t l sv x (rvP q ((n:Int) - 1)) x=f:=by
  rw[<-hJ]
  first
  | (have h9:decide (i>=0)=false:=(by first | with_reducible assumption | exact hg);have:=qd h9;rw[jhm q zo];rfl)
  | (have h9:decide (i>=0)=true:=(by first | with_reducible assumption | exact hg);have h8:=qc h9;have h7:=hy h8 zo;obtain⟨n2,rfl⟩:=qD h8;rw[qq] at h7;rw[jcP h7,finLow,qe (by rw[show cnf26 node t l sv y x=false from hc];decide)])
 rw[hfl] at hI;refine xP ?_
 rw[<-hI];rfl)))))
 ·(
 have hneg:j<0:=by have:=qd hc;omega
 rw[jhm q hneg] at hI;refine xP ?_
 rw[<-hI];rfl)
theorem jpc(node:Int)(t:Trust)(l:List Evp)(hlen:l.length<=100)(hl:∀e∈l,sizeT e.t<=1000000000)(p p2:Bal):C0 264 [.i node,av t,.sl 15 (l.map ev),bv p,bv p2] (.tup [.v (.string (firstV node t l p p2).1),.i (firstV node t l p p2).2.1,.i (firstV node t l p p2).2.2.1,.b (firstV node t l p p2).2.2.2]):=by
 refine xI Tryz.func264 Tryz.call264 λhcap=>?_;refine xX λb6=>?_;refine zBx λb8=>?_;refine zBx λb9=>?_;refine xL λb14=>?_;refine xB (jma l hlen hl) ?_;rintro _ _ ⟨rfl,rfl⟩;obtain⟨vs,hvs⟩:∃vs,vs=valuesV l:=⟨_,rfl⟩;rw[<-hvs];have hvm:(vs.map strv).length=vs.length:=(by simp)
 refine zLn λ_=>?_;iterate 4 refine zW ?_
 refine jag [0,2,6,8,9,14,25,26] [.box b9 _ _,.box b8 _ _,.box b6 _ _] (λ(k:Nat)(b:Bal) r=>(27,.i (k:Int))::r) (λk b r=>.box b14 53 [.i b.n,.v (.string b.v)]::r) (λk b=>k<=vs.length/\bestS node t l p p2 (vs.drop k) b=bestV node t l p p2) (λk b=>vs.length - k) (0) (Bal.none) zRc ⟨by omega,by rw[hvs];rfl⟩ (zWk) ?_;intro k b ⟨hk,hI⟩;refine xC ?_ ?_<;>intro hc
 ·(
 have hlt:=qc hc;obtain⟨s,hs,hd⟩:=jab (l:=vs) (k:=k) zo;have hs':=jad strv hs;refine xB (jcl l hlen hl s) ?_;rintro _ _ ⟨rfl,rfl⟩;obtain⟨qb,hqb⟩:∃q,q=boundsV l s:=⟨_,rfl⟩;rw[<-hqb];have hqm:(qb.map D.i).length=qb.length:=(by simp)
 refine zLn λ_=>?_;iterate 4 refine zW ?_
 refine jag [0,2,6,8,9,14,16,25,26,27,33,34] [.box b9 _ _,.box b8 _ _,.box b6 _ _] (λ(j:Nat)(b:Bal) r=>(35,.i (j:Int))::r) (λj b r=>.box b14 53 [.i b.n,.v (.string b.v)]::r) (λj b=>j<=qb.length/\bestS node t l p p2 (vs.drop (k+1)) (bestN node t l p p2 s (qb.drop j) b)=bestV node t l p p2) (λj b=>qb.length - j) (0) (b) zRc ⟨by omega,by rw[hd] at hI;simp only[bestS] at hI;rw[hqb];exact hI⟩ (zWk) ?_;intro j b ⟨hj,hJ⟩;refine xC ?_ ?_<;>intro hc
 ·(
 have hlt2:=qc hc;obtain⟨x,hx,hdj⟩:=jab (l:=qb) (k:=j) zo;have hx':=jad D.i hx;refine xL λb19=>?_;refine xA (jc7 b ⟨x,s⟩) ?_;refine zW ?_
 iterate 4 all_goals first | refine zW ?_ | refine xG ?_ ?_<;>intro hg
 all_goals first | (refine zY ?_;refine jaa zRc (jkt p p2 x s) rfl rfl ?_) | refine zSk ?_
 iterate 8 all_goals first | refine zW ?_ | refine xG ?_ ?_<;>intro hg
 all_goals first | (refine zY ?_;refine jaa zRc (jdx node t l hlen hl s x x) rfl rfl ?_) | refine zSk ?_
 all_goals refine zW ?_
 all_goals (
 refine xC ?_ ?_<;>intro hc
 ·(
 first
 | (exact xQ hc)
 |(
 have hcn:(lB b ⟨x,s⟩&&(freeV p p2 x s&&acc26 node t l s x x))=true:=by first | (simp_all;done) | grind
 have mk60t:True:=trivial;iterate 11 refine zW ?_
 rw[hdj] at hJ;simp only[bestN] at hJ
 have h9:=mk60t;rw[qf hcn] at hJ;refine⟨j+1,⟨x,s⟩,⟨by omega,hJ⟩,by omega,zWk⟩))
 ·(
 first
 | (exact xQ hc)
 |(
 have hcn:(lB b ⟨x,s⟩&&(freeV p p2 x s&&acc26 node t l s x x))=false:=by first | (simp_all;done) | grind
 have mk60f:True:=trivial;iterate 8 refine zW ?_
 rw[hdj] at hJ;simp only[bestN] at hJ
 first
 | (have h9:=mk60t;rw[qf hcn] at hJ;refine⟨j+1,⟨x,s⟩,⟨by omega,hJ⟩,by omega,zWk⟩)
 | (have h9:=mk60f;rw[qe (by rw[hcn];decide)] at hJ;refine⟨j+1,b,⟨by omega,hJ⟩,by omega,zWk⟩)))))
 ·(
 have hge2:=qd hc;iterate 11 refine zW ?_
 rw[jae (l:=qb) (k:=j) zo] at hJ;simp only[bestN] at hJ
 refine⟨k+1,b,⟨by omega,hJ⟩,by omega,zWk⟩))
 ·(
 have hge:=qd hc;rw[jae zo] at hI;simp only[bestS] at hI;refine xA (jaM b) ?_;refine xC ?_ ?_<;>intro hc
 ·(
 have hbz:zB b=true:=hc;refine xP ?_
 unfold firstV;rw[<-hI,qf hbz];rfl)
 ·(
 have hbz:zB b=false:=hc;refine xB (jcl l hlen hl b.v) ?_;rintro _ _ ⟨rfl,rfl⟩;obtain⟨q,hq⟩:∃q,q=boundsV l b.v:=⟨_,rfl⟩;rw[<-hq];have hqm:(q.map D.i).length=q.length:=(by simp)
 refine xN λ_=>?_;iterate 5 refine zW ?_
 refine jag [0,2,6,8,9,14,21] [.box b14 _ _,.box b9 _ _,.box b8 _ _,.box b6 _ _] (λ(i:Int)(f:Int) r=>(20,.i f)::(22,.i i)::r) (λi f r=>r) (λi f=>(-1<=i/\i<(q.length:Int))/\lowGo (λn=>freeV p p2 n b.v&&acc26 node t l b.v n b.n) (rvP q i) f=lowGo (λn=>freeV p p2 n b.v&&acc26 node t l b.v n b.n) q.reverse b.n) (λi f=>(i+1).toNat) (((q.length:Int) - 1)) (b.n) zRc ⟨by omega,by rw[jj5]⟩ (by rw[hqm];exact(zWk)) ?_;intro i f ⟨⟨hi1,hi2⟩,hL⟩;refine xC ?_ ?_<;>intro hc
 ·(
 obtain⟨n,rfl⟩:=qD (show 0<=i from qc (hc));obtain⟨x,hx,_⟩:=jab (l:=q) (k:=n) zo;have hx':=jad D.i hx;refine xC ?_ ?_<;>intro hc
 ·(
 have hge:x>=f:=qc hc;have mk85t:True:=trivial;iterate 10 refine zW ?_
 rw[jcP hx,lowGo] at hL
 have h9:=mk85t;rw[qf hge] at hL;refine⟨(n:Int) - 1,f,⟨by omega,hL⟩,by omega,zWk⟩)
 ·(
 have hge:¬x>=f:=qd hc;refine xA (jkt p p2 x b.v) ?_;iterate 2 refine zW ?_
 iterate 8 all_goals first | refine zW ?_ | refine xG ?_ ?_<;>intro hg
 all_goals first | (refine zY ?_;refine jaa zRc (jdx node t l hlen hl b.v x b.n) rfl rfl ?_) | refine zSk ?_
 iterate 2 all_goals refine zW ?_
 all_goals (
 refine xC ?_ ?_<;>intro hc
 ·(
 first
 | (exact xQ hc)
 |(
 have hok:(freeV p p2 x b.v&&acc26 node t l b.v x b.n)=false:=by first | (simp_all;done) | grind
 rw[jcP hx,lowGo,qe hge,qe (by rw[hok];decide)] at hL;iterate 8 refine zW ?_
 refine zDr [] ?_;refine zT 0 ?_;refine zT 1 ?_;refine zT 2 ?_;refine zT 3 ?_;refine zT 4 ?_;refine zT 5 ?_;refine zT 6 ?_;refine zT 7 ?_;refine zT 8 ?_;refine zW ?_
 all_goals (
 refine xP ?_
 unfold firstV;rw[<-hI,qe (by rw[hbz];decide),<-hq,<-hL];rfl)))
 ·(
 first
 | (exact xQ hc)
 |(
 have hok:(freeV p p2 x b.v&&acc26 node t l b.v x b.n)=true:=by first | (simp_all;done) | grind
 iterate 14 refine zW ?_
 rw[jcP hx,lowGo] at hL
 rw[qe hge,qf hok] at hL;refine⟨(n:Int) - 1,x,⟨by omega,hL⟩,by omega,zWk⟩)))))
 ·(
 have hneg:i<0:=by have:=qd hc;omega
 rw[jhm q hneg] at hL;simp only[lowGo] at hL;iterate 6 refine zW ?_
 refine zDr [] ?_;refine zT 0 ?_;refine zT 1 ?_;refine zT 2 ?_;refine zT 3 ?_;refine zT 4 ?_;refine zT 5 ?_;refine zT 6 ?_;refine zT 7 ?_;refine zT 8 ?_;refine zW ?_
 all_goals (
 refine xP ?_
 unfold firstV;rw[<-hI,qe (by rw[hbz];decide),<-hq,<-hL];rfl))))
theorem jtT(l:List Bal)(hlen:l.length<=1000):C0 214 [.sl 2 (l.map bv)] (bv (grM l)):=by
 refine xI Tryz.func214 Tryz.call214 λhcap=>?_;have hml:(l.map bv).length=l.length:=by simp
 refine xL λb2=>?_;refine xL λb3=>?_;refine xN λ_=>?_;iterate 4 refine zW ?_
 refine jag [2,3,6,7] [.box b2 _ _] (λ(k:Nat)(b:Bal) r=>(8,.i (k:Int))::r) (λk b r=>.box b3 53 [.i b.n,.v (.string b.v)]::r) (λk b=>k<=l.length/\(k=0->b=Bal.none)/\(0<k->grGo b (l.drop k)=grM l)) (λk b=>l.length - k) (0) (Bal.none) zRc ⟨by omega,λ_=>rfl,λh=>by omega⟩ (zWk) ?_;intro k b ⟨hk,h0,hI⟩;refine xC ?_ ?_<;>intro hc
 ·(
 have hlt:=qc hc;obtain⟨x,hx,hd⟩:=jab (l:=l) (k:=k) zo;have hx':=jad bv hx;refine xL λb5=>?_;iterate 9 refine zW ?_
 iterate 2 all_goals first | refine zW ?_ | refine xG ?_ ?_<;>intro hg
 all_goals first | (refine zY ?_;refine jaa zRc (jc7 b x) rfl rfl ?_) | refine zSk ?_
 all_goals refine zW ?_
 all_goals (
 refine xC ?_ ?_<;>intro hc
 ·(
 first
 | (exact xQ hc)
 |(
 iterate 11 refine zW ?_
 first
 | (have hk0:=qc (show decide ((k:Int)=0)=true by first | with_reducible assumption | exact hg);obtain rfl:k=0:=zo;refine⟨0+1,x,⟨by omega,λh=>by omega,λ_=>?_⟩,by omega,zWk⟩;rw[List.drop_zero] at hd;rw[hd];rfl)
 | (have hk0:=qd (show decide ((k:Int)=0)=false by first | with_reducible assumption | exact hg);have hl9:lB b x=true:=(by first | with_reducible assumption | exact hc);have hI2:=hI zo;rw[hd] at hI2;simp only[grGo] at hI2;rw[qf hl9] at hI2;refine⟨k+1,x,⟨by omega,λh=>by omega,λ_=>hI2⟩,by omega,zWk⟩)))
 ·(
 first
 | (exact xQ hc)
 |(
 iterate 8 refine zW ?_
 have hk0:=qd (show decide ((k:Int)=0)=false by first | with_reducible assumption | exact hg);have hl9:lB b x=false:=(by first | with_reducible assumption | exact hc);have hI2:=hI zo;rw[hd] at hI2;simp only[grGo] at hI2;rw[qe (by rw[hl9];decide)] at hI2;refine⟨k+1,b,⟨by omega,λh=>by omega,λ_=>hI2⟩,by omega,zWk⟩))))
 ·(
 have hge:=qd hc;refine xP ?_
 have hF:b=grM l:=by
  rcases Nat.eq_zero_or_pos k with h | h
  ·rw[h0 h];cases l with
   | nil=>rfl
   | cons y r=>simp at hge hml;omega
  ·have:=hI h;rw[List.drop_eq_nil_of_le zo] at this;exact this
 rw[<-hF];rfl)
def lowK(v:Str)(fr:Int)(p q:Bal)(k:Nat):Int:=if k=0 then max fr 1 else if k=1 then low1 v (max fr 1) p else lowestV v fr p q
theorem jyB(v:Str)(fr:Int)(p q:Bal)(h:k<2):∃x:Bal,SubL [D.i p.n,D.v (.string p.v),D.i q.n,D.v (.string q.v)] (k * 2) 2 [D.i x.n,D.v (.string x.v)]/\low1 v (lowK v fr p q k) x=lowK v fr p q (k+1):=by
 have:k=0\/k=1:=by omega
 rcases this with rfl | rfl
 ·exact⟨p,by repeat constructor,rfl⟩
 ·exact⟨q,by repeat constructor,rfl⟩
theorem jzw(h:vB b=true):1<=b.n/\b.n<=1000000:=by
 simp only[vB,qh,Bool.or_eq_true,qo] at h;omega
theorem jc2(v:Str)(fr:Int)(p q:Bal):C0 262 [.v (.string v),.i fr,bv p,bv q] (.i (lowestV v fr p q)):=by
 refine xI Tryz.func262 Tryz.call262 λhcap=>?_;refine xX λb6=>?_;refine zBx λb7=>?_;iterate 20 refine zW ?_
 refine jag [0,16] [] (λ(k:Nat)(m:Int) r=>(9,.i m)::(17,.i (k:Int))::r) (λk m r=>r) (λk m=>k<=2/\m=lowK v fr p q k) (λk m=>2 - k) (0) (max fr 1) zRc ⟨by omega,rfl⟩ (zWk) ?_;intro k m ⟨hk,hm⟩;refine xC ?_ ?_<;>intro hc
 ·(
 have hlt:=qc hc;obtain⟨x,hsx,hlx⟩:=jyB v fr p q (k:=k) zo;iterate 6 refine zW ?_
 refine zP (jkG (k:=k) rfl rfl rfl rfl rfl rfl zo hsx) ?_;refine zAl λb11=>?_;refine xA (jdT x) ?_;refine zW ?_
 iterate 4 all_goals first | refine zW ?_ | refine xG ?_ ?_<;>intro hg
 all_goals first | (refine zY ?_;refine jaa zRc (jfc x ⟨m,v⟩) rfl rfl ?_) | refine zSk ?_
 all_goals refine zW ?_
 all_goals (
 refine xC ?_ ?_<;>intro hc
 ·(
 first
 | (exact xQ hc)
 |(
 have h28:(vB x&&abB x ⟨m,v⟩)=true:=by first | (simp_all;done) | grind
 have hxn:=jzw (b:=x) (by rw[qh] at h28;exact h28.1);refine xA (jfc x ⟨x.n,v⟩) ?_;refine xC ?_ ?_<;>intro hc
 ·(
 have h35:abB x ⟨x.n,v⟩=true:=hc;have mk35t:True:=trivial;iterate 12 refine zW ?_
 rw[<-hm] at hlx
 have h9:=mk35t;rw[show low1 v m x=x.n+1 from by unfold low1;rw[qf h28,qf h35]] at hlx;refine⟨k+1,x.n+1,⟨by omega,hlx⟩,by omega,zWk⟩)
 ·(
 have h35:abB x ⟨x.n,v⟩=false:=hc;have mk35f:True:=trivial;iterate 8 refine zW ?_
 rw[<-hm] at hlx
 have h9:=mk35f;rw[show low1 v m x=x.n from by unfold low1;rw[qf h28,qe (by rw[h35];decide)]] at hlx;refine⟨k+1,x.n,⟨by omega,hlx⟩,by omega,zWk⟩)))
 ·(
 first
 | (exact xQ hc)
 |(
 have h28:(vB x&&abB x ⟨m,v⟩)=false:=by first | (simp_all;done) | grind
 have mk28f:True:=trivial;iterate 8 refine zW ?_
 rw[<-hm] at hlx
 first
 | (have h9:=mk35t;rw[show low1 v m x=x.n+1 from by unfold low1;rw[qf h28,qf h35]] at hlx;refine⟨k+1,x.n+1,⟨by omega,hlx⟩,by omega,zWk⟩)
 | (have h9:=mk35f;rw[show low1 v m x=x.n from by unfold low1;rw[qf h28,qe (by rw[h35];decide)]] at hlx;refine⟨k+1,x.n,⟨by omega,hlx⟩,by omega,zWk⟩)
 | (have h9:=mk28f;rw[show low1 v m x=m from by unfold low1;rw[qe (by rw[h28];decide)]] at hlx;refine⟨k+1,m,⟨by omega,hlx⟩,by omega,zWk⟩)))))
 ·(
 have hge:=qd hc;refine xP ?_;refine(icl ?_);obtain rfl:k=2:=by omega
 exact hm)
theorem jro(h:m.phase=1)(h2:(!zB m.conf&&cB m.conf m.bal)=true):envR m=⟨m.node,m.slot,m.seq,m.t,m.phase,m.bal,m.prep,m.prime,m.low,m.conf.n⟩:=by simp[envR,h,h2]
theorem jxv(h:m.phase=1)(h2:(!zB m.conf&&cB m.conf m.bal)=false):envR m=⟨m.node,m.slot,m.seq,m.t,m.phase,m.bal,m.prep,m.prime,m.low,0⟩:=by simp[envR,h,h2]
theorem jwg(h:¬m.phase=1)(h2:m.phase=2):envR m=⟨m.node,m.slot,m.seq,m.t,m.phase,m.bal,m.prep,Bal.none,m.low,m.high⟩:=by simp[envR,h2]
theorem jwe(h:¬m.phase=1)(h2:¬m.phase=2):envR m=⟨m.node,m.slot,m.seq,m.t,m.phase,m.bal,Bal.none,Bal.none,m.low,m.high⟩:=by simp[envR,h,h2]
theorem jaO(m:Mach):C0 207 [mcv m] (ev (envR m)):=by
 refine xI Tryz.func207 Tryz.call207 λhcap=>?_;refine xX λb1=>?_;refine zAl λb2=>?_;refine xL λb3=>?_;refine xC ?_ ?_<;>intro hc
 ·(
 have hp1:=qc hc;refine zW ?_;refine zDr [.box b3 _ _] ?_;refine zT 0 ?_;refine zT 1 ?_;refine zT 2 ?_;refine zT 3 ?_;refine zT 4 ?_;refine zT 5 ?_;refine zT 6 ?_;refine zOn 7 ?_;iterate 2 refine zW ?_
 refine zT 8 ?_;refine zOn 9 ?_;iterate 2 refine zW ?_
 refine zT 10 ?_;refine zOn 11 ?_;iterate 3 refine zW ?_
 all_goals (
 refine xA (jaM m.conf) ?_;iterate 2 refine zW ?_
 iterate 4 all_goals first | refine zW ?_ | refine xG ?_ ?_<;>intro hg
 all_goals first | (refine zY ?_;refine jaa zRc (jbb m.conf m.bal) rfl rfl ?_) | refine zSk ?_
 all_goals refine zW ?_
 all_goals (
 refine xC ?_ ?_<;>intro hc
 ·(
 first
 | (exact xQ hc)
 |(
 iterate 16 refine zW ?_
 refine zPi ?_
 have h5:(!zB m.conf&&cB m.conf m.bal)=true:=(by simp[*];done);rw[jro hp1 h5];rfl))
 ·(
 first
 | (exact xQ hc)
 |(
 iterate 10 refine zW ?_
 refine zPi ?_
 first | (rw[jwg hp1 hp2];rfl) | (rw[jwe hp1 hp2];rfl) | (have h5:(!zB m.conf&&cB m.conf m.bal)=true:=(by simp[*];done);rw[jro hp1 h5];rfl) | (have h5:(!zB m.conf&&cB m.conf m.bal)=false:=(by simp[*];done);rw[jxv hp1 h5];rfl))))))
 ·(
 have hp1:=qd hc;refine xC ?_ ?_<;>intro hc
 ·(
 have hp2:=qc hc;refine zDr [.box b3 _ _] ?_;refine zT 0 ?_;refine zT 1 ?_;refine zT 2 ?_;refine zT 3 ?_;refine zT 4 ?_;refine zT 5 ?_;refine zT 6 ?_;refine zOn 7 ?_;iterate 2 refine zW ?_
 refine zT 8 ?_;refine zOn 9 ?_;iterate 2 refine zW ?_
 refine zT 10 ?_;refine zOn 11 ?_;iterate 3 refine zW ?_
 all_goals (
 refine xP ?_
 rw[jwg hp1 hp2];rfl))
 ·(
 have hp2:=qd hc;refine zDr [.box b3 _ _] ?_;refine zT 0 ?_;refine zT 1 ?_;refine zT 2 ?_;refine zT 3 ?_;refine zT 4 ?_;refine zOn 5 ?_;iterate 2 refine zW ?_
 refine zT 6 ?_;refine zOn 7 ?_;iterate 3 refine zW ?_
 all_goals (
 refine xP ?_
 rw[jwe hp1 hp2];rfl)))
theorem jbn(b:Bal):C0 258 [bv b] (bv (finB1 b)):=by
 refine xI Tryz.func258 Tryz.call258 λhcap=>?_;refine xX λb1=>?_;refine zAl λb2=>?_;refine xC ?_ ?_<;>intro hc
 ·(
 have h1:=qc hc;refine xP ?_;unfold finB1 bv
 rw[qf zo];rfl)
 ·(
 have h1:=qd hc;refine xP ?_;unfold finB1 bv
 rw[qe zo];rfl)
theorem jaz(a b:Mach):C0 244 [mcv a,mcv b] (.b (sameV a b)):=by
 refine xI Tryz.func244 Tryz.call244 λhcap=>?_;refine xX λb2=>?_;refine zBx λb3=>?_;iterate 11 refine zW ?_
 iterate 4 all_goals first | refine zW ?_ | refine xG ?_ ?_<;>intro hg
 all_goals first | (refine zY ?_;refine zP (jej rfl zRc rfl zRc (jvL _ _ _ _)) ?_) | refine zSk ?_
 iterate 6 all_goals first | refine zW ?_ | refine xG ?_ ?_<;>intro hg
 all_goals first | (refine zY ?_;refine zP (jej rfl zRc rfl zRc (jvL _ _ _ _)) ?_) | refine zSk ?_
 iterate 6 all_goals first | refine zW ?_ | refine xG ?_ ?_<;>intro hg
 all_goals first | (refine zY ?_;refine zP (jej rfl zRc rfl zRc (jvL _ _ _ _)) ?_) | refine zSk ?_
 iterate 6 all_goals first | refine zW ?_ | refine xG ?_ ?_<;>intro hg
 all_goals first | (refine zY ?_;refine zP (jej rfl zRc rfl zRc (jvL _ _ _ _)) ?_) | refine zSk ?_
 iterate 16 all_goals first | refine zW ?_ | refine xG ?_ ?_<;>intro hg
 all_goals (
 refine xP ?_;refine(bcl ?_)
 first | rfl | (simp only[sameV];simp[*];done))
theorem jfe(m:Mach)(hlen:m.heard.length<=100):C0 184 [mcv m] (.v (.string (valM m))):=by
 refine xI Tryz.func184 Tryz.call184 λhcap=>?_;have hmlen:(m.heard.map ev).length=m.heard.length:=by simp
 refine xX λb1=>?_;refine xA (jaM m.conf) ?_;refine xC ?_ ?_<;>intro hc
 ·(
 have h1:(!zB m.conf)=true:=hc;refine xP ?_
 unfold valM;rw[qf h1];rfl)
 ·(
 have h1:(!zB m.conf)=false:=hc;refine xC ?_ ?_<;>intro hc
 ·(
 have h2:(!decide (m.phase=1))=true:=hc;refine xP ?_
 unfold valM;rw[qe (by rw[h1];decide),qf h2];rfl)
 ·(
 have h2:(!decide (m.phase=1))=false:=hc;refine xC ?_ ?_<;>intro hc
 ·(
 have h3:(!decide (m.prop=noS))=true:=hc;refine xP ?_
 unfold valM;rw[qe (by rw[h1];decide),qe (by rw[h2];decide),qf h3];rfl)
 ·(
 have h3:(!decide (m.prop=noS))=false:=hc;refine xN λ_=>?_;iterate 4 refine zW ?_
 refine jax [25,26] [] (λ(k:Nat)(v:Value)(q:List Bal) r=>(3,.v v)::(27,.i (k:Int))::r) (λk v q r=>.arr v 53 2 (q.map bv)::r) (λk v q=>k<=m.heard.length/\q.length=k/\q=(m.heard.take k).map Evp.bal) (λk v q=>m.heard.length - k) (0) (.slice none 0 0) ([]) zRc ⟨by omega,rfl,by simp⟩ ((jaF 53 2 rfl).trans (zWk)) ?_;intro k v q ⟨hk,hql,hI⟩;have hqm:(q.map bv).length=q.length:=by simp
 refine xC ?_ ?_<;>intro hc
 ·(
 have hlt:=qc hc;obtain⟨x,hx,hd⟩:=jab (l:=m.heard) (k:=k) zo;have hx':=jad ev hx;refine xL λb5=>?_;iterate 7 refine zW ?_
 refine xLt 53 2 24 ?_;refine xEa 53 2 24 λv35 hv35=>?_;iterate 9 refine zW ?_
 rw[show List.map bv q++[D.agg [.i x.bal.n,.v (.string x.bal.v)]]=(q++[x.bal]).map bv from by rw[List.map_append];rfl]
 refine⟨k+1,_,q++[x.bal],⟨by omega,by simp;omega,by rw[List.take_add_one,hx,hI];simp⟩,by omega,zWk⟩)
 ·(
 have hge:=qd hc;refine zFz v [3] ?_;have hF:q=m.heard.map Evp.bal:=by rw[hI,qC zo]
 refine xA (jtT q zo) ?_;refine xP ?_
 unfold valM;rw[qe (by rw[h1];decide),qe (by rw[h2];decide),qe (by rw[h3];decide),<-hF];rfl))))
theorem joL(e:Evp):∀l:List Evp,(insE e l).length=l.length+1
 | []=>rfl
 | x::r=>by
  simp only[insE];split
  ·simp
  ·simp[joL e r]
theorem jeq{p:Evp->Prop}{e:Evp}:∀{l:List Evp},(∀x∈l,p x)->p e->∀x∈insE e l,p x
 | [],h,he,x,hx=>by simp only[insE,List.mem_cons,qv,or_false] at hx;rw[hx];exact he
 | y::r,h,he,x,hx=>by
  simp only[insE] at hx;split at hx
  ·rcases zf hx with rfl | hx
   ·exact he
   ·exact h x hx
  ·rcases zf hx with rfl | hx
   ·exact h _ (za)
   ·exact jeq (λz hz=>h z (qj _ hz)) he x hx
theorem jgN(m:Mach):(allM m).length<=m.heard.length+1:=by
 unfold allM;split
 ·omega
 ·rw[joL];omega
theorem jdK(hs:sizeT m.t<=k)(hh:∀e∈m.heard,sizeT e.t<=k):∀e∈allM m,sizeT e.t<=k:=by
 unfold allM;split
 ·exact hh
 ·exact jeq hh hs
def allQ(p:Bool)(q:List Evp)(z:Evp)(r:List Evp):List Evp:=if p=true then q++r else q++insE z r
theorem jwq(h:x.node>z.node):allQ false q z (x::r)=allQ true ((q++[z])++[x]) z r:=by
 simp only[allQ,insE];rw[qf h];simp
theorem jzq(h:¬x.node>z.node):allQ false q z (x::r)=allQ false (q++[x]) z r:=by
 simp only[allQ,insE];rw[qe h];simp
theorem jzf:allQ true q z (x::r)=allQ true (q++[x]) z r:=by
 simp[allQ]
theorem jbf(m:Mach)(hlen:m.heard.length<=40):C0 260 [mcv m] (.sl 15 ((allM m).map ev)):=by
 refine xI Tryz.func260 Tryz.call260 λhcap=>?_;have hmlen:(m.heard.map ev).length=m.heard.length:=by simp
 refine xX λb1=>?_;refine xA (jaM m.bal) ?_;refine xC ?_ ?_<;>intro hc
 ·(
 have hbz:zB m.bal=true:=hc;refine xP ?_
 unfold allM;rw[qf hbz];rfl)
 ·(
 have hbz:zB m.bal=false:=hc;refine xA (jaO m) ?_;refine zAl λb3=>?_;iterate 10 refine zW ?_
 obtain⟨z,hz⟩:∃z:Evp,z=sayR m:=⟨_,rfl⟩
 rw[show [D.i (envR m).node,.i (envR m).slot,.i (max (envR m).seq 1),.i (envR m).t.th,.sl 1 ((envR m).t.nodes.map .i),.sl 3 (avs (envR m).t.inner),.i (envR m).kind,.i (envR m).bal.n,.v (.string (envR m).bal.v),.i (envR m).prep.n,.v (.string (envR m).prep.v),.i (envR m).prime.n,.v (.string (envR m).prime.v),.i (envR m).low,.i (envR m).high]=[D.i z.node,.i z.slot,.i z.seq,.i z.t.th,.sl 1 (z.t.nodes.map .i),.sl 3 (avs z.t.inner),.i z.kind,.i z.bal.n,.v (.string z.bal.v),.i z.prep.n,.v (.string z.prep.v),.i z.prime.n,.v (.string z.prime.v),.i z.low,.i z.high] from by rw[hz];rfl];refine xN λ_=>?_;iterate 4 refine zW ?_
 refine jbq [3,20,21] [.box b3 _ _] (λ(k:Nat)(v:Value)(q:List Evp)(p:Bool) r=>(4,.v v)::(5,.b p)::(22,.i (k:Int))::r) (λk v q p r=>.arr v 55 15 (q.map ev)::r) (λk v q p=>k<=m.heard.length/\q.length<=2 * k/\allQ p q z (m.heard.drop k)=allM m) (λk v q p=>m.heard.length - k) (0) (.slice none 0 0) ([]) (false) zRc ⟨by omega,by simp,by unfold allM;rw[qe (by rw[hbz];decide),<-hz];simp[allQ]⟩ ((jaF 55 15 rfl).trans (zWk)) ?_;intro k v q p ⟨hk,hql,hI⟩;have hqm:(q.map ev).length=q.length:=by simp
 refine xC ?_ ?_<;>intro hc
 ·(
 have hlt:=qc hc;obtain⟨x,hx,hd⟩:=jab (l:=m.heard) (k:=k) zo;have hx':=jad ev hx;refine xL λb7=>?_;iterate 9 refine zW ?_
 iterate 6 all_goals first | refine zW ?_ | refine xG ?_ ?_<;>intro hg
 all_goals (
 refine xC ?_ ?_<;>intro hc
 ·(
 first
 | (exact xQ hc)
 |(
 have hgt:x.node>z.node:=qc hc;have hpf:p=false:=by first | with_reducible assumption | exact jaw hg
 iterate 3 refine zW ?_
 refine xLt 55 15 176 ?_;refine xEa 55 15 176 (hb:=xLb) λv38 hv38=>?_;iterate 7 refine zW ?_
 refine xLt 55 15 176 ?_;refine xEa 55 15 176 (hb:=xLb) λv42 hv42=>?_;iterate 9 refine zW ?_
 rw[hd] at hI
 have h38:Value:=v38;have hp:p=false:=hpf;subst hp;rw[jwq hgt] at hI;rw[show D.agg [.i z.node,.i z.slot,.i z.seq,.i z.t.th,.sl 1 (z.t.nodes.map .i),.sl 3 (avs z.t.inner),.i z.kind,.i z.bal.n,.v (.string z.bal.v),.i z.prep.n,.v (.string z.prep.v),.i z.prime.n,.v (.string z.prime.v),.i z.low,.i z.high]=ev z from rfl,show D.agg [.i x.node,.i x.slot,.i x.seq,.i x.t.th,.sl 1 (x.t.nodes.map .i),.sl 3 (avs x.t.inner),.i x.kind,.i x.bal.n,.v (.string x.bal.v),.i x.prep.n,.v (.string x.prep.v),.i x.prime.n,.v (.string x.prime.v),.i x.low,.i x.high]=ev x from rfl,jd7,jd7];refine⟨k+1,_,(q++[z])++[x],true,⟨by omega,by simp;omega,hI⟩,by omega,zWk⟩))
 ·(
 first
 | (exact xQ hc)
 |(
 first | (have hp9:p=false:=jaw hg) | (have hp9:p=true:=jav hg) | skip
 iterate 5 refine zW ?_
 refine xLt 55 15 176 ?_;refine xEa 55 15 176 (hb:=xLb) λv42 hv42=>?_;iterate 9 refine zW ?_
 rw[hd] at hI
 first
 | (have h38:Value:=v38;have hp:p=false:=hpf;subst hp;rw[jwq hgt] at hI;rw[show D.agg [.i z.node,.i z.slot,.i z.seq,.i z.t.th,.sl 1 (z.t.nodes.map .i),.sl 3 (avs z.t.inner),.i z.kind,.i z.bal.n,.v (.string z.bal.v),.i z.prep.n,.v (.string z.prep.v),.i z.prime.n,.v (.string z.prime.v),.i z.low,.i z.high]=ev z from rfl,show D.agg [.i x.node,.i x.slot,.i x.seq,.i x.t.th,.sl 1 (x.t.nodes.map .i),.sl 3 (avs x.t.inner),.i x.kind,.i x.bal.n,.v (.string x.bal.v),.i x.prep.n,.v (.string x.prep.v),.i x.prime.n,.v (.string x.prime.v),.i x.low,.i x.high]=ev x from rfl,jd7,jd7];refine⟨k+1,_,(q++[z])++[x],true,⟨by omega,by simp;omega,hI⟩,by omega,zWk⟩)
 | (have hp:p=true:=zO;subst hp;rw[jzf] at hI;rw[show D.agg [.i x.node,.i x.slot,.i x.seq,.i x.t.th,.sl 1 (x.t.nodes.map .i),.sl 3 (avs x.t.inner),.i x.kind,.i x.bal.n,.v (.string x.bal.v),.i x.prep.n,.v (.string x.prep.v),.i x.prime.n,.v (.string x.prime.v),.i x.low,.i x.high]=ev x from rfl,jd7];refine⟨k+1,_,q++[x],true,⟨by omega,by simp;omega,hI⟩,by omega,zWk⟩)
 | (have hp:p=false:=zO;subst hp;rw[jzq (qd hc)] at hI;rw[show D.agg [.i x.node,.i x.slot,.i x.seq,.i x.t.th,.sl 1 (x.t.nodes.map .i),.sl 3 (avs x.t.inner),.i x.kind,.i x.bal.n,.v (.string x.bal.v),.i x.prep.n,.v (.string x.prep.v),.i x.prime.n,.v (.string x.prime.v),.i x.low,.i x.high]=ev x from rfl,jd7];refine⟨k+1,_,q++[x],false,⟨by omega,by simp;omega,hI⟩,by omega,zWk⟩)))))
 ·(
 have hge:=qd hc;rw[jae zo] at hI;refine xC ?_ ?_<;>intro hc
 ·(
 have hpf:p=false:=jaw hc;iterate 3 refine zW ?_
 refine xLt 55 15 176 ?_;refine xEa 55 15 176 (hb:=xLb) λv49 hv49=>?_;iterate 9 refine zW ?_
 rw[show D.agg [.i z.node,.i z.slot,.i z.seq,.i z.t.th,.sl 1 (z.t.nodes.map .i),.sl 3 (avs z.t.inner),.i z.kind,.i z.bal.n,.v (.string z.bal.v),.i z.prep.n,.v (.string z.prep.v),.i z.prime.n,.v (.string z.prime.v),.i z.low,.i z.high]=ev z from rfl,jd7];refine zFz v49 [2] ?_;refine xP ?_
 rw[<-hI,hpf];first | rfl | (simp[allQ,resD];done))
 ·(
 have hpf:p=true:=jav hc;iterate 8 refine zW ?_
 refine zFz v [2] ?_;refine xP ?_
 rw[<-hI,hpf];first | rfl | (simp[allQ,resD];done))))
theorem jiV(m:Mach)(hlen:m.heard.length<=40)(hs:sizeT m.t<=200000)(hh:∀e∈m.heard,sizeT e.t<=200000)(n:Int):C0 267 [mcv m,.i n] (.b (aheadV m n)):=by
 refine xI Tryz.func267 Tryz.call267 λhcap=>?_;have hmlen:(m.heard.map ev).length=m.heard.length:=by simp
 refine xX λb2=>?_;refine xN λ_=>?_;iterate 4 refine zW ?_
 refine jag [1,2,9,10] [.box b2 _ _] (λ(k:Nat)(v:Value) r=>(5,.v v)::(11,.i (k:Int))::r) (λk v r=>.arr v 4 1 (((m.heard.take k).map (λe=>decide (cntR e>n))).map bV)::r) (λk v=>k<=m.heard.length) (λk v=>m.heard.length - k) (0) (.slice none 0 0) zRc zo ((jaF 4 1 rfl).trans (zWk)) ?_;intro k v hk;have hqm:(((m.heard.take k).map (λe=>decide (cntR e>n))).map bV).length=k:=by simp;omega
 refine xC ?_ ?_<;>intro hc
 ·(
 have hlt:=qc hc;obtain⟨x,hx,hd⟩:=jab (l:=m.heard) (k:=k) zo;have hx':=jad ev hx;have hxs:=hh x (qk hx);refine xL λb7=>?_;refine xA (jdC x zo) ?_;iterate 2 refine zW ?_
 refine xLt 4 1 1 ?_;refine xEa 4 1 1 (hb:=xLb) λv21 hv21=>?_;iterate 9 refine zW ?_
 rw[bsn,<-jb4 (λe=>decide (cntR e>n)) hx]
 refine⟨k+1,_,by omega,by omega,zWk⟩)
 ·(
 have hge:=qd hc;rw[qC (show m.heard.length<=k by omega)];refine zFz v [2,5] ?_;iterate 6 refine zW ?_
 refine zDr [] ?_;refine zT 0 ?_;refine zT 1 ?_;refine zT 2 ?_;refine zT 3 ?_;refine zT 4 ?_;refine zT 7 ?_;refine zT 8 ?_;refine zT 9 ?_;refine zT 10 ?_;refine zT 11 ?_;refine zOn 5 ?_;refine xA (jbf m hlen) ?_;refine zW ?_;refine zOn 6 ?_;refine xA (jcC m.node m.t (allM m) (λe he=>by have:=jdK hs hh e he;omega)) ?_;refine zW ?_;refine zOn 12 ?_;refine xB (jdA m.heard (m.heard.map (λe=>decide (cntR e>n))) (by simp)) ?_;rintro _ _ ⟨rfl,rfl⟩;rw[jgT];refine zW ?_;refine zOn 13 ?_;refine xA (jeX _ _ _) ?_;refine zW ?_;refine zT 14 ?_;refine zW ?_
 all_goals (
 refine xP ?_;exact rfl))
def okP(p:Option Int)(e:Evp):Bool:=match p with | none=>true | some q=>decide (q<e.node)
def prevE(l:List Evp)(k:Nat):Option Int:=if k=0 then none else (l[k - 1]?).map Evp.node
theorem jdk(m:Mach)(p:Option Int)(e:Evp)(r:List Evp):heardGo m p (e::r)=((vE e&&(decide (e.slot=m.slot)&&(!decide (e.node=m.node)&&okP p e)))&&heardGo m (some e.node) r):=by cases p<;>rfl
theorem jpH(h:l[k]?=some x):prevE l (k+1)=some x.node:=by
 unfold prevE;rw[qe zo,Nat.add_sub_cancel,h];rfl
theorem jzl{y:Evp}(hy:0<k->l[k - 1]?=some y):okP (prevE l k) x=if (0:Int)<(k:Int) then decide (y.node<x.node) else true:=by
 unfold prevE
 by_cases h:k=0
 ·rw[qf h,qe zo];rfl
 ·rw[qe h,qf zo,hy zo];rfl
theorem jwZ(x:Evp)(h:k<=l.length):∃y,0<k->l[k - 1]?=some y:=by
 rcases Nat.eq_zero_or_pos k with h0 | h0
 ·exact⟨x,λh1=>by omega⟩
 ·exact⟨l[k - 1]'zo,λ_=>ze _⟩
def headN(m:Mach):Bool:=decide (0<=m.node)&&(decide (m.node<10)&&(decide (1<=m.slot)&&(decide (m.slot<=1000000)&&(decide (0<=m.seq)&&(decide (m.seq<=1000000)&&(decide (validT m.t=0)&&decide (m.prop.size<=200)))))))
def headRb(m:Mach):Bool:=decide (m.node<0)||(decide (m.node>9)||(decide (m.slot<1)||(decide (m.slot>1000000)||(decide (m.seq<0)||(decide (m.seq>1000000)||(!decide (validT m.t=0)||decide ((m.prop.size:Int)>200)))))))
theorem jnZ(m:Mach):headN m=!headRb m:=by
 rw[Bool.eq_iff_iff];simp only[headN,headRb,qh,qo,Bool.not_eq_true',Bool.or_eq_false_iff,decide_eq_false_iff_not,Bool.not_eq_false',gt_iff_lt];omega
theorem jf6(m:Mach):headM m=(headN m&&heardM m):=by
 simp only[headM,headN,Bool.and_assoc]
def bad2(m:Mach):Bool:=(!decide (m.phase=2)&&!decide (m.phase=3))&&!decide (m.high=0)
def bad3(m:Mach):Bool:=(decide (m.phase=3)&&(!zB m.prep||!zB m.prime))||(decide (m.phase=2)&&!zB m.prime)
def bad4(m:Mach):Bool:=!vB m.conf||decide (m.conf.n>1000)
theorem jyq(h:headRb m=true):checkM m=false:=by
 unfold checkM;rw[jf6,jnZ,h];rfl
theorem jxZ(h:heardM m=false):checkM m=false:=by
 unfold checkM;rw[jf6,h,qB];rfl
theorem jxu(h:headRb m=false)(h2:heardM m=true):headM m=true:=by
 rw[jf6,jnZ,h,h2];rfl
theorem jxi(h:headM m=true)(hz:zB m.bal=true):checkM m=freshM m:=by
 unfold checkM;rw[h,qf hz,qx]
theorem jfm(h:headM m=true)(hz:zB m.bal=false):checkM m=(vE (msgM m)&&(confM m&&((!decide (m.phase=1)||decide (m.high=0))&&((decide (m.phase=1)||zB m.prime)&&(!decide (m.phase=3)||zB m.prep))))):=by
 unfold checkM;rw[h,hz];rfl
theorem jfo(h:vE e=true):kindE e=true:=by
 unfold vE at h;exact(qh _ _ ▸ h).2
theorem jnR(h:kindE e=true):e.kind=1\/e.kind=2\/e.kind=3:=by
 unfold kindE at h
 by_cases h1:e.kind=1
 ·exact .inl h1
 ·(
 rw[qe h1] at h
 by_cases h2:e.kind=2
 ·exact .inr (.inl h2)
 ·(
 rw[qe h2] at h
 by_cases h3:e.kind=3
 ·exact .inr (.inr h3)
 ·rw[qe h3] at h;cases h))
theorem jaR(h:zB b=true):b=Bal.none:=by
 cases b;simp only[zB,qh,qo] at h;rw[h.1,h.2];rfl
theorem jjE(h1:(decide (m.phase=1)||zB m.prime)=true)(h2:(!decide (m.phase=3)||zB m.prep)=true)(h3:m.phase=1\/m.phase=2\/m.phase=3):envR m=msgM m:=by
 rcases h3 with h | h | h
 ·simp[envR,msgM,h]
 ·(
 have:m.prime=Bal.none:=jaR (by simpa[h] using h1)
 simp[envR,msgM,h,this])
 ·(
 have e1:m.prime=Bal.none:=jaR (by simpa[h] using h1);have e2:m.prep=Bal.none:=jaR (by simpa[h] using h2)
 simp[envR,msgM,h,e1,e2])
theorem jxg(h:headM m=true)(hz:zB m.bal=false)(hv:vE (envR m)=false):checkM m=false:=by
 rw[jfm h hz];apply Bool.eq_false_iff.2;intro hx;simp only[qh] at hx;obtain⟨q1,_,_,q4,q5⟩:=hx;rw[jjE q4 q5 (jnR (jfo q1)),q1] at hv;cases hv
theorem jxj(h:headM m=true)(hz:zB m.bal=false)(hb:bad2 m=true):checkM m=false:=by
 rw[jfm h hz];apply Bool.eq_false_iff.2;intro hx;simp only[qh] at hx;obtain⟨q1,_,q3,_,_⟩:=hx;have hk:m.phase=1\/m.phase=2\/m.phase=3:=jnR (e:=msgM m) (jfo q1);simp only[bad2,qh,Bool.not_eq_true',decide_eq_false_iff_not] at hb;have h1:m.phase=1:=by omega
 simp[h1] at q3;exact hb.2 q3
theorem jxl(h:headM m=true)(hz:zB m.bal=false)(hb:bad3 m=true):checkM m=false:=by
 rw[jfm h hz];apply Bool.eq_false_iff.2;intro hx;simp only[qh] at hx;obtain⟨_,_,_,q4,q5⟩:=hx;unfold bad3 at hb
 by_cases h3:m.phase=3
 ·(
 simp[h3] at hb q4 q5;rcases hb with hb | hb
 ·rw[hb] at q5;cases q5
 ·rw[hb] at q4;cases q4)
 ·(
 by_cases h2:m.phase=2
 ·(
 simp[h2] at hb q4
 rw[hb] at q4;cases q4)
 ·simp[h3,h2] at hb)
theorem jzu(hv:vE (envR m)=true)(hb:bad3 m=false):(m.phase=1\/m.phase=2\/m.phase=3)/\(decide (m.phase=1)||zB m.prime)=true/\(!decide (m.phase=3)||zB m.prep)=true:=by
 have hk:m.phase=1\/m.phase=2\/m.phase=3:=jnR (e:=envR m) (jfo hv);refine⟨hk,?_⟩;unfold bad3 at hb;rcases hk with h | h | h<;>simp[h] at hb ⊢
 ·exact hb
 ·exact⟨hb.2,hb.1⟩
theorem jjY(h:headM m=true)(hz:zB m.bal=false)(hv:vE (envR m)=true)(h2:bad2 m=false)(h3:bad3 m=false):checkM m=confM m:=by
 obtain⟨hk,q4,q5⟩:=jzu hv h3;rw[jfm h hz,<-jjE q4 q5 hk,hv,q4,q5,qx]
 have q3:(!decide (m.phase=1)||decide (m.high=0))=true:=by
  unfold bad2 at h2;rcases hk with h | h | h<;>simp[h] at h2 ⊢
  exact h2
 rw[q3];simp
theorem jnK(h:zB m.conf=true):confM m=true:=by unfold confM;rw[qf h]
theorem jq6(m:Mach):(!vB m.conf||decide (1000<m.conf.n))=bad4 m:=rfl
theorem jr4(h:zB m.conf=false)(hb:bad4 m=true):confM m=false:=by unfold confM;rw[qe (by rw[h];decide),qf (by rw[jq6];exact hb)]
theorem jv4(h:zB m.conf=false)(hb:bad4 m=false):confM m=(prB m.prep m.prime m.conf||(!decide (m.phase=1)&&cB m.conf m.bal)):=by unfold confM;rw[qe (by rw[h];decide),qe (by rw[jq6,hb];decide)]
theorem jvZ(h:zB m.conf=false)(hb:bad4 m=false)(h1:m.phase=1):confM m=prB m.prep m.prime m.conf:=by
 rw[jv4 h hb];simp[h1]
theorem pr_z{p q:Bal}(hq:zB q=true):prB p q b=covB p b:=by simp[prB,covB,hq]
theorem jzU(h:zB m.conf=false)(hb:bad4 m=false)(h1:¬m.phase=1)(hv:vE (envR m)=true)(h3:bad3 m=false):confM m=cB m.conf m.bal:=by
 obtain⟨hk,q4,q5⟩:=jzu hv h3;rw[jv4 h hb];have hp:zB m.prime=true:=by simpa[h1] using q4
 rw[pr_z hp]
 have hx:covB m.prep m.conf=true->cB m.conf m.bal=true:=by
  intro hc;simp only[covB,qh,Bool.not_eq_true',cB,qo] at hc
  by_cases h2:m.phase=2
  ·have hk2:=jfo hv
   rw[jjE q4 q5 hk] at hk2;unfold kindE at hk2;rw[qe (show ¬(msgM m).kind=1 from h1),qf (show (msgM m).kind=2 from h2)] at hk2;simp only[msgM,qh,cB,qo] at hk2;simp only[cB,qo];rw[<-hc.2.1,hk2.2.2.1]
  ·have h4:m.phase=3:=by omega
   have:zB m.prep=true:=by simpa[h4] using q5
   rw[this] at hc;cases hc.1
 cases hcb:cB m.conf m.bal with
 | true=>simp[h1]
 | false =>
  have:covB m.prep m.conf=false:=by
   apply Bool.eq_false_iff.2;intro hc;rw[hx hc] at hcb;cases hcb
  rw[this];simp
theorem jc3(m:Mach)(hs:sizeT m.t<=1000000000)(hh:∀e∈m.heard,sizeT e.t<=1000000000):C0 167 [mcv m] (.b (checkM m)):=by
 refine xI Tryz.func167 Tryz.call167 λhcap=>?_;have hmlen:(m.heard.map ev).length=m.heard.length:=by simp
 refine xX λb1=>?_;iterate 10 refine zW ?_
 iterate 27 all_goals first | refine zW ?_ | refine xG ?_ ?_<;>intro hg
 all_goals first | (refine zY ?_;refine jaa zRc (jaI m.t hs) rfl rfl ?_) | refine zSk ?_
 iterate 8 all_goals first | refine zW ?_ | refine xG ?_ ?_<;>intro hg
 all_goals (
 refine xC ?_ ?_<;>intro hc
 ·(
 first
 | (exact xQ hc)
 |(
 have hd1:headRb m=true:=by first | (simp only[headRb, *,Bool.or_true,Bool.true_or,Bool.or_false,Bool.false_or,Bool.and_true,qx,qB,qy,Bool.not_true,Bool.not_false];done) | (simp only[headRb];simp[*];done) | grind[headRb]
 refine xP ?_;refine(bcl ?_)
 rw[jyq hd1]))
 ·(
 first
 | (exact xQ hc)
 |(
 have hd1:headRb m=false:=by first | (simp only[headRb, *,Bool.or_true,Bool.true_or,Bool.or_false,Bool.false_or,Bool.and_true,qx,qB,qy,Bool.not_true,Bool.not_false];done) | (simp only[headRb];simp[*];done) | grind[headRb]
 refine xN λ_=>?_;iterate 4 refine zW ?_
 refine jah [1,46,47] [.box b1 _ _] (λ(k:Nat) r=>(48,.i (k:Int))::r) (λk r=>r) (λk=>k<=m.heard.length/\heardGo m (prevE m.heard k) (m.heard.drop k)=heardM m) (λk=>m.heard.length - k) (0) zRc ⟨by omega,rfl⟩ (zWk) ?_;intro k ⟨hk,hI⟩;refine xC ?_ ?_<;>intro hc
 ·(
 have hlt:=qc hc;obtain⟨x,hx,hd⟩:=jab (l:=m.heard) (k:=k) zo;have hx':=jad ev hx;obtain⟨y,hy⟩:=jwZ x hk;have hq:=jzl (x:=x) hy;have hxs:=hh x (qk hx);refine xL λb4=>?_;iterate 5 refine zW ?_
 refine zDr [] ?_;refine zT 0 ?_;refine zOn 1 ?_;refine xA (jaA x hxs) ?_;refine zW ?_;refine zT 2 ?_;refine zT 3 ?_;refine jai 3 rfl (λhg=>?_) λhg=>?_
 rotate_left
 case' _ =>(
 refine zT 4 ?_;refine zT 5 ?_;refine zT 6 ?_;refine zT 7 ?_;refine zT 8 ?_;refine zT 9 ?_;refine zT 10 ?_;refine jai 10 rfl (λhg=>?_) λhg=>?_
 rotate_left
 case' _ =>(
 refine zT 11 ?_;refine zT 12 ?_;refine zT 13 ?_;refine zT 14 ?_;refine zT 15 ?_;refine zT 16 ?_;refine zT 17 ?_;refine jai 17 rfl (λhg=>?_) λhg=>?_
 rotate_left
 case' _ =>(
 refine zT 18 ?_;refine zT 19 ?_;refine zT 20 ?_;refine jai 20 rfl (λhg=>?_) λhg=>?_
 rotate_left
 case' _ =>(
 refine zK 21 ?_;refine zK 22 ?_;refine zK 23 ?_;refine zK 24 ?_;refine zK 25 ?_;refine zK 26 ?_;refine zK 27 ?_;refine zK 28 ?_;refine zK 29 ?_;refine zK 30 ?_;refine zT 31 ?_;refine zT 32 ?_
 refine zW ?_)
 rotate_right
 case' _ =>(
 refine zT 21 ?_;refine zT 22 ?_;refine zT 23 ?_;refine zT 24 ?_;refine jam 25 rfl zGd zKr zKr zKr (AP.ar (jap (k:=k - 1) rfl rfl rfl rfl zd (by have h9:decide ((k:Int)>0)=true:=(by first | with_reducible assumption | exact hg);have:=qc h9;omega) (jad ev (hy (by have h9:decide ((k:Int)>0)=true:=(by first | with_reducible assumption | exact hg);have:=qc h9;omega))))) rfl rfl ?_;refine zT 26 ?_;refine zT 27 ?_;refine zT 28 ?_;refine zT 29 ?_;refine zT 30 ?_;refine zT 31 ?_;refine zT 32 ?_
 refine zW ?_))
 rotate_right
 case' _ =>(
 refine zK 18 ?_;refine zK 19 ?_;refine zKu 20 ?_;refine zK 21 ?_;refine zK 22 ?_;refine zK 23 ?_;refine zK 24 ?_;refine zK 25 ?_;refine zK 26 ?_;refine zK 27 ?_;refine zK 28 ?_;refine zK 29 ?_;refine zK 30 ?_;refine zK 31 ?_;refine zT 32 ?_
 refine zW ?_))
 rotate_right
 case' _ =>(
 refine zK 11 ?_;refine zK 12 ?_;refine zK 13 ?_;refine zK 14 ?_;refine zK 15 ?_;refine zT 16 ?_;refine zT 17 ?_;refine zK 18 ?_;refine zK 19 ?_;refine zKu 20 ?_;refine zK 21 ?_;refine zK 22 ?_;refine zK 23 ?_;refine zK 24 ?_;refine zK 25 ?_;refine zK 26 ?_;refine zK 27 ?_;refine zK 28 ?_;refine zK 29 ?_;refine zK 30 ?_;refine zK 31 ?_;refine zT 32 ?_
 refine zW ?_))
 rotate_right
 case' _ =>(
 refine zK 4 ?_;refine zK 5 ?_;refine zK 6 ?_;refine zK 7 ?_;refine zK 8 ?_;refine zT 9 ?_;refine zT 10 ?_;refine zK 11 ?_;refine zK 12 ?_;refine zK 13 ?_;refine zK 14 ?_;refine zK 15 ?_;refine zT 16 ?_;refine zT 17 ?_;refine zK 18 ?_;refine zK 19 ?_;refine zKu 20 ?_;refine zK 21 ?_;refine zK 22 ?_;refine zK 23 ?_;refine zK 24 ?_;refine zK 25 ?_;refine zK 26 ?_;refine zK 27 ?_;refine zK 28 ?_;refine zK 29 ?_;refine zK 30 ?_;refine zK 31 ?_;refine zT 32 ?_
 refine zW ?_)
 all_goals (
 refine xC ?_ ?_<;>intro hc
 ·(
 first
 | (exact xQ hc)
 |(
 have hq0:(vE x&&(decide (x.slot=m.slot)&&(!decide (x.node=m.node)&&okP (prevE m.heard k) x)))=false:=by rw[hq];first | (simp[*];done) | grind
 refine xP ?_;refine(bcl ?_);rw[hd,jdk,hq0,qy] at hI
 rw[jxZ hI.symm]))
 ·(
 first
 | (exact xQ hc)
 |(
 have hq0:(vE x&&(decide (x.slot=m.slot)&&(!decide (x.node=m.node)&&okP (prevE m.heard k) x)))=true:=by rw[hq];first | (simp[*];done) | grind
 iterate 8 refine zW ?_
 rw[hd,jdk,hq0,qx,<-jpH hx] at hI
 refine⟨k+1,⟨by omega,hI⟩,by omega,zWk⟩))))
 ·(
 have hge:=qd hc;rw[jae zo] at hI;have hhd:headM m=true:=jxu hd1 hI.symm;refine xA (jaM m.bal) ?_;refine xC ?_ ?_<;>intro hc
 ·(
 have hz:zB m.bal=true:=hc;iterate 6 refine zW ?_
 iterate 7 all_goals first | refine zW ?_ | refine xG ?_ ?_<;>intro hg
 all_goals first | (refine zY ?_;refine jaa zRc (jaM m.prep) rfl rfl ?_) | refine zSk ?_
 iterate 4 all_goals first | refine zW ?_ | refine xG ?_ ?_<;>intro hg
 all_goals first | (refine zY ?_;refine jaa zRc (jaM m.prime) rfl rfl ?_) | refine zSk ?_
 iterate 4 all_goals first | refine zW ?_ | refine xG ?_ ?_<;>intro hg
 all_goals first | (refine zY ?_;refine jaa zRc (jaM m.conf) rfl rfl ?_) | refine zSk ?_
 iterate 12 all_goals first | refine zW ?_ | refine xG ?_ ?_<;>intro hg
 all_goals (
 refine xP ?_;refine(bcl ?_);rw[jxi hhd hz]
 simp only[freshM, *,Bool.and_true,qx,qB,qy];done))
 ·(
 have hz:zB m.bal=false:=hc;refine xA (jaO m) ?_;refine xA (jaA (envR m) hs) ?_;refine xC ?_ ?_<;>intro hc
 ·(
 have hv:vE (envR m)=false:=jaw hc;refine xP ?_;refine(bcl ?_)
 rw[jxg hhd hz hv])
 ·(
 have hv:vE (envR m)=true:=jav hc;iterate 9 refine zW ?_
 iterate 9 all_goals first | refine zW ?_ | refine xG ?_ ?_<;>intro hg
 all_goals (
 refine xC ?_ ?_<;>intro hc
 ·(
 first
 | (exact xQ hc)
 |(
 have hb2:bad2 m=true:=by first | (simp only[bad2, *,Bool.or_true,Bool.true_or,Bool.or_false,Bool.false_or,Bool.and_true,qx,qB,qy,Bool.not_true,Bool.not_false];done) | (simp only[bad2];simp[*];done) | grind[bad2]
 refine xP ?_;refine(bcl ?_)
 rw[jxj hhd hz hb2]))
 ·(
 first
 | (exact xQ hc)
 |(
 have hb2:bad2 m=false:=by first | (simp only[bad2, *,Bool.or_true,Bool.true_or,Bool.or_false,Bool.false_or,Bool.and_true,qx,qB,qy,Bool.not_true,Bool.not_false];done) | (simp only[bad2];simp[*];done) | grind[bad2]
 iterate 9 refine zW ?_
 iterate 2 all_goals first | refine zW ?_ | refine xG ?_ ?_<;>intro hg
 all_goals first | (refine zY ?_;refine jaa zRc (jaM m.prep) rfl rfl ?_) | refine zSk ?_
 iterate 4 all_goals first | refine zW ?_ | refine xG ?_ ?_<;>intro hg
 all_goals first | (refine zY ?_;refine jaa zRc (jaM m.prime) rfl rfl ?_) | refine zSk ?_
 iterate 10 all_goals first | refine zW ?_ | refine xG ?_ ?_<;>intro hg
 all_goals first | (refine zY ?_;refine jaa zRc (jaM m.prime) rfl rfl ?_) | refine zSk ?_
 iterate 3 all_goals refine zW ?_
 all_goals (
 refine xC ?_ ?_<;>intro hc
 ·(
 first
 | (exact xQ hc)
 |(
 have hb3:bad3 m=true:=by first | (simp only[bad3, *,Bool.or_true,Bool.true_or,Bool.or_false,Bool.false_or,Bool.and_true,qx,qB,qy,Bool.not_true,Bool.not_false];done) | (simp only[bad3];simp[*];done) | grind[bad3]
 refine xP ?_;refine(bcl ?_)
 rw[jxl hhd hz hb3]))
 ·(
 first
 | (exact xQ hc)
 |(
 have hb3:bad3 m=false:=by first | (simp only[bad3, *,Bool.or_true,Bool.true_or,Bool.or_false,Bool.false_or,Bool.and_true,qx,qB,qy,Bool.not_true,Bool.not_false];done) | (simp only[bad3];simp[*];done) | grind[bad3]
 refine xA (jaM m.conf) ?_;refine xC ?_ ?_<;>intro hc
 ·(
 have hcz:zB m.conf=true:=hc;refine xP ?_;refine(bcl ?_);rw[jjY hhd hz hv hb2 hb3]
 rw[jnK hcz])
 ·(
 have hcz:zB m.conf=false:=hc;refine xA (jdT m.conf) ?_;iterate 2 refine zW ?_
 iterate 5 all_goals first | refine zW ?_ | refine xG ?_ ?_<;>intro hg
 all_goals (
 refine xC ?_ ?_<;>intro hc
 ·(
 first
 | (exact xQ hc)
 |(
 have hb4:bad4 m=true:=by first | (simp only[bad4, *,Bool.or_true,Bool.true_or,Bool.or_false,Bool.false_or,Bool.and_true,qx,qB,qy,Bool.not_true,Bool.not_false];done) | (simp only[bad4];simp[*];done) | grind[bad4]
 refine xP ?_;refine(bcl ?_);rw[jjY hhd hz hv hb2 hb3]
 first | rw[jnK hcz] | rw[jr4 hcz hb4]))
 ·(
 first
 | (exact xQ hc)
 |(
 have hb4:bad4 m=false:=by first | (simp only[bad4, *,Bool.or_true,Bool.true_or,Bool.or_false,Bool.false_or,Bool.and_true,qx,qB,qy,Bool.not_true,Bool.not_false];done) | (simp only[bad4];simp[*];done) | grind[bad4]
 refine xC ?_ ?_<;>intro hc
 ·(
 have hp1:=qc hc;refine xA (jhk m.prep m.prime m.conf) ?_;refine xP ?_;refine(bcl ?_);rw[jjY hhd hz hv hb2 hb3]
 first | rw[jnK hcz] | rw[jr4 hcz hb4] | rw[jvZ hcz hb4 hp1])
 ·(
 have hp1:=qd hc;refine xA (jbb m.conf m.bal) ?_;refine xP ?_;refine(bcl ?_);rw[jjY hhd hz hv hb2 hb3]
 first | rw[jnK hcz] | rw[jr4 hcz hb4] | rw[jvZ hcz hb4 hp1] | rw[jzU hcz hb4 hp1 hv hb3])))))))))))))))))
def noEvp:Evp:=⟨0,0,0,Trust.none,0,Bal.none,Bal.none,Bal.none,0,0⟩
def okMsg(m:Mach):Bool:=!zB m.bal&&checkM m
def mesM(m:Mach):Evp:=if okMsg m=true then msgM m else noEvp
theorem jw8(h:okMsg m=true):mesM m=msgM m:=by unfold mesM;rw[qf h]
theorem jyL(h:okMsg m=false):togM m=false:=by unfold togM;rw[qf (by show (!okMsg m)=true;rw[h];rfl)]
theorem jzm(h:m.phase=3):togM m=false:=by
 unfold togM;split
 ·rfl
 ·simp[h]
theorem jAe(h:okMsg m=true)(h2:¬m.phase=3):togM m=has (great (viewE m.node m.t (m.heard++[msgM m])) (whoE (λe=>decide (m.bal.n<=cntE e)) (rights (m.heard++[msgM m])):Nat)) m.node:=by unfold togM;rw[qe (by show ¬(!okMsg m)=true;rw[h];decide),qe h2]
theorem jrG(h:okMsg m=true):envR m=msgM m:=by
 have hz:zB m.bal=false:=by unfold okMsg at h;simp at h;exact h.1
 have hc:checkM m=true:=by unfold okMsg at h;simp at h;exact h.2
 have hh:headM m=true:=by unfold checkM at hc;simp at hc;exact hc.1
 rw[jfm hh hz] at hc;simp only[qh] at hc;obtain⟨q1,_,_,q4,q5⟩:=hc;exact jjE q4 q5 (jnR (e:=msgM m) (jfo q1))
theorem jjO(h:okMsg m=true):heardM m=true/\vE (msgM m)=true/\(0<=m.node/\m.node<10):=by
 have hz:zB m.bal=false:=by unfold okMsg at h;simp at h;exact h.1
 have hc:checkM m=true:=by unfold okMsg at h;simp at h;exact h.2
 have hh:headM m=true:=by unfold checkM at hc;simp at hc;exact hc.1
 rw[jfm hh hz] at hc;simp only[qh] at hc;refine⟨?_,hc.1,jcx hc.1⟩;rw[jf6] at hh;simp at hh;exact hh.2
theorem jhr{m:Mach}:∀(l:List Evp)(p:Option Int),heardGo m p l=true->∀e∈l,vE e=true/\e.node≠m.node
 | [],_,_,e,he=>qp he qv
 | x::r,p,h,e,he=>by
  rw[jdk] at h;simp only[qh,Bool.not_eq_true',decide_eq_false_iff_not] at h;rcases zf he with rfl | he
  ·exact⟨h.1.1,h.1.2.2.1⟩
  ·exact jhr r _ h.2 e he
theorem jnB{c:List Mem}(h:∀x,c[e.node.toNat]?=some x->x.decl=true):putE c e=c:=by
 unfold putE;split
 ·(
 split
 ·(
 rename_i m hm
 rw[qf (h m hm)])
 ·rfl)
 ·rfl
theorem jvl{c:List Mem}(h:vE e=true->e.node.toNat≠k):(putE c e)[k]?=c[k]?:=by
 unfold putE;split
 ·(
 rename_i hv;split
 ·(
 split
 ·rfl
 ·rw[List.getElem?_set_ne (h hv)])
 ·rfl)
 ·rfl
theorem jlB{k:Nat}:∀(l:List Evp)(c:List Mem),(∀e∈l,vE e=true->e.node.toNat≠k)->(putsE l c)[k]?=c[k]?
 | [],_,_=>rfl
 | e::r,c,h=>by
  show (putsE r (putE c e))[k]?=_;rw[jlB r _ (λx hx=>h x (qj _ hx)),jvl (h e (za))]
theorem jli:∀(a b:List Evp)(c:List Mem),putsE (a++b) c=putsE b (putsE a c)
 | [],_,_=>rfl
 | e::r,b,c=>by show putsE (r++b) (putE c e)=putsE b (putsE r (putE c e));exact jli r b _
theorem jog{node:Int}{t:Trust}{o:Evp}(ho:o.node=node)(hn:0<=node/\node<10)(hl:∀e∈l,vE e=true/\e.node≠node):viewE node t (o::l)=viewE node t (l++[o]):=by
 unfold viewE;rw[qe zo,qe zo]
 have hi:∀x,(nobody.set node.toNat ⟨true,t⟩)[node.toNat]?=some x->x.decl=true:=by
  intro x hx;rw[List.getElem?_set_self (by show _<10;omega)] at hx;cases hx;rfl
 show putsE l (putE _ o)=_;rw[jnB (by rw[ho];exact hi),jli];show _=putE (putsE l _) o;rw[jnB]
 rw[ho,jlB l _ (λe he hv=>by
  have h1:=jcx hv;have h2:=(hl e he).2
  omega)]
 exact hi
theorem jjC(p:Evp->Bool):∀(l:List Evp)(s b:Nat),whoGo p l (s|||b)=whoGo p l s|||b
 | [],_,_=>rfl
 | e::r,s,b=>by
  simp only[whoGo];split
  ·rw[<-jjC p r,Nat.or_assoc,Nat.or_comm b,<-Nat.or_assoc]
  ·exact jjC p r s b
theorem jkI(p:Evp->Bool):∀(a b:List Evp)(s:Nat),whoGo p (a++b) s=whoGo p b (whoGo p a s)
 | [],_,_=>rfl
 | e::r,b,s=>by simp only[List.cons_append,whoGo];exact jkI p r b _
theorem jxn(p:Evp->Bool)(o:Evp)(l:List Evp):whoE p (l++[o])=whoE p (o::l):=by
 unfold whoE;rw[jkI];simp only[whoGo];split
 ·rw[jjC]
 ·rfl
theorem jr0(p:Evp->Bool):∀(l:List Evp)(s:Nat),(∀e∈l,vE e=true)->setR s l (l.map p)=whoGo p l s
 | [],_,_=>rfl
 | e::r,s,h=>by
  have hn:=jcx (h e (za));have h9:(decide (0<=e.node)&&decide (e.node<=9))=true:=by simp;omega
  simp only[List.map_cons,setR,whoGo,h9,Bool.and_true];exact jr0 p r _ (λx hx=>h x (qj _ hx))
theorem jpO(h:∀e∈l,vE e=true):rights l=l:=List.filter_eq_self.2 h
theorem jyn(h:okMsg m=true)(h3:¬m.phase=3){o:Evp}(ho:o=msgM m):togM m=has (great (viewE m.node m.t (o::m.heard)) (setR 0 (o::m.heard) ((o::m.heard).map λe=>decide (cntR e>=cntR o)):Nat)) m.node:=by
 obtain⟨hh,hv,hn⟩:=jjO h;have hl:=jhr m.heard none hh
 have hal:∀e∈o::m.heard,vE e=true:=by
  intro e he;rcases zf he with rfl | he
  ·rw[ho];exact hv
  ·exact(hl e he).1
 have hc:∀e∈o::m.heard,decide (cntR e>=cntR o)=decide (m.bal.n<=cntE e):=by
  intro e he;have e1:cntR e=cntE e:=qf (hal e he)
  have e2:cntR o=m.bal.n:=by
   have:cntR o=cntE o:=qf (hal o (za));rw[this,ho];exact qe h3
  rw[e1,e2]
 rw[jAe h h3,<-ho]
 have hal2:∀e∈m.heard++[o],vE e=true:=by
  intro e he;rcases zk he with he | he
  ·exact hal e (qj _ he)
  ·exact hal e (by rw[zl he];exact za)
 rw[jpO hal2,<-jog (by rw[ho];rfl) hn hl,jxn];rw[List.map_congr_left hc,jr0 _ _ _ hal];rfl
theorem jc9(m:Mach)(hs:sizeT m.t<=1000000000)(hh:∀e∈m.heard,sizeT e.t<=1000000000):C0 180 [mcv m] (.tup [ev (mesM m),.b (okMsg m)]):=by
 refine xI Tryz.func180 Tryz.call180 λhcap=>?_;have hmlen:(m.heard.map ev).length=m.heard.length:=by simp
 refine xX λb1=>?_;refine zAl λb2=>?_;refine xA (jc3 m hs hh) ?_;iterate 2 refine zW ?_
 iterate 2 all_goals first | refine zW ?_ | refine xG ?_ ?_<;>intro hg
 all_goals first | (refine zY ?_;refine jaa zRc (jaM m.bal) rfl rfl ?_) | refine zSk ?_
 all_goals refine zW ?_
 all_goals (
 refine xC ?_ ?_<;>intro hc
 ·(
 first
 | (exact xQ hc)
 |(
 have hok:okMsg m=false:=by unfold okMsg;first | (simp[*];done) | grind
 iterate 7 refine zW ?_
 refine jak [2,3] 1 rfl xSe (by apply HeapA.box (xc4 (CvL.cons Cv.fz (xc4 (xc4 (CvL.cons Cv.same (CvL.cons Cv.same CvL.nil))))));exact xHb) ?_;refine jak [2,3] 3 rfl xSe (by apply HeapA.box (xc4 (CvL.cons Cv.same (CvL.cons Cv.fz (xc4 (xc4 (CvL.cons Cv.same CvL.nil))))));exact xHb) ?_;refine xP ?_
 unfold mesM;first | (rw[qe (by rw[hok];decide),hok];rfl) | (rw[qf hok,hok,<-jrG hok];rfl)))
 ·(
 first
 | (exact xQ hc)
 |(
 have hok:okMsg m=true:=by unfold okMsg;first | (simp[*];done) | grind
 refine xA (jaO m) ?_;refine xP ?_
 unfold mesM;first | (rw[qe (by rw[hok];decide),hok];rfl) | (rw[qf hok,hok,<-jrG hok];rfl))))
theorem jtW(m:Mach)(hlen:m.heard.length<=900000)(hs:sizeT m.t<=200000)(hh:∀e∈m.heard,sizeT e.t<=200000):C0 213 [mcv m] (.b (togM m)):=by
 refine xI Tryz.func213 Tryz.call213 λhcap=>?_;have hmlen:(m.heard.map ev).length=m.heard.length:=by simp
 refine xX λb1=>?_;refine xA (jc9 m zo (λe he=>by have:=hh e he;omega)) ?_;refine xL λb3=>?_;iterate 10 refine zW ?_
 iterate 4 all_goals first | refine zW ?_ | refine xG ?_ ?_<;>intro hg
 all_goals (
 refine xC ?_ ?_<;>intro hc
 ·(
 first
 | (exact xQ hc)
 |(
 have htog:togM m=false:=by first | exact jyL (jaw (by first | with_reducible assumption | exact hg)) | exact jzm (qc (by first | with_reducible assumption | exact hc))
 refine xP ?_;refine(bcl ?_)
 exact htog.symm))
 ·(
 first
 | (exact xQ hc)
 |(
 have hok:okMsg m=true:=jav (by first | with_reducible assumption | exact hg);have hph:¬m.phase=3:=qd hc;have hmes:=jw8 hok;obtain⟨o,ho⟩:∃o,o=msgM m:=⟨_,rfl⟩
 have htog:=jyn hok hph ho;rw[hmes,<-ho];have hnode:=(jjO hok).2.2;have hot:o.t=m.t:=by rw[ho];rfl
 have hlo:∀e∈o::m.heard,sizeT e.t<=200000:=List.forall_mem_cons.2 ⟨by rw[hot];exact hs,hh⟩;have hos:=hlo o (za);have hml2:((o::m.heard).map ev).length=m.heard.length+1:=by simp
 iterate 5 refine zW ?_
 refine jf8 (e:=55) (sz:=15) (by_:=176) rfl rfl zRc rfl rfl rfl rfl (λv23 hv23=>?_);iterate 2 refine zW ?_
 refine xEa 55 15 176 (hb:=by simp only[qi,qu,qm,qw];omega) λv26 hv26=>?_;iterate 4 refine zW ?_
 rw[show [D.agg [.i o.node,.i o.slot,.i o.seq,.i o.t.th,.sl 1 (o.t.nodes.map .i),.sl 3 (avs o.t.inner),.i o.kind,.i o.bal.n,.v (.string o.bal.v),.i o.prep.n,.v (.string o.prep.v),.i o.prime.n,.v (.string o.prime.v),.i o.low,.i o.high]]++m.heard.map ev=(o::m.heard).map ev from rfl];refine zFz v26 [1,2,3,5] ?_;refine xN λ_=>?_;iterate 4 refine zW ?_
 refine jax [1,3,5,27,28] [.box b3 _ _,.box b1 _ _] (λ(k:Nat)(v:Value)(q:List Bool) r=>(6,.v v)::(29,.i (k:Int))::r) (λk v q r=>.arr v 4 1 (q.map bV)::r) (λk v q=>k<=m.heard.length+1/\q=((o::m.heard).take k).map (λe=>decide (cntR e>=cntR o))) (λk v q=>m.heard.length+1 - k) (0) (.slice none 0 0) ([]) zRc ⟨by omega,rfl⟩ ((jaF 4 1 rfl).trans (zWk)) ?_;intro k v q ⟨hk,hI⟩;have hql:q.length=k:=by rw[hI];simp;omega
 have hqm:(q.map bV).length=q.length:=by simp
 refine xC ?_ ?_<;>intro hc
 ·(
 have hlt:=qc hc;obtain⟨x,hx,hd⟩:=jab (l:=o::m.heard) (k:=k) (by simp;omega);have hx':=jad ev hx;have hxs:=hlo x (qk hx);refine xL λb8=>?_;iterate 3 refine zW ?_
 refine zDr [.arr v _ _ _] ?_;refine zT 0 ?_;refine zT 1 ?_;refine zT 3 ?_;refine zOn 2 ?_;refine xA (jdC x zo) ?_;refine zW ?_;refine zOn 4 ?_;refine xA (jdC o zo) ?_;refine zW ?_;refine zT 5 ?_;refine zOn 6 ?_;refine xLt 4 1 1 ?_;refine zW ?_;refine zOn 7 ?_;refine xEa 4 1 1 (hb:=by simp only[qi,qu,qm,qw];omega) λv40 hv40=>?_;refine zW ?_;refine zT 8 ?_;refine zW ?_
 all_goals (
 iterate 7 refine zW ?_
 rw[bsn q]
 refine⟨k+1,_,q++[decide (cntR x>=cntR o)],⟨by omega,by rw[hI,List.take_add_one,hx];simp⟩,by omega,zWk⟩))
 ·(
 have hge:=qd hc;obtain rfl:k=m.heard.length+1:=by omega
 refine zFz v [1,3,5,6] ?_;refine xA (jcC m.node m.t (o::m.heard) (λe he=>by have:=hlo e he;omega)) ?_;refine xA (jdA (o::m.heard) q (by simp;omega)) ?_;refine xA (jb8 _ _) ?_;iterate 4 refine zW ?_
 obtain⟨qn,hqn⟩:=qD hnode.1;obtain⟨g,hgd⟩:∃g:Nat,g=great (viewE m.node m.t (o::m.heard)) (setR 0 (o::m.heard) q:Nat):=⟨_,rfl⟩
 have hgl:g<1024:=by rw[hgd];exact jcS _ _
 have hgv:valid (g:Int)=true:=by unfold valid;rw[qg (show (0:Int)<=(g:Int) by omega),qg (show (g:Int)<1024 by omega)];rfl
 have hpow:=jaL (k:=qn) zo;have hdiv:g / 2^qn<=g:=Nat.div_le_self _ _;rw[<-hgd,hqn];iterate 4 refine zW ?_
 refine zP (jf2 rfl rfl rfl) ?_;rw[jtH (n:=qn) zo];refine zP (jeQ rfl rfl zo) ?_;refine zP (jcz (q:=1) rfl rfl rfl zo zo) ?_;refine xP ?_;refine(bcl ?_);have hq2:q=(o::m.heard).map (λe=>decide (cntR e>=cntR o)):=by rw[hI,qC (by simp)]
 rw[htog,<-hq2,<-hgd,hqn]
 exact joz hgv zo))))
theorem jxt{k:Int}(h:12<=k):waitV k=12:=by unfold waitV;omega
theorem jxE{k:Int}(h:¬ 12<=k):waitV k=max (k+1) 1:=by unfold waitV;omega
theorem jm0(k:Int):1<=waitV k/\waitV k<=12:=by unfold waitV;omega
theorem jvV(h:stepBad t now=true):stepV t m now=(⟨0,-1⟩,false):=by unfold stepV;rw[qf h]
theorem jwp(h:stepBad t now=false)(h2:togM m=false):stepV t m now=(⟨m.bal.n,-1⟩,false):=by unfold stepV;rw[qe (by rw[h];decide),qf h2]
theorem jqW(h:stepBad t now=false)(h2:togM m=true)(h3:stepNew t m=true):stepV t m now=(⟨m.bal.n,now+waitV m.bal.n⟩,false):=by unfold stepV;rw[qe (by rw[h];decide),qe (by rw[h2];decide),qf h3]
theorem jzj(h:stepBad t now=false)(h2:togM m=true)(h3:stepNew t m=false)(h4:t.due<=now):stepV t m now=(⟨m.bal.n,-1⟩,true):=by unfold stepV;rw[qe (by rw[h];decide),qe (by rw[h2];decide),qe (by rw[h3];decide),qf h4]
theorem jzb(h:stepBad t now=false)(h2:togM m=true)(h3:stepNew t m=false)(h4:¬t.due<=now):stepV t m now=(t,false):=by unfold stepV;rw[qe (by rw[h];decide),qe (by rw[h2];decide),qe (by rw[h3];decide),qe h4]
theorem jxa(h:togM m=true):0<=m.bal.n:=by
 have hok:okMsg m=true:=by
  cases h1:okMsg m with
  | true=>rfl
  | false=>rw[jyL h1] at h;cases h
 have h3:¬m.phase=3:=λh3=>by rw[jzm h3] at h;cases h
 have hv:=jfo (jjO hok).2.1;unfold kindE at hv;have e1:(msgM m).bal=m.bal:=rfl
 have fin:finB m.bal=true->0<=m.bal.n:=by
  intro hf;simp only[finB,vB,qh,Bool.or_eq_true,qo] at hf;omega
 split at hv
 ·(
 unfold prepE at hv;simp only[qh] at hv
 exact fin hv.1.1)
 ·(
 split at hv
 ·(
 simp only[qh] at hv
 exact fin hv.1)
 ·(
 split at hv
 ·rename_i h9;exact qp h9 h3
 ·cases hv))
theorem jgS(k:Int)(hk:-9223372036854775808<=k):C0 176 [.i k] (.i (waitV k)):=by
 refine xI Tryz.func176 Tryz.call176 λhcap=>?_;refine xC ?_ ?_<;>intro hc
 ·(
 have h4:=qc hc;refine xP ?_;refine(icl ?_)
 rw[jxt h4])
 ·(
 have h4:=qd hc;refine xP ?_;refine(icl ?_)
 rw[jxE h4])
theorem jgV(t:Tm):C0 169 [tmv t] (.b (vTm t)):=by
 refine xI Tryz.func169 Tryz.call169 λhcap=>?_;refine xX λb1=>?_;iterate 9 refine zW ?_
 iterate 15 all_goals first | refine zW ?_ | refine xG ?_ ?_<;>intro hg
 all_goals (
 refine xP ?_;refine(bcl ?_)
 first | rfl | (simp only[vTm];simp[*];done))
theorem jpF(t:Tm)(m:Mach)(now:Int)(hlen:m.heard.length<=900000)(hs:sizeT m.t<=200000)(hh:∀e∈m.heard,sizeT e.t<=200000):C0 177 [tmv t,mcv m,.i now] (.tup [tmv (stepV t m now).1,.b (stepV t m now).2]):=by
 refine xI Tryz.func177 Tryz.call177 λhcap=>?_;have hw:=jm0 m.bal.n;refine xX λb3=>?_;refine zBx λb4=>?_;refine zAl λb6=>?_;refine xA (jgV t) ?_;iterate 2 refine zW ?_
 iterate 7 all_goals first | refine zW ?_ | refine xG ?_ ?_<;>intro hg
 all_goals (
 refine xC ?_ ?_<;>intro hc
 ·(
 first
 | (exact xQ hc)
 |(
 have hbad:stepBad t now=true:=by first | (simp only[stepBad];simp[*];done) | grind[stepBad]
 refine xP ?_
 rw[jvV hbad];rfl))
 ·(
 first
 | (exact xQ hc)
 |(
 have hbad:stepBad t now=false:=by first | (simp only[stepBad];simp[*];done) | grind[stepBad]
 have hnow:0<=now/\now<=200:=by simp only[stepBad,Bool.or_eq_false_iff,decide_eq_false_iff_not] at hbad;omega
 have hdv:-1<=t.due:=by simp only[stepBad,Bool.or_eq_false_iff,Bool.not_eq_false',vTm,qh,qo] at hbad;omega
 refine xA (jtW m hlen hs hh) ?_;refine xC ?_ ?_<;>intro hc
 ·(
 have htg:togM m=false:=jaw hc;refine xP ?_
 rw[jwp hbad htg];rfl)
 ·(
 have htg:togM m=true:=jav hc;iterate 6 refine zW ?_
 iterate 6 all_goals first | refine zW ?_ | refine xG ?_ ?_<;>intro hg
 all_goals (
 refine xC ?_ ?_<;>intro hc
 ·(
 first
 | (exact xQ hc)
 |(
 have hnew:stepNew t m=true:=by simp only[stepNew];grind
 refine xA (jgS m.bal.n (by have:=jxa htg;omega)) ?_;refine xP ?_
 first | (rw[jvV hbad];rfl) | (rw[jwp hbad htg];rfl) | (rw[jqW hbad htg hnew];rfl)))
 ·(
 first
 | (exact xQ hc)
 |(
 have hnew:stepNew t m=false:=by simp only[stepNew];grind
 refine xC ?_ ?_<;>intro hc
 ·(
 have hdue:t.due<=now:=qc hc;refine xP ?_
 rw[jzj hbad htg hnew hdue];rfl)
 ·(
 have hdue:¬t.due<=now:=qd hc;refine xP ?_
 rw[jzb hbad htg hnew hdue];rfl))))))))
theorem jzp(h:m.phase=3\/zB m.bal=true):prepM m=m:=qf h
theorem jwn(h:¬(m.phase=3\/zB m.bal=true))(h2:¬(m.phase=1/\¬m.low=0)):prepM m=prep1 m:=by
 unfold prepM;rw[qe h,qe h2]
theorem jn7(h:¬(m.phase=3\/zB m.bal=true))(h2:m.phase=1/\¬m.low=0)(h3:prepL m>(envR (prep1 m)).high):prepM m={ prep1 m with low:=0 }:=by
 unfold prepM;rw[qe h,qf h2,qf h3]
theorem jqT(h:¬(m.phase=3\/zB m.bal=true))(h2:m.phase=1/\¬m.low=0)(h3:¬prepL m>(envR (prep1 m)).high):prepM m={ prep1 m with low:=prepL m }:=by
 unfold prepM;rw[qe h,qf h2,qe h3]
end Go.Proofs.YtgmpjpaekpefdaaGreat
