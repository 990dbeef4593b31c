
import Derived.Test.YtgmpjpaekpefdaaGreatAnalyserSplitsW4
import Derived.Test.YtgmpjpaekpefdaaGreatProg
import Derived.KernelRfl
import Derived.Tactics
import Derived.Tactics2
import Derived.StillTactics
set_option linter.unusedVariables false
set_option linter.unusedSimpArgs false
set_option maxRecDepth 4000
set_option maxHeartbeats 8000000
namespace Go.Proofs.YtgmpjpaekpefdaaGreat
open Go Go.Av Go.Tq
variable{m c b:Mach}
theorem jkd(m:Mach)(hI:InvM m):C0 243 [mcv m] (mcv (prepM m)):=by
 refine xI Tryz.func243 Tryz.call243 λhcap=>?_;have hsz1:=hI.sz;have hhl:=hI.hl;have hhs:∀e∈m.heard,sizeT e.t<=200000:=λe he=>by have:=(hI.hs e he).1;omega
 have hal:(allM m).length<=100:=by have:=jgN m;omega
 have has9:∀e∈allM m,sizeT e.t<=1000000000:=λe he=>by have:=jdK (k:=200000) zo hhs e he;omega
 have hbn:=hI.baln;have hbn0:=hI.bal.n0;have hlw:=hI.low;have hhg:=hI.high;have hmlen:(m.heard.map ev).length=m.heard.length:=by simp
 refine xX λb1=>?_;refine zAl λb2=>?_;iterate 9 refine zW ?_
 iterate 2 all_goals first | refine zW ?_ | refine xG ?_ ?_<;>intro hg
 all_goals first | (refine zY ?_;refine jaa zRc (jaM m.bal) rfl rfl ?_) | refine zSk ?_
 all_goals refine zW ?_
 all_goals (
 refine xC ?_ ?_<;>intro hc
 ·(
 first
 | (exact xQ hc)
 |(
 have h13:m.phase=3\/zB m.bal=true:=by first | exact .inr zO | exact .inl (qc zO)
 refine xP ?_;rw[jzp h13];rfl))
 ·(
 first
 | (exact xQ hc)
 |(
 have h13:¬(m.phase=3\/zB m.bal=true):=by have h8:¬m.phase=3:=qd (by first | with_reducible assumption | exact hg);have h9:zB m.bal=false:=hc;rw[h9];rintro(h | h);exact h8 h;cases h
 refine xC ?_ ?_<;>intro hc
 ·(
 have hp2:m.phase=2:=qc hc;iterate 8 refine zW ?_
 refine zDr [] ?_;refine zT 0 ?_;refine zT 1 ?_;refine zT 2 ?_;refine zT 3 ?_;refine zT 4 ?_;refine zT 6 ?_;refine zT 7 ?_;refine zT 8 ?_;refine zT 9 ?_;refine zT 10 ?_;refine zE2 5 13 ?_ ?_
 rotate_left
 case' _ =>(
 refine zAl λb4=>?_;refine zW ?_;refine zOn 5 ?_;refine xA (jbf m zo) ?_;refine zW ?_;refine zOn 11 ?_;have h7:m.phase=2:=hp2;refine jas zRc (jcO m.node m.t (allM m) hal has9 m.prep m.prime m.bal.v) jaE rfl rfl ?_;rintro _ _ ⟨rfl,rfl⟩;obtain⟨nb,hnb⟩:∃nb,nb=nextV m.node m.t (allM m) m.prep m.prime (if m.phase=2 then m.bal.v else noS):=⟨_,rfl⟩;rw[show nextV m.node m.t (allM m) m.prep m.prime m.bal.v=nb from by rw[hnb,qf h7]];refine zW ?_;refine zOn 12 ?_;refine xB (jbn nb) ?_;rintro _ _ ⟨rfl,rfl⟩;obtain⟨fb,hfb⟩:∃b,b=finB1 nb:=⟨_,rfl⟩;rw[<-hfb];have hpb:prepB m=fb:=(by rw[hfb,hnb];rfl)
 refine zW ?_;refine zOn 14 ?_
 iterate 3 refine zW ?_)
 rotate_right
 case' _ =>(
 refine xA (jbf m zo) ?_;refine zW ?_;refine zE2 11 13 ?_ ?_
 rotate_left
 case' _ =>(
 refine zAl λb4=>?_;refine zW ?_;refine zOn 11 ?_;have h7:m.phase=2:=hp2;refine jas zRc (jcO m.node m.t (allM m) hal has9 m.prep m.prime m.bal.v) jaE rfl rfl ?_;rintro _ _ ⟨rfl,rfl⟩;obtain⟨nb,hnb⟩:∃nb,nb=nextV m.node m.t (allM m) m.prep m.prime (if m.phase=2 then m.bal.v else noS):=⟨_,rfl⟩;rw[show nextV m.node m.t (allM m) m.prep m.prime m.bal.v=nb from by rw[hnb,qf h7]];refine zW ?_;refine zOn 12 ?_;refine xB (jbn nb) ?_;rintro _ _ ⟨rfl,rfl⟩;obtain⟨fb,hfb⟩:∃b,b=finB1 nb:=⟨_,rfl⟩;rw[<-hfb];have hpb:prepB m=fb:=(by rw[hfb,hnb];rfl)
 refine zW ?_;refine zOn 14 ?_
 iterate 3 refine zW ?_)
 rotate_right
 case' _ =>(
 have h7:m.phase=2:=hp2;refine jas zRc (jcO m.node m.t (allM m) hal has9 m.prep m.prime m.bal.v) jaE rfl rfl ?_;rintro _ _ ⟨rfl,rfl⟩;obtain⟨nb,hnb⟩:∃nb,nb=nextV m.node m.t (allM m) m.prep m.prime (if m.phase=2 then m.bal.v else noS):=⟨_,rfl⟩;rw[show nextV m.node m.t (allM m) m.prep m.prime m.bal.v=nb from by rw[hnb,qf h7]];refine zW ?_;refine zE2 12 13 ?_ ?_
 rotate_left
 case' _ =>(
 refine zAl λb4=>?_;refine zW ?_;refine zOn 12 ?_;refine xB (jbn nb) ?_;rintro _ _ ⟨rfl,rfl⟩;obtain⟨fb,hfb⟩:∃b,b=finB1 nb:=⟨_,rfl⟩;rw[<-hfb];have hpb:prepB m=fb:=(by rw[hfb,hnb];rfl)
 refine zW ?_;refine zOn 14 ?_
 iterate 3 refine zW ?_)
 rotate_right
 case' _ =>(
 refine xB (jbn nb) ?_;rintro _ _ ⟨rfl,rfl⟩;obtain⟨fb,hfb⟩:∃b,b=finB1 nb:=⟨_,rfl⟩;rw[<-hfb];have hpb:prepB m=fb:=(by rw[hfb,hnb];rfl)
 refine zW ?_;refine zOn 13 ?_;refine zAl λb4=>?_;refine zW ?_;refine zOn 14 ?_
 iterate 3 refine zW ?_)))
 all_goals (
 refine xA (jkq m.prep m.prime fb) ?_;iterate 16 refine zW ?_
 iterate 4 all_goals refine zW ?_
 all_goals (
 refine xC ?_ ?_<;>intro hc
 ·exact xQ hc
 ·(
 first
 | (exact xQ hc)
 |(
 have h52:¬(m.phase=1/\¬m.low=0):=by
  first
  | (have h8:¬m.phase=1:=qd hg;exact λh=>h8 h.1)
  | (exact λh=>by have:=h.1;omega)
 have mk52f:True:=trivial;iterate 9 refine zW ?_
 first
 | (have:=mk52f;refine zPi ?_;rw[jwn h13 h52,<-hpb];rfl))))))
 ·(
 have hp2:¬m.phase=2:=qd hc;iterate 3 refine zW ?_
 refine zDr [] ?_;refine zT 0 ?_;refine zT 1 ?_;refine zT 2 ?_;refine zT 3 ?_;refine zT 4 ?_;refine zT 6 ?_;refine zT 7 ?_;refine zT 8 ?_;refine zT 9 ?_;refine zT 10 ?_;refine zE2 5 13 ?_ ?_
 rotate_left
 case' _ =>(
 refine zAl λb4=>?_;refine zW ?_;refine zOn 5 ?_;refine xA (jbf m zo) ?_;refine zW ?_;refine zOn 11 ?_;have h7:¬m.phase=2:=hp2;refine jas zRc (jcO m.node m.t (allM m) hal has9 m.prep m.prime noS) jaE rfl rfl ?_;rintro _ _ ⟨rfl,rfl⟩;obtain⟨nb,hnb⟩:∃nb,nb=nextV m.node m.t (allM m) m.prep m.prime (if m.phase=2 then m.bal.v else noS):=⟨_,rfl⟩;rw[show nextV m.node m.t (allM m) m.prep m.prime noS=nb from by rw[hnb,qe h7]];refine zW ?_;refine zOn 12 ?_;refine xB (jbn nb) ?_;rintro _ _ ⟨rfl,rfl⟩;obtain⟨fb,hfb⟩:∃b,b=finB1 nb:=⟨_,rfl⟩;rw[<-hfb];have hpb:prepB m=fb:=(by rw[hfb,hnb];rfl)
 refine zW ?_;refine zOn 14 ?_
 iterate 3 refine zW ?_)
 rotate_right
 case' _ =>(
 refine xA (jbf m zo) ?_;refine zW ?_;refine zE2 11 13 ?_ ?_
 rotate_left
 case' _ =>(
 refine zAl λb4=>?_;refine zW ?_;refine zOn 11 ?_;have h7:¬m.phase=2:=hp2;refine jas zRc (jcO m.node m.t (allM m) hal has9 m.prep m.prime noS) jaE rfl rfl ?_;rintro _ _ ⟨rfl,rfl⟩;obtain⟨nb,hnb⟩:∃nb,nb=nextV m.node m.t (allM m) m.prep m.prime (if m.phase=2 then m.bal.v else noS):=⟨_,rfl⟩;rw[show nextV m.node m.t (allM m) m.prep m.prime noS=nb from by rw[hnb,qe h7]];refine zW ?_;refine zOn 12 ?_;refine xB (jbn nb) ?_;rintro _ _ ⟨rfl,rfl⟩;obtain⟨fb,hfb⟩:∃b,b=finB1 nb:=⟨_,rfl⟩;rw[<-hfb];have hpb:prepB m=fb:=(by rw[hfb,hnb];rfl)
 refine zW ?_;refine zOn 14 ?_
 iterate 3 refine zW ?_)
 rotate_right
 case' _ =>(
 have h7:¬m.phase=2:=hp2;refine jas zRc (jcO m.node m.t (allM m) hal has9 m.prep m.prime noS) jaE rfl rfl ?_;rintro _ _ ⟨rfl,rfl⟩;obtain⟨nb,hnb⟩:∃nb,nb=nextV m.node m.t (allM m) m.prep m.prime (if m.phase=2 then m.bal.v else noS):=⟨_,rfl⟩;rw[show nextV m.node m.t (allM m) m.prep m.prime noS=nb from by rw[hnb,qe h7]];refine zW ?_;refine zE2 12 13 ?_ ?_
 rotate_left
 case' _ =>(
 refine zAl λb4=>?_;refine zW ?_;refine zOn 12 ?_;refine xB (jbn nb) ?_;rintro _ _ ⟨rfl,rfl⟩;obtain⟨fb,hfb⟩:∃b,b=finB1 nb:=⟨_,rfl⟩;rw[<-hfb];have hpb:prepB m=fb:=(by rw[hfb,hnb];rfl)
 refine zW ?_;refine zOn 14 ?_
 iterate 3 refine zW ?_)
 rotate_right
 case' _ =>(
 refine xB (jbn nb) ?_;rintro _ _ ⟨rfl,rfl⟩;obtain⟨fb,hfb⟩:∃b,b=finB1 nb:=⟨_,rfl⟩;rw[<-hfb];have hpb:prepB m=fb:=(by rw[hfb,hnb];rfl)
 refine zW ?_;refine zOn 13 ?_;refine zAl λb4=>?_;refine zW ?_;refine zOn 14 ?_
 iterate 3 refine zW ?_)))
 all_goals (
 refine xA (jkq m.prep m.prime fb) ?_;iterate 16 refine zW ?_
 iterate 4 all_goals first | refine zW ?_ | refine xG ?_ ?_<;>intro hg
 all_goals (
 refine xC ?_ ?_<;>intro hc
 ·(
 first
 | (exact xQ hc)
 |(
 have h52:m.phase=1/\¬m.low=0:=⟨qc (by first | with_reducible assumption | exact hg),jaf hc⟩
 refine xA (jaO { m with prep:=(joinV m.prep m.prime fb).1,prime:=(joinV m.prep m.prime fb).2 }) ?_;refine xA (jc2 m.bal.v m.low (joinV m.prep m.prime fb).1 (joinV m.prep m.prime fb).2) ?_;refine xC ?_ ?_<;>intro hc
 ·(
 have h70:=qc hc;have mk70t:True:=trivial;iterate 12 refine zW ?_
 rw[<-hpb] at h70;refine zPi ?_;rw[jn7 h13 h52 h70,<-hpb];rfl)
 ·(
 have h70:=qd hc;have mk70f:True:=trivial;iterate 9 refine zW ?_
 first
 | (have:=mk70f;rw[<-hpb] at h70;refine zPi ?_;rw[jqT h13 h52 h70,<-hpb];rfl))))
 ·(
 first
 | (exact xQ hc)
 |(
 have h52:¬(m.phase=1/\¬m.low=0):=by
  first
  | (have h8:¬m.phase=1:=qd hg;exact λh=>h8 h.1)
  | (exact λh=>by have:=h.1;omega)
  | (have h8:=jac hc;exact λh=>h.2 h8)
 have mk52f:True:=trivial;iterate 9 refine zW ?_
 first
 | (have:=mk52f;refine zPi ?_;rw[jwn h13 h52,<-hpb];rfl)))))))))
theorem jxA(h:¬m.phase=1\/zB m.bal=true):confS m=m:=qf h
theorem jwD(h:¬(¬m.phase=1\/zB m.bal=true))(h2:zB (confB m)=true):confS m=m:=by unfold confS;rw[qe h,qf h2]
theorem jal(h:¬(¬m.phase=1\/zB m.bal=true))(h2:zB (confB m)=false):confS m=conf2 m (conf1 m):=by unfold confS;rw[qe h,qe (by rw[h2];decide)]
theorem jbi(h:lB m.bal (confB m)=true)(h2:cB m.bal (confB m)=false):conf1 m={ m with conf:=confB m,low:=0,bal:=confB m }:=by unfold conf1;rw[qf h,qe (by rw[h2];decide)]
theorem jaJ(h:lB m.bal (confB m)=true)(h2:cB m.bal (confB m)=true):conf1 m={ m with conf:=confB m,low:=m.low,bal:=confB m }:=by unfold conf1;rw[qf h,qf h2]
theorem jaK(h:lB m.bal (confB m)=false):conf1 m={ m with conf:=confB m }:=by unfold conf1;rw[qe (by rw[h];decide)]
theorem jbD(b:Bal):cB b b=true:=qg rfl
theorem jtz{a b:Str}(h:(!decide (a=b))=true):¬a=b:=by
 intro e;rw[qg e] at h;cases h
theorem jrr{a b:Str}(h:(!decide (a=b))=false):a=b:=by
 by_cases e:a=b
 ·exact e
 ·rw[qz e] at h;cases h
theorem jhH(m:Mach)(hI:InvM m):C0 245 [mcv m] (mcv (confS m)):=by
 refine xI Tryz.func245 Tryz.call245 λhcap=>?_;have hsz1:=hI.sz;have hhl:=hI.hl;have hhs:∀e∈m.heard,sizeT e.t<=200000:=λe he=>by have:=(hI.hs e he).1;omega
 have hal:(allM m).length<=100:=by have:=jgN m;omega
 have has9:∀e∈allM m,sizeT e.t<=1000000000:=λe he=>by have:=jdK (k:=200000) zo hhs e he;omega
 have hbn:=hI.baln;have hbn0:=hI.bal.n0;have hlw:=hI.low;have hhg:=hI.high;have hmlen:(m.heard.map ev).length=m.heard.length:=by simp
 refine xX λb1=>?_;refine zAl λb2=>?_;iterate 9 refine zW ?_
 iterate 2 all_goals first | refine zW ?_ | refine xG ?_ ?_<;>intro hg
 all_goals first | (refine zY ?_;refine jaa zRc (jaM m.bal) rfl rfl ?_) | refine zSk ?_ | (refine zG (λhg=>?_) λhg=>?_;case' _=>refine jaa zRc (jaM m.bal) rfl rfl ?_)
 all_goals refine zW ?_
 all_goals (
 refine xC ?_ ?_<;>intro hc
 ·(
 first
 | (exact xQ hc)
 |(
 have h12:¬m.phase=1\/zB m.bal=true:=by first | exact .inr zO | exact .inl (jaf (by first | with_reducible assumption | exact hg))
 refine xP ?_;rw[jxA h12];rfl))
 ·(
 first
 | (exact xQ hc)
 |(
 have hp1:m.phase=1:=jac (by first | with_reducible assumption | exact hg);have h12:¬(¬m.phase=1\/zB m.bal=true):=by have h9:zB m.bal=false:=hc;rw[h9];rintro(h | h);exact h hp1;cases h
 iterate 3 refine zW ?_
 refine zDr [] ?_;refine zT 0 ?_;refine zT 1 ?_;refine zT 2 ?_;refine zT 3 ?_;refine zT 4 ?_;refine zT 6 ?_;refine zT 7 ?_;refine zE2 5 9 ?_ ?_
 rotate_left
 case' _ =>(
 refine zAl λb3=>?_;refine zW ?_;refine zOn 5 ?_;refine xA (jbf m zo) ?_;refine zW ?_;refine zOn 8 ?_;refine xB (jgJ m.node m.t (allM m) hal has9 m.conf) ?_;rintro _ _ ⟨rfl,rfl⟩;obtain⟨b,hb⟩:∃b,b=confB m:=⟨_,rfl⟩;rw[show highV m.node m.t (allM m) m.conf=b from hb.symm];refine zW ?_;refine zOn 10 ?_
 iterate 3 refine zW ?_)
 rotate_right
 case' _ =>(
 refine xA (jbf m zo) ?_;refine zW ?_;refine zE2 8 9 ?_ ?_
 rotate_left
 case' _ =>(
 refine zAl λb3=>?_;refine zW ?_;refine zOn 8 ?_;refine xB (jgJ m.node m.t (allM m) hal has9 m.conf) ?_;rintro _ _ ⟨rfl,rfl⟩;obtain⟨b,hb⟩:∃b,b=confB m:=⟨_,rfl⟩;rw[show highV m.node m.t (allM m) m.conf=b from hb.symm];refine zW ?_;refine zOn 10 ?_
 iterate 3 refine zW ?_)
 rotate_right
 case' _ =>(
 refine xB (jgJ m.node m.t (allM m) hal has9 m.conf) ?_;rintro _ _ ⟨rfl,rfl⟩;obtain⟨b,hb⟩:∃b,b=confB m:=⟨_,rfl⟩;rw[show highV m.node m.t (allM m) m.conf=b from hb.symm];refine zW ?_;refine zOn 9 ?_;refine zAl λb3=>?_;refine zW ?_;refine zOn 10 ?_
 iterate 3 refine zW ?_))
 all_goals (
 refine xA (jaM b) ?_;refine xC ?_ ?_<;>intro hc
 ·(
 have hz9:zB (confB m)=true:=by rw[<-hb];exact hc
 refine xP ?_;rw[jwD h12 hz9];rfl)
 ·(
 have hz9:zB (confB m)=false:=by rw[<-hb];exact hc
 refine xA (jc7 m.bal b) ?_;refine xC ?_ ?_<;>intro hc
 ·(
 have h31:lB m.bal (confB m)=true:=by rw[<-hb];exact hc
 have mk31t:True:=trivial;refine xA (jbb m.bal b) ?_;refine xC ?_ ?_<;>intro hc
 ·(
 have h36:cB m.bal (confB m)=false:=by rw[<-hb];exact jaw hc
 have mk36t:True:=trivial;iterate 18 refine zW ?_
 iterate 3 all_goals first | refine zW ?_ | refine xG ?_ ?_<;>intro hg
 all_goals first | (refine zY ?_;(refine jas zRc (jbb _ b) jaE rfl rfl ?_;rintro _ _ ⟨rfl,rfl⟩)) | refine zSk ?_ | (refine zG (λhg=>?_) λhg=>?_;case' _=>(refine jas zRc (jbb _ b) jaE rfl rfl ?_;rintro _ _ ⟨rfl,rfl⟩))
 all_goals refine zW ?_
 all_goals (
 refine xC ?_ ?_<;>intro hc
 ·(
 first
 | (exact xQ hc)
 | (have:=mk36t;have h9:cB b b=false:=hc;exact qp h9 (by rw[jbD];decide))
 |(
 first | (have:=mk36t;have h48:(0:Int)=0/\cB (confB m) (confB m)=true:=⟨rfl,jbD _⟩) | (have:=mk36f;have h48:m.low=0/\cB (confB m) (confB m)=true:=⟨qc (by first | with_reducible assumption | exact hg),jbD _⟩) | (have h48:m.low=0/\cB m.bal (confB m)=true:=⟨qc (by first | with_reducible assumption | exact hg),by rw[<-hb];exact hc⟩)
 have mk48t:True:=trivial;iterate 11 refine zW ?_
 first | (have:=mk31t;(refine jaa zRc (jc2 b.v b.n m.prep m.prime) rfl rfl ?_)) | (refine jaa zRc (jc2 b.v m.bal.n m.prep m.prime) rfl rfl ?_)
 refine xC ?_ ?_<;>intro hc
 ·(
 first | (have:=mk31t;have h62:lowestV (confB m).v (confB m).n m.prep m.prime<=(confB m).n:=(by rw[<-hb];exact qc hc)) | (have h62:lowestV (confB m).v m.bal.n m.prep m.prime<=(confB m).n:=(by rw[<-hb];exact qc hc))
 have mk62t:True:=trivial;iterate 13 refine zW ?_
 first
 | (have:=mk36t;have:=mk62t;refine zPi ?_;rw[jal h12 hz9,jbi h31 h36];unfold conf2;rw[qf (And.intro h48 h62)];rw[<-hb];rfl))
 ·(
 first | (have:=mk31t;have h62:¬lowestV (confB m).v (confB m).n m.prep m.prime<=(confB m).n:=(by rw[<-hb];exact qd hc)) | (have h62:¬lowestV (confB m).v m.bal.n m.prep m.prime<=(confB m).n:=(by rw[<-hb];exact qd hc))
 have mk62f:True:=trivial;iterate 9 refine zW ?_
 first
 | (have:=mk36t;have:=mk62f;refine zPi ?_;rw[jal h12 hz9,jbi h31 h36];unfold conf2;rw[qe (λh=>h62 h.2)];rw[<-hb];rfl))))
 ·(
 first
 | (exact xQ hc)
 | (have:=mk36t;have h9:cB b b=false:=hc;exact qp h9 (by rw[jbD];decide))
 |(
 first | (have:=mk36f;have h48:¬(m.low=0/\cB (confB m) (confB m)=true):=(by first | (have h8:¬m.low=0:=qd hg;exact λh=>h8 h.1) | (exact qp (hc.symm.trans (jbD b)) zd))) | (have h48:¬(m.low=0/\cB m.bal (confB m)=true):=(by first | (have h8:¬m.low=0:=qd hg;exact λh=>h8 h.1) | (have h8:cB m.bal b=false:=hc;rw[<-hb,h8];exact λh=>by cases h.2)))
 have mk48f:True:=trivial;iterate 9 refine zW ?_
 first
 | (have:=mk31f;have:=mk62f;refine zPi ?_;rw[jal h12 hz9,jaK h31];unfold conf2;rw[qe (λh=>h62 h.2)];rw[<-hb];rfl)))))
 ·(
 have h36:cB m.bal (confB m)=true:=by rw[<-hb];exact jav hc
 have mk36f:True:=trivial;iterate 15 refine zW ?_
 iterate 3 all_goals first | refine zW ?_ | refine xG ?_ ?_<;>intro hg
 all_goals first | (refine zY ?_;(refine jas zRc (jbb _ b) jaE rfl rfl ?_;rintro _ _ ⟨rfl,rfl⟩)) | refine zSk ?_ | (refine zG (λhg=>?_) λhg=>?_;case' _=>(refine jas zRc (jbb _ b) jaE rfl rfl ?_;rintro _ _ ⟨rfl,rfl⟩))
 all_goals refine zW ?_
 all_goals (
 refine xC ?_ ?_<;>intro hc
 ·(
 first
 | (exact xQ hc)
 |(
 first | (have:=mk36t;have h48:(0:Int)=0/\cB (confB m) (confB m)=true:=⟨rfl,jbD _⟩) | (have:=mk36f;have h48:m.low=0/\cB (confB m) (confB m)=true:=⟨qc (by first | with_reducible assumption | exact hg),jbD _⟩) | (have h48:m.low=0/\cB m.bal (confB m)=true:=⟨qc (by first | with_reducible assumption | exact hg),by rw[<-hb];exact hc⟩)
 have mk48t:True:=trivial;iterate 11 refine zW ?_
 first | (have:=mk31t;(refine jaa zRc (jc2 b.v b.n m.prep m.prime) rfl rfl ?_)) | (refine jaa zRc (jc2 b.v m.bal.n m.prep m.prime) rfl rfl ?_)
 refine xC ?_ ?_<;>intro hc
 ·(
 first | (have:=mk31t;have h62:lowestV (confB m).v (confB m).n m.prep m.prime<=(confB m).n:=(by rw[<-hb];exact qc hc)) | (have h62:lowestV (confB m).v m.bal.n m.prep m.prime<=(confB m).n:=(by rw[<-hb];exact qc hc))
 have mk62t:True:=trivial;iterate 13 refine zW ?_
 first
 | (have:=mk36f;have:=mk62t;refine zPi ?_;rw[jal h12 hz9,jaJ h31 h36];unfold conf2;rw[qf (And.intro h48 h62)];rw[<-hb];rfl))
 ·(
 first | (have:=mk31t;have h62:¬lowestV (confB m).v (confB m).n m.prep m.prime<=(confB m).n:=(by rw[<-hb];exact qd hc)) | (have h62:¬lowestV (confB m).v m.bal.n m.prep m.prime<=(confB m).n:=(by rw[<-hb];exact qd hc))
 have mk62f:True:=trivial;iterate 9 refine zW ?_
 first
 | (have:=mk36f;have:=mk62f;refine zPi ?_;rw[jal h12 hz9,jaJ h31 h36];unfold conf2;rw[qe (λh=>h62 h.2)];rw[<-hb];rfl))))
 ·(
 first
 | (exact xQ hc)
 |(
 first | (have:=mk36f;have h48:¬(m.low=0/\cB (confB m) (confB m)=true):=(by first | (have h8:¬m.low=0:=qd hg;exact λh=>h8 h.1) | (exact qp (hc.symm.trans (jbD b)) zd))) | (have h48:¬(m.low=0/\cB m.bal (confB m)=true):=(by first | (have h8:¬m.low=0:=qd hg;exact λh=>h8 h.1) | (have h8:cB m.bal b=false:=hc;rw[<-hb,h8];exact λh=>by cases h.2)))
 have mk48f:True:=trivial;iterate 9 refine zW ?_
 first
 | (have:=mk36f;have:=mk48f;refine zPi ?_;rw[jal h12 hz9,jaJ h31 h36];unfold conf2;rw[qe (λh=>h48 h.1)];rw[<-hb];rfl))))))
 ·(
 have h31:lB m.bal (confB m)=false:=by rw[<-hb];exact hc
 have mk31f:True:=trivial;iterate 9 refine zW ?_
 iterate 3 all_goals first | refine zW ?_ | refine xG ?_ ?_<;>intro hg
 all_goals first | (refine zY ?_;(refine jas zRc (jbb _ b) jaE rfl rfl ?_;rintro _ _ ⟨rfl,rfl⟩)) | refine zSk ?_ | (refine zG (λhg=>?_) λhg=>?_;case' _=>(refine jas zRc (jbb _ b) jaE rfl rfl ?_;rintro _ _ ⟨rfl,rfl⟩))
 all_goals refine zW ?_
 all_goals (
 refine xC ?_ ?_<;>intro hc
 ·(
 first
 | (exact xQ hc)
 |(
 first | (have:=mk36t;have h48:(0:Int)=0/\cB (confB m) (confB m)=true:=⟨rfl,jbD _⟩) | (have:=mk36f;have h48:m.low=0/\cB (confB m) (confB m)=true:=⟨qc (by first | with_reducible assumption | exact hg),jbD _⟩) | (have h48:m.low=0/\cB m.bal (confB m)=true:=⟨qc (by first | with_reducible assumption | exact hg),by rw[<-hb];exact hc⟩)
 have mk48t:True:=trivial;iterate 11 refine zW ?_
 first | (have:=mk31t;(refine jaa zRc (jc2 b.v b.n m.prep m.prime) rfl rfl ?_)) | (refine jaa zRc (jc2 b.v m.bal.n m.prep m.prime) rfl rfl ?_)
 refine xC ?_ ?_<;>intro hc
 ·(
 first | (have:=mk31t;have h62:lowestV (confB m).v (confB m).n m.prep m.prime<=(confB m).n:=(by rw[<-hb];exact qc hc)) | (have h62:lowestV (confB m).v m.bal.n m.prep m.prime<=(confB m).n:=(by rw[<-hb];exact qc hc))
 have mk62t:True:=trivial;iterate 13 refine zW ?_
 first
 | (have:=mk31f;have:=mk62t;refine zPi ?_;rw[jal h12 hz9,jaK h31];unfold conf2;rw[qf (And.intro h48 h62)];rw[<-hb];rfl))
 ·(
 first | (have:=mk31t;have h62:¬lowestV (confB m).v (confB m).n m.prep m.prime<=(confB m).n:=(by rw[<-hb];exact qd hc)) | (have h62:¬lowestV (confB m).v m.bal.n m.prep m.prime<=(confB m).n:=(by rw[<-hb];exact qd hc))
 have mk62f:True:=trivial;iterate 9 refine zW ?_
 first
 | (have:=mk31f;have:=mk62f;refine zPi ?_;rw[jal h12 hz9,jaK h31];unfold conf2;rw[qe (λh=>h62 h.2)];rw[<-hb];rfl))))
 ·(
 first
 | (exact xQ hc)
 |(
 first | (have:=mk36f;have h48:¬(m.low=0/\cB (confB m) (confB m)=true):=(by first | (have h8:¬m.low=0:=qd hg;exact λh=>h8 h.1) | (exact qp (hc.symm.trans (jbD b)) zd))) | (have h48:¬(m.low=0/\cB m.bal (confB m)=true):=(by first | (have h8:¬m.low=0:=qd hg;exact λh=>h8 h.1) | (have h8:cB m.bal b=false:=hc;rw[<-hb,h8];exact λh=>by cases h.2)))
 have mk48f:True:=trivial;iterate 9 refine zW ?_
 first
 | (have:=mk31f;have:=mk48f;refine zPi ?_;rw[jal h12 hz9,jaK h31];unfold conf2;rw[qe (λh=>h48 h.1)];rw[<-hb];rfl))))))))))
theorem jmH(m:Mach)(hI:InvM m):C0 247 [mcv m] (mcv (finM m)):=by
 refine xI Tryz.func247 Tryz.call247 λhcap=>?_;have hsz1:=hI.sz;have hhl:=hI.hl;have hhs:∀e∈m.heard,sizeT e.t<=200000:=λe he=>by have:=(hI.hs e he).1;omega
 have hal:(allM m).length<=100:=by have:=jgN m;omega
 have has9:∀e∈allM m,sizeT e.t<=1000000000:=λe he=>by have:=jdK (k:=200000) zo hhs e he;omega
 have hbn:=hI.baln;have hbn0:=hI.bal.n0;have hlw:=hI.low;have hhg:=hI.high;have hmlen:(m.heard.map ev).length=m.heard.length:=by simp
 refine xX λb1=>?_;refine zAl λb2=>?_;refine xC ?_ ?_<;>intro hc
 ·(
 have hp2:¬m.phase=2:=jaf hc
 refine xP ?_;unfold finM;rw[qf hp2];rfl)
 ·(
 have hp2:m.phase=2:=jac hc;iterate 3 refine zW ?_
 refine zDr [] ?_;refine zT 0 ?_;refine zT 1 ?_;refine zT 2 ?_;refine zT 3 ?_;refine zT 4 ?_;refine zT 6 ?_;refine zT 7 ?_;refine zT 8 ?_;refine zOn 5 ?_;refine xA (jbf m zo) ?_;refine zW ?_;refine zOn 9 ?_;refine xB (jo1 m.node m.t (allM m) hal has9 m.bal.v) ?_;rintro _ _ ⟨rfl,rfl⟩;obtain⟨f,hf⟩:∃f,f=finF m:=⟨_,rfl⟩;rw[show finalB m.node m.t (allM m) m.bal.v=f from hf.symm];refine zW ?_;refine zT 10 ?_;refine zT 11 ?_;refine zT 12 ?_;refine zT 13 ?_;refine zT 14 ?_;refine zT 15 ?_;refine zT 16 ?_;refine zW ?_
 all_goals (
 refine xC ?_ ?_<;>intro hc
 ·(
 have hfo:(finF m).2.2=false:=by rw[<-hf];exact jaw hc
 refine xP ?_;unfold finM;rw[qe (λh=>h hp2),qe (by rw[hfo];decide)];rfl)
 ·(
 have hfo:(finF m).2.2=true:=by rw[<-hf];exact jav hc
 refine xP ?_;unfold finM;rw[qe (λh=>h hp2),qf hfo,<-hf];rfl)))
theorem jmW(m:Mach)(hI:InvM m):C0 248 [mcv m] (mcv (cauM m)):=by
 have hcap:=jbK;have hsz1:=hI.sz;have hhl:=hI.hl;have hhs:∀e∈m.heard,sizeT e.t<=200000:=λe he=>by have:=(hI.hs e he).1;omega
 have hal:(allM m).length<=100:=by have:=jgN m;omega
 have has9:∀e∈allM m,sizeT e.t<=1000000000:=λe he=>by have:=jdK (k:=200000) zo hhs e he;omega
 have hbn:=hI.baln;have hbn0:=hI.bal.n0;have hlw:=hI.low;have hhg:=hI.high;have hmlen:(m.heard.map ev).length=m.heard.length:=by simp
 obtain⟨bb,hbb⟩:∃b,b=bestGo m m.heard 1000000:=⟨_,rfl⟩
 have hbb0:0<=bb:=by rw[hbb];exact jg1 hbn0 m.heard 1000000 zo
 refine jar Tryz.func248 rfl Tryz.call248 rfl ?_;refine xX λb1=>?_;refine zAl λb2=>?_;iterate 9 refine zW ?_
 iterate 4 all_goals first | refine zW ?_ | refine xG ?_ ?_<;>intro hg
 all_goals first | (refine zY ?_;refine jaa zRc (jiV m zo zo hhs m.bal.n) rfl rfl ?_) | refine zSk ?_
 iterate 2 all_goals refine zW ?_
 all_goals (
 refine xC ?_ ?_<;>intro hc
 ·(
 first
 | (exact xQ hc)
 |(
 have h18:m.phase=3\/aheadV m m.bal.n=false:=by first | exact .inl (qc (by first | with_reducible assumption | exact hg)) | exact .inr (jaw hc)
 refine xP ?_;unfold cauM;rw[qf h18];rfl))
 ·(
 first
 | (exact xQ hc)
 |(
 have hp3:¬m.phase=3:=qd (by first | with_reducible assumption | exact hg);have h18:¬(m.phase=3\/aheadV m m.bal.n=false):=by rw[jav hc];rintro(h | h);exact hp3 h;cases h
 refine xN λ_=>?_;iterate 4 refine zW ?_
 refine jag [1,2,21,22] [.box b2 _ _,.box b1 _ _] (λ(k:Nat)(best:Int) r=>(3,.i best)::(23,.i (k:Int))::r) (λk best r=>r) (λk best=>k<=m.heard.length/\bestGo m (m.heard.drop k) best=bb) (λk best=>m.heard.length - k) (0) (1000000) zRc ⟨by omega,by rw[hbb];rfl⟩ (zWk) ?_;intro k best ⟨hk,hJ⟩;refine xC ?_ ?_<;>intro hc
 ·(
 have hlt:=qc hc;obtain⟨x,hx,hd⟩:=jab (l:=m.heard) (k:=k) zo;have hx':=jad ev hx;have hxs:=hhs x (qk hx);refine xL λb5=>?_;refine xA (jdC x zo) ?_;iterate 11 refine zW ?_
 iterate 7 all_goals first | refine zW ?_ | refine xG ?_ ?_<;>intro hg
 all_goals first | (refine zY ?_;refine jaa zRc (jiV m zo zo hhs (cntR x)) rfl rfl ?_) | refine zSk ?_
 iterate 2 all_goals refine zW ?_
 all_goals (
 refine xC ?_ ?_<;>intro hc
 ·(
 first
 | (exact xQ hc)
 |(
 have h44:(decide (cntR x>m.bal.n)&&(decide (cntR x<best)&&!aheadV m (cntR x)))=true:=by first | (simp_all;done) | grind
 have mk44t:True:=trivial;iterate 11 refine zW ?_
 rw[hd,bestGo] at hJ
 rw[qf h44] at hJ;refine⟨k+1,cntR x,⟨by omega,hJ⟩,by omega,zWk⟩))
 ·(
 first
 | (exact xQ hc)
 |(
 have h44:(decide (cntR x>m.bal.n)&&(decide (cntR x<best)&&!aheadV m (cntR x)))=false:=by first | (simp_all;done) | grind
 have mk44f:True:=trivial;iterate 8 refine zW ?_
 rw[hd,bestGo] at hJ
 first
 | (have:=mk44f;rw[qe (by rw[h44];decide)] at hJ;refine⟨k+1,best,⟨by omega,hJ⟩,by omega,zWk⟩)))))
 ·(
 have hge:=qd hc;rw[jae zo,bestGo] at hJ;subst hJ;refine xC ?_ ?_<;>intro hc
 ·(
 have hp1:m.phase=1:=qc hc;have hcv:cauV m=valM m:=qf hp1;refine xA (jfe m zo) ?_;refine xC ?_ ?_<;>intro hc
 ·(
 have hve:=jtz hc
 refine xP ?_;unfold cauM;rw[qe h18,qe (by rw[hcv];exact hve),hcv,<-hbb];rfl)
 ·(
 have hve:=jrr hc
 refine xP ?_;unfold cauM;rw[qe h18,qf (by rw[hcv];exact hve),hcv,<-hbb];rfl))
 ·(
 have hp1:¬m.phase=1:=qd hc;have hcv:cauV m=m.bal.v:=qe hp1;refine xC ?_ ?_<;>intro hc
 ·(
 have hve:=jtz hc;iterate 26 refine zW ?_
 exact qp rfl hve)
 ·(
 have hve:=jrr hc
 refine xP ?_;unfold cauM;rw[qe h18,qf hcv,hcv,<-hbb];rfl))))))
theorem jzd{sv:Str}{lo hi:Int}(h1:m.phase=1)(hb:(sv,lo,hi,false)=comF m):comM m=m:=by unfold comM;rw[qf h1,<-hb];rfl
theorem jkP{sv:Str}{lo hi:Int}{b p:Bal}(h1:m.phase=1)(hb:(sv,lo,hi,true)=comF m)(hbal:(if (!cB m.bal ⟨hi,sv⟩||lB m.bal ⟨hi,sv⟩)=true then (⟨max m.bal.n hi,sv⟩:Bal) else m.bal)=b)(hp:(if covB m.prep ⟨hi,sv⟩=true then m.prep else (⟨hi,sv⟩:Bal))=p) :
 comM m={ m with bal:=b,prep:=p,phase:=2,low:=lo,high:=hi,conf:=⟨hi,sv⟩,prime:=Bal.none }:=by
 unfold comM comB;rw[qf h1,<-hb,qf rfl,<-hbal,<-hp]
theorem jzP{r k:Int}(h1:m.phase=2)(hb:(r,k)=comX m):comM m={ m with low:=r,high:=k,bal:=⟨max m.bal.n k,m.bal.v⟩,conf:=⟨max m.conf.n k,m.bal.v⟩,prep:=⟨max m.prep.n k,m.prep.v⟩ }:=by
 unfold comM;rw[qe zo,qf h1,<-hb]
theorem jsO(h1:¬m.phase=1)(h2:¬m.phase=2):comM m=m:=by unfold comM;rw[qe h1,qe h2]
theorem jhE(m:Mach)(hI:InvM m):C0 246 [mcv m] (mcv (comM m)):=by
 refine xI Tryz.func246 Tryz.call246 λhcap=>?_;have hsz1:=hI.sz;have hhl:=hI.hl;have hhs:∀e∈m.heard,sizeT e.t<=200000:=λe he=>by have:=(hI.hs e he).1;omega
 have hal:(allM m).length<=100:=by have:=jgN m;omega
 have has9:∀e∈allM m,sizeT e.t<=1000000000:=λe he=>by have:=jdK (k:=200000) zo hhs e he;omega
 have hbn:=hI.baln;have hbn0:=hI.bal.n0;have hlw:=hI.low;have hhg:=hI.high;have hmlen:(m.heard.map ev).length=m.heard.length:=by simp
 refine xX λb1=>?_;refine zAl λb2=>?_;refine xC ?_ ?_<;>intro hc
 ·(
 have hp1:m.phase=1:=qc hc;refine zW ?_;refine zDr [] ?_;refine zT 0 ?_;refine zT 1 ?_;refine zT 2 ?_;refine zT 3 ?_;refine zT 4 ?_;refine zT 6 ?_;refine zT 7 ?_;refine zT 8 ?_;refine zT 9 ?_;refine zOn 5 ?_;refine xA (jbf m zo) ?_;refine zW ?_;refine zOn 10 ?_;refine xB (jpc m.node m.t (allM m) hal has9 m.prep m.prime) ?_;rintro _ _ ⟨rfl,rfl⟩;obtain⟨⟨sv,lo,hi,y⟩,hb⟩:∃b,b=comF m:=⟨_,rfl⟩;rw[show firstV m.node m.t (allM m) m.prep m.prime=(sv,lo,hi,y) from hb.symm];refine zW ?_;refine zT 11 ?_;refine zT 12 ?_;refine zT 13 ?_;refine zT 14 ?_;refine zT 15 ?_;refine zT 16 ?_;refine zT 17 ?_;refine zT 18 ?_;refine zT 19 ?_;refine zW ?_
 all_goals (
 refine xC ?_ ?_<;>intro hc
 ·(
 have hyy:y=false:=jaw hc;subst hyy
 refine xP ?_;rw[jzd hp1 hb];rfl)
 ·(
 have hyy:y=true:=jav hc;subst hyy;refine xL λb7=>?_;refine xA (jbb m.bal ⟨hi,sv⟩) ?_;iterate 2 refine zW ?_
 iterate 3 all_goals first | refine zW ?_ | refine xG ?_ ?_<;>intro hg
 all_goals first | (refine zY ?_;refine jaa zRc (jc7 m.bal ⟨hi,sv⟩) rfl rfl ?_) | refine zSk ?_
 all_goals refine zW ?_
 all_goals (
 refine xC ?_ ?_<;>intro hc
 ·(
 first
 | (exact xQ hc)
 |(
 have h44:(!cB m.bal ⟨hi,sv⟩||lB m.bal ⟨hi,sv⟩)=true:=by first | (rw[show (!cB m.bal ⟨hi,sv⟩)=true by with_reducible assumption];rfl) | (rw[show lB m.bal ⟨hi,sv⟩=true by with_reducible assumption];exact Bool.or_true _) | (simp_all;done) | grind
 have mk44t:True:=trivial;refine xA (jeh m.prep ⟨hi,sv⟩) ?_;refine xC ?_ ?_<;>intro hc
 ·(
 have h57:covB m.prep ⟨hi,sv⟩=false:=jaw hc;have mk57t:True:=trivial;iterate 6 refine zW ?_
 refine zDr [.box b1 _ _] ?_;refine zT 0 ?_;refine zT 1 ?_;refine zT 2 ?_;refine zT 3 ?_;refine zT 4 ?_;refine zOn 5 ?_;iterate 2 refine zW ?_
 refine zT 6 ?_;refine zOn 7 ?_;iterate 2 refine zW ?_
 refine zT 8 ?_;refine zOn 9 ?_;iterate 2 refine zW ?_
 refine zT 10 ?_;refine zOn 11 ?_;iterate 2 refine zW ?_
 refine zT 12 ?_;refine zOn 13 ?_;iterate 3 refine zW ?_
 all_goals (
 iterate 9 refine zW ?_
 first
 | (have:=mk44t;have:=mk57t;refine zPi ?_;rw[jkP hp1 hb (qf h44) (qe (by rw[h57];decide))];rfl)))
 ·(
 have h57:covB m.prep ⟨hi,sv⟩=true:=jav hc;have mk57f:True:=trivial;iterate 2 refine zW ?_
 refine zDr [.box b1 _ _] ?_;refine zT 0 ?_;refine zT 1 ?_;refine zT 2 ?_;refine zT 3 ?_;refine zT 4 ?_;refine zOn 5 ?_;iterate 2 refine zW ?_
 refine zT 6 ?_;refine zOn 7 ?_;iterate 2 refine zW ?_
 refine zT 8 ?_;refine zOn 9 ?_;iterate 2 refine zW ?_
 refine zT 10 ?_;refine zOn 11 ?_;iterate 2 refine zW ?_
 refine zT 12 ?_;refine zOn 13 ?_;iterate 3 refine zW ?_
 all_goals (
 iterate 9 refine zW ?_
 first
 | (have:=mk44t;have:=mk57f;refine zPi ?_;rw[jkP hp1 hb (qf h44) (qf h57)];rfl)))))
 ·(
 first
 | (exact xQ hc)
 |(
 have h44:¬(!cB m.bal ⟨hi,sv⟩||lB m.bal ⟨hi,sv⟩)=true:=by first | (simp_all;done) | grind
 refine xA (jeh m.prep ⟨hi,sv⟩) ?_;refine xC ?_ ?_<;>intro hc
 ·(
 have h57:covB m.prep ⟨hi,sv⟩=false:=jaw hc;have mk57t:True:=trivial;iterate 6 refine zW ?_
 refine zDr [.box b1 _ _] ?_;refine zT 0 ?_;refine zT 1 ?_;refine zT 2 ?_;refine zT 3 ?_;refine zT 4 ?_;refine zOn 5 ?_;iterate 2 refine zW ?_
 refine zT 6 ?_;refine zOn 7 ?_;iterate 2 refine zW ?_
 refine zT 8 ?_;refine zOn 9 ?_;iterate 2 refine zW ?_
 refine zT 10 ?_;refine zOn 11 ?_;iterate 2 refine zW ?_
 refine zT 12 ?_;refine zOn 13 ?_;iterate 3 refine zW ?_
 all_goals (
 refine xP ?_;rw[jkP hp1 hb (qe h44) (qe (by rw[h57];decide))];rfl))
 ·(
 have h57:covB m.prep ⟨hi,sv⟩=true:=jav hc;have mk57f:True:=trivial;iterate 2 refine zW ?_
 refine zDr [.box b1 _ _] ?_;refine zT 0 ?_;refine zT 1 ?_;refine zT 2 ?_;refine zT 3 ?_;refine zT 4 ?_;refine zOn 5 ?_;iterate 2 refine zW ?_
 refine zT 6 ?_;refine zOn 7 ?_;iterate 2 refine zW ?_
 refine zT 8 ?_;refine zOn 9 ?_;iterate 2 refine zW ?_
 refine zT 10 ?_;refine zOn 11 ?_;iterate 2 refine zW ?_
 refine zT 12 ?_;refine zOn 13 ?_;iterate 3 refine zW ?_
 all_goals (
 refine xP ?_;rw[jkP hp1 hb (qe h44) (qf h57)];rfl))))))))
 ·(
 have hp1:¬m.phase=1:=qd hc;refine xC ?_ ?_<;>intro hc
 ·(
 have hp2:m.phase=2:=qc hc;refine zW ?_;refine jqQ (stB [18,19,20]) (by kernel_rfl) ?_;refine jbe 0 rfl (.none rfl) zKr zKr zKr (ja7 (off:=0) (sz:=1) (g:=false) rfl rfl) rfl rfl ?_;refine jca 1 rfl (.none rfl) zKr zKr zKr zKr (jes rfl jct qv rfl zRc) rfl rfl ?_;refine jbe 2 rfl (.none rfl) zKr zKr zKr (ja7 (off:=3) (sz:=3) (g:=true) rfl rfl) rfl rfl ?_;refine jca 3 rfl (.none rfl) zKr zKr zKr zKr (jmf rfl jct qv rfl rfl zRc) rfl rfl ?_;refine jca 4 rfl (.none rfl) zKr zKr zKr zKr (jmf rfl jct qv rfl rfl zRc) rfl rfl ?_;refine jbe 6 rfl (.none rfl) zKr zKr zKr (ja7 (off:=7) (sz:=2) (g:=true) rfl rfl) rfl rfl ?_;refine jbe 7 rfl (.none rfl) zKr zKr zKr (ja7 (off:=1) (sz:=1) (g:=false) rfl rfl) rfl rfl ?_;refine jca 8 rfl (.none rfl) zKr zKr zKr zKr (jes rfl jct qv rfl zRc) rfl rfl ?_;refine jbe 9 rfl (.none rfl) zKr zKr zKr (ja7 (off:=15) (sz:=1) (g:=false) rfl rfl) rfl rfl ?_;refine jca 10 rfl (.none rfl) zKr zKr zKr zKr (jes rfl jct qv rfl zRc) rfl rfl ?_;refine jbe 11 rfl (.none rfl) zKr zKr zKr (ja7 (off:=16) (sz:=1) (g:=false) rfl rfl) rfl rfl ?_;refine jca 12 rfl (.none rfl) zKr zKr zKr zKr (jes rfl jct qv rfl zRc) rfl rfl ?_;refine jh9 5 zKr rfl zRc (jbf m zo) rfl rfl ?_;rintro _ _ ⟨rfl,rfl⟩;refine⟨rfl,?_⟩;refine jh9 13 zKr rfl zRc (jmr m.node m.t (allM m) hal has9 m.bal.v m.low m.high) rfl rfl ?_;rintro _ _ ⟨rfl,rfl⟩;obtain⟨⟨r,k⟩,hb⟩:∃b,b=comX m:=⟨_,rfl⟩;rw[show extendV m.node m.t (allM m) m.bal.v m.low m.high=(r,k) from hb.symm];refine⟨rfl,?_⟩;refine jbe 14 rfl (.none rfl) zKr zKr zKr (jl6 rfl) rfl rfl ?_;refine jbe 15 rfl (.none rfl) zKr zKr zKr (jfr rfl rfl) rfl rfl ?_;refine jbe 16 rfl (.none rfl) zKr zKr zKr (jfr rfl rfl) rfl rfl ?_;refine jbe 17 rfl (.none rfl) zKr zKr zKr (ja7 (off:=15) (sz:=1) (g:=false) rfl rfl) rfl rfl ?_;refine jkx (Hm:=[.box b1 _ _]) (by kernel_rfl) (by kernel_rfl) (by repeat (first | exact .nil | exact Split.none _ | apply Split.left | apply Split.right)) ?_;refine zOn 18 ?_;iterate 2 refine zW ?_
 refine zT 19 ?_;refine zOn 20 ?_;iterate 3 refine zW ?_
 all_goals (
 refine xP ?_;rw[jzP hp2 hb];rfl))
 ·(
 have hp2:¬m.phase=2:=qd hc;have mk69f:True:=trivial
 refine xP ?_;rw[jsO hp1 hp2];rfl))
theorem jzA{a:Mach}(h:StepR a b)(hn:sameV a b=false):mu b<mu a:=h.2.2.resolve_left (jez hn)
theorem jxU(h:sameV c (prepM c)=false):Tq.stepG c=prepM c:=qf h
theorem jyk(h1:prepM c=c)(h:sameV c (confS c)=false):Tq.stepG c=confS c:=by
 unfold Tq.stepG;rw[h1,qe (by rw[ja2];decide),qf h]
theorem jx9(h1:prepM c=c)(h2:confS c=c)(h:sameV c (comM c)=false):Tq.stepG c=comM c:=by
 unfold Tq.stepG;rw[h1,h2,qe (by rw[ja2];decide),qe (by rw[ja2];decide),qf h]
theorem jw0(h1:prepM c=c)(h2:confS c=c)(h3:comM c=c)(h:sameV c (finM c)=false):Tq.stepG c=finM c:=by
 unfold Tq.stepG;rw[h1,h2,h3,qe (by rw[ja2];decide),qe (by rw[ja2];decide),qe (by rw[ja2];decide),qf h]
theorem jmP(h1:prepM c=c)(h2:confS c=c)(h3:comM c=c)(h4:finM c=c):Tq.stepG c=cauM c:=by
 unfold Tq.stepG;rw[h1,h2,h3,h4,qe (by rw[ja2];decide),qe (by rw[ja2];decide),qe (by rw[ja2];decide),qe (by rw[ja2];decide)]
theorem jyS(h:checkM m=false):advM m=m:=by unfold advM;rw[qe (by rw[h];decide)]
theorem jzn(h:checkM m=true)(hr:restM m=c)(hz:zB c.bal=true):advM m=c:=by unfold advM;rw[qf h,hr,qf hz]
theorem jyU(h:checkM m=true)(hr:restM m=c)(hz:zB c.bal=false):advM m={ c with seq:=max c.seq 1 }:=by unfold advM;rw[qf h,hr,qe (by rw[hz];decide)]
theorem jkU(m:Mach)(hI0:InvM m):C0 215 [mcv m] (mcv (advM m)):=by
 refine xI Tryz.func215 Tryz.call215 λhcap=>?_;have hsz1:=hI0.sz;refine xX λb1=>?_;refine zAl λb2=>?_;refine xA (jc3 m zo (λe he=>by have:=(hI0.hs e he).1;omega)) ?_;refine xC ?_ ?_<;>intro hc
 ·(
 have hck:checkM m=false:=jaw hc
 refine xP ?_;rw[jyS hck];rfl)
 ·(
 have hck:checkM m=true:=jav hc;iterate 3 refine zW ?_
 refine jah [1,2] [.box b2 _ _] (λ(c:Mach) r=>r) (λc r=>.box b1 129 [.i c.node,.i c.slot,.i c.seq,.i c.t.th,.sl 1 (c.t.nodes.map .i),.sl 3 (avs c.t.inner),.i c.phase,.i c.bal.n,.v (.string c.bal.v),.i c.prep.n,.v (.string c.prep.v),.i c.prime.n,.v (.string c.prime.v),.i c.conf.n,.v (.string c.conf.v),.i c.low,.i c.high,.v (.string c.prop),.sl 15 (c.heard.map ev)]::r) (λc=>InvM c/\restM c=restM m) (λc=>mu c) (m) zRc ⟨hI0,rfl⟩ (zWk) ?_;intro c ⟨hI,hre⟩;refine xL λb3=>?_;refine xB (jkd c hI) ?_;rintro _ _ ⟨rfl,rfl⟩;obtain⟨c1,hc1⟩:∃x,x=prepM c:=⟨_,rfl⟩;have hs1:StepR c c1:=hc1 ▸ jek hI;rw[<-hc1];refine xA (jaz c _) ?_;refine xC ?_ ?_<;>intro hc
 ·(
 have e1:=jb5 hs1.1 hc;rw[e1];have q1:prepM c=c:=hc1.symm.trans e1;refine xB (jhH c hI) ?_;rintro _ _ ⟨rfl,rfl⟩;obtain⟨c2,hc2⟩:∃x,x=confS c:=⟨_,rfl⟩;have hs2:StepR c c2:=hc2 ▸ jey hI;rw[<-hc2];refine xA (jaz c _) ?_;refine xC ?_ ?_<;>intro hc
 ·(
 have e2:=jb5 hs2.1 hc;rw[e2];have q2:confS c=c:=hc2.symm.trans e2;refine xB (jhE c hI) ?_;rintro _ _ ⟨rfl,rfl⟩;obtain⟨c3,hc3⟩:∃x,x=comM c:=⟨_,rfl⟩;have hs3:StepR c c3:=hc3 ▸ jf3 hI;rw[<-hc3];refine xA (jaz c _) ?_;refine xC ?_ ?_<;>intro hc
 ·(
 have e3:=jb5 hs3.1 hc;rw[e3];have q3:comM c=c:=hc3.symm.trans e3;refine xB (jmH c hI) ?_;rintro _ _ ⟨rfl,rfl⟩;obtain⟨c4,hc4⟩:∃x,x=finM c:=⟨_,rfl⟩;have hs4:StepR c c4:=hc4 ▸ jgm hI;rw[<-hc4];refine xA (jaz c _) ?_;refine xC ?_ ?_<;>intro hc
 ·(
 have e4:=jb5 hs4.1 hc;rw[e4];have q4:finM c=c:=hc4.symm.trans e4;refine xB (jmW c hI) ?_;rintro _ _ ⟨rfl,rfl⟩;obtain⟨c5,hc5⟩:∃x,x=cauM c:=⟨_,rfl⟩;have hs5:StepR c c5:=hc5 ▸ jj3 hI;rw[<-hc5];refine xA (jaz c _) ?_;refine xC ?_ ?_<;>intro hc
 ·(
 have e5:=jb5 hs5.1 hc;rw[e5];have q5:cauM c=c:=hc5.symm.trans e5;refine xA (jaM c.bal) ?_;refine xC ?_ ?_<;>intro hc
 ·(
 have hz:zB c.bal=false:=jaw hc;iterate 18 refine zW ?_
 have hr:restM m=c:=hre.symm.trans (je0 ((jmP q1 q2 q3 q4).trans q5))
 refine zPi ?_;rw[jyU hck hr hz];rfl)
 ·(
 have hz:zB c.bal=true:=jav hc;iterate 12 refine zW ?_
 have hr:restM m=c:=hre.symm.trans (je0 ((jmP q1 q2 q3 q4).trans q5))
 refine zPi ?_;rw[jzn hck hr hz];rfl))
 ·(
 first | (have:=hn1;skip) | (have:=hn2;skip) | (have:=hn3;skip) | (have:=hn4;skip) | have hn5:=hc
 iterate 3 refine zW ?_
 have h9:=hn5;have hg:Tq.stepG c=c5:=(jmP q1 q2 q3 q4).trans hc5.symm;refine⟨c5,⟨hs5.2.1,by rw[<-hg];exact(jdt hI).trans hre⟩,jzA hs5 hn5,zWk⟩))
 ·(
 first | (have:=hn1;skip) | (have:=hn2;skip) | (have:=hn3;skip) | have hn4:=hc
 refine xA (jaz c _) ?_;refine xC ?_ ?_<;>intro hc
 ·exact qp (hn4.symm.trans hc) zd
 ·(
 first | (have:=hn1;skip) | (have:=hn2;skip) | (have:=hn3;skip) | (have:=hn4;skip) | have hn5:=hc
 iterate 3 refine zW ?_
 have h9:=hn4;have hg:Tq.stepG c=c4:=(jw0 q1 q2 q3 (hc4 ▸ hn4)).trans hc4.symm;refine⟨c4,⟨hs4.2.1,by rw[<-hg];exact(jdt hI).trans hre⟩,jzA hs4 hn4,zWk⟩)))
 ·(
 first | (have:=hn1;skip) | (have:=hn2;skip) | have hn3:=hc
 refine xA (jaz c _) ?_;refine xC ?_ ?_<;>intro hc
 ·exact qp (hn3.symm.trans hc) zd
 ·(
 first | (have:=hn1;skip) | (have:=hn2;skip) | (have:=hn3;skip) | have hn4:=hc
 refine xA (jaz c _) ?_;refine xC ?_ ?_<;>intro hc
 ·exact qp (hn3.symm.trans hc) zd
 ·(
 first | (have:=hn1;skip) | (have:=hn2;skip) | (have:=hn3;skip) | (have:=hn4;skip) | have hn5:=hc
 iterate 3 refine zW ?_
 have h9:=hn3;have hg:Tq.stepG c=c3:=(jx9 q1 q2 (hc3 ▸ hn3)).trans hc3.symm;refine⟨c3,⟨hs3.2.1,by rw[<-hg];exact(jdt hI).trans hre⟩,jzA hs3 hn3,zWk⟩))))
 ·(
 first | (have:=hn1;skip) | have hn2:=hc
 refine xA (jaz c _) ?_;refine xC ?_ ?_<;>intro hc
 ·exact qp (hn2.symm.trans hc) zd
 ·(
 first | (have:=hn1;skip) | (have:=hn2;skip) | have hn3:=hc
 refine xA (jaz c _) ?_;refine xC ?_ ?_<;>intro hc
 ·exact qp (hn2.symm.trans hc) zd
 ·(
 first | (have:=hn1;skip) | (have:=hn2;skip) | (have:=hn3;skip) | have hn4:=hc
 refine xA (jaz c _) ?_;refine xC ?_ ?_<;>intro hc
 ·exact qp (hn2.symm.trans hc) zd
 ·(
 first | (have:=hn1;skip) | (have:=hn2;skip) | (have:=hn3;skip) | (have:=hn4;skip) | have hn5:=hc
 iterate 3 refine zW ?_
 have h9:=hn2;have hg:Tq.stepG c=c2:=(jyk q1 (hc2 ▸ hn2)).trans hc2.symm;refine⟨c2,⟨hs2.2.1,by rw[<-hg];exact(jdt hI).trans hre⟩,jzA hs2 hn2,zWk⟩)))))
 ·(
 first | have hn1:=hc
 refine xA (jaz c _) ?_;refine xC ?_ ?_<;>intro hc
 ·exact qp (hn1.symm.trans hc) zd
 ·(
 first | (have:=hn1;skip) | have hn2:=hc
 refine xA (jaz c _) ?_;refine xC ?_ ?_<;>intro hc
 ·exact qp (hn1.symm.trans hc) zd
 ·(
 first | (have:=hn1;skip) | (have:=hn2;skip) | have hn3:=hc
 refine xA (jaz c _) ?_;refine xC ?_ ?_<;>intro hc
 ·exact qp (hn1.symm.trans hc) zd
 ·(
 first | (have:=hn1;skip) | (have:=hn2;skip) | (have:=hn3;skip) | have hn4:=hc
 refine xA (jaz c _) ?_;refine xC ?_ ?_<;>intro hc
 ·exact qp (hn1.symm.trans hc) zd
 ·(
 first | (have:=hn1;skip) | (have:=hn2;skip) | (have:=hn3;skip) | (have:=hn4;skip) | have hn5:=hc
 iterate 3 refine zW ?_
 have h9:=hn1;have hg:Tq.stepG c=c1:=(jxU  (hc1 ▸ hn1)).trans hc1.symm;refine⟨c1,⟨hs1.2.1,by rw[<-hg];exact(jdt hI).trans hre⟩,jzA hs1 hn1,zWk⟩))))))
theorem jl9(h:InvM m)(hq:0<=m.seq/\m.seq<=1000000):0<=(advM m).seq/\(advM m).seq<=1000000:=by
 have h1:=(jbj h).2.seq;unfold advM;split
 ·(
 split
 ·rw[h1];exact hq
 ·(
 show 0<=max (restM m).seq 1/\max (restM m).seq 1<=1000000
 rw[h1];omega))
 ·exact hq
theorem jzR(h:c=advM m)(hz:zB c.bal=true):numM b m=c:=by unfold numM;rw[<-h,qf hz]
theorem jwd(h:c=advM m)(hz:zB c.bal=false)(h2:(!zB b.bal&&!sameE { envR b with seq:=0 } { envR c with seq:=0 })=true):numM b m={ c with seq:=min (c.seq+1) 1000000 }:=by unfold numM;rw[<-h,qe (by rw[hz];decide),qf h2]
theorem jzt(h:c=advM m)(hz:zB c.bal=false)(h2:(!zB b.bal&&!sameE { envR b with seq:=0 } { envR c with seq:=0 })=false):numM b m=c:=by unfold numM;rw[<-h,qe (by rw[hz];decide),qe (by rw[h2];decide)]
theorem jdd(b m:Mach)(hI:InvM m)(hq:0<=m.seq/\m.seq<=1000000):C0 185 [mcv b,mcv m] (mcv (numM b m)):=by
 refine xI Tryz.func185 Tryz.call185 λhcap=>?_;refine xX λb2=>?_;refine zBx λb3=>?_;refine zAl λb4=>?_;refine xB (jkU m hI) ?_;rintro _ _ ⟨rfl,rfl⟩;obtain⟨c,hb⟩:∃c,c=advM m:=⟨_,rfl⟩;have hcq:0<=c.seq/\c.seq<=1000000:=hb ▸ jl9 hI hq;rw[<-hb];refine xA (jaM c.bal) ?_;refine xC ?_ ?_<;>intro hc
 ·(
 have hz:zB c.bal=true:=hc
 refine xP ?_;rw[jzR hb hz];rfl)
 ·(
 have hz:zB c.bal=false:=hc;iterate 3 refine zW ?_
 refine zDr [] ?_;refine zT 0 ?_;refine zT 2 ?_;refine jdS 1 4 5 zKr (cho rfl zGd ?_) (cho rfl zGd ?_) (cho rfl zGd ?_)
 rotate_left 2
 case' _ =>(
 refine zAl λb6=>?_;refine zW ?_;refine zE2 1 4 ?_ ?_
 rotate_left
 case' _ =>(
 refine zAl λb5=>?_;refine zW ?_;refine zOn 1 ?_;refine xA (jaO b) ?_;refine zW ?_;refine zOn 3 ?_;refine xA (jaO c) ?_;refine zW ?_;refine zOn 6 ?_;iterate 2 refine zW ?_
 refine zOn 7 ?_
 iterate 3 refine zW ?_)
 rotate_right
 case' _ =>(
 refine xA (jaO b) ?_;refine zW ?_;refine zE2 3 4 ?_ ?_
 rotate_left
 case' _ =>(
 refine zAl λb5=>?_;refine zW ?_;refine zOn 3 ?_;refine xA (jaO c) ?_;refine zW ?_;refine zOn 6 ?_;iterate 2 refine zW ?_
 refine zOn 7 ?_
 iterate 3 refine zW ?_)
 rotate_right
 case' _ =>(
 refine xA (jaO c) ?_;refine zW ?_;refine zOn 4 ?_;refine zAl λb5=>?_;refine zW ?_;refine zOn 6 ?_;iterate 2 refine zW ?_
 refine zOn 7 ?_
 iterate 3 refine zW ?_)))
 rotate_right
 case' _ =>(
 refine zAl λb5=>?_;refine zW ?_;refine zE2 1 5 ?_ ?_
 rotate_left
 case' _ =>(
 refine zAl λb6=>?_;refine zW ?_;refine zOn 1 ?_;refine xA (jaO b) ?_;refine zW ?_;refine zOn 3 ?_;refine xA (jaO c) ?_;refine zW ?_;refine zOn 6 ?_;iterate 2 refine zW ?_
 refine zOn 7 ?_
 iterate 3 refine zW ?_)
 rotate_right
 case' _ =>(
 refine xA (jaO b) ?_;refine zW ?_;refine zE2 3 5 ?_ ?_
 rotate_left
 case' _ =>(
 refine zAl λb6=>?_;refine zW ?_;refine zOn 3 ?_;refine xA (jaO c) ?_;refine zW ?_;refine zOn 6 ?_;iterate 2 refine zW ?_
 refine zOn 7 ?_
 iterate 3 refine zW ?_)
 rotate_right
 case' _ =>(
 refine xA (jaO c) ?_;refine zW ?_;refine zOn 5 ?_;refine zAl λb6=>?_;refine zW ?_;refine zOn 6 ?_;iterate 2 refine zW ?_
 refine zOn 7 ?_
 iterate 3 refine zW ?_)))
 rotate_right
 case' _ =>(
 refine xA (jaO b) ?_;refine zW ?_;refine jdS 3 4 5 zKr (cho rfl zGd ?_) (cho rfl zGd ?_) (cho rfl zGd ?_)
 rotate_left 2
 case' _ =>(
 refine zAl λb6=>?_;refine zW ?_;refine zE2 3 4 ?_ ?_
 rotate_left
 case' _ =>(
 refine zAl λb5=>?_;refine zW ?_;refine zOn 3 ?_;refine xA (jaO c) ?_;refine zW ?_;refine zOn 6 ?_;iterate 2 refine zW ?_
 refine zOn 7 ?_
 iterate 3 refine zW ?_)
 rotate_right
 case' _ =>(
 refine xA (jaO c) ?_;refine zW ?_;refine zOn 4 ?_;refine zAl λb5=>?_;refine zW ?_;refine zOn 6 ?_;iterate 2 refine zW ?_
 refine zOn 7 ?_
 iterate 3 refine zW ?_))
 rotate_right
 case' _ =>(
 refine zAl λb5=>?_;refine zW ?_;refine zE2 3 5 ?_ ?_
 rotate_left
 case' _ =>(
 refine zAl λb6=>?_;refine zW ?_;refine zOn 3 ?_;refine xA (jaO c) ?_;refine zW ?_;refine zOn 6 ?_;iterate 2 refine zW ?_
 refine zOn 7 ?_
 iterate 3 refine zW ?_)
 rotate_right
 case' _ =>(
 refine xA (jaO c) ?_;refine zW ?_;refine zOn 5 ?_;refine zAl λb6=>?_;refine zW ?_;refine zOn 6 ?_;iterate 2 refine zW ?_
 refine zOn 7 ?_
 iterate 3 refine zW ?_))
 rotate_right
 case' _ =>(
 refine xA (jaO c) ?_;refine zW ?_;refine zE2 4 5 ?_ ?_
 rotate_left
 case' _ =>(
 refine zAl λb6=>?_;refine zW ?_;refine zOn 4 ?_;refine zAl λb5=>?_;refine zW ?_;refine zOn 6 ?_;iterate 2 refine zW ?_
 refine zOn 7 ?_
 iterate 3 refine zW ?_)
 rotate_right
 case' _ =>(
 refine zAl λb5=>?_;refine zW ?_;refine zOn 5 ?_;refine zAl λb6=>?_;refine zW ?_;refine zOn 6 ?_;iterate 2 refine zW ?_
 refine zOn 7 ?_
 iterate 3 refine zW ?_)))
 all_goals (
 refine xA (jaM b.bal) ?_;iterate 2 refine zW ?_
 iterate 2 all_goals first | refine zW ?_ | refine xG ?_ ?_<;>intro hg
 all_goals first | (refine zY ?_;refine jaa zRc (jmw { envR b with seq:=0 } { envR c with seq:=0 }) rfl rfl ?_) | refine zSk ?_
 iterate 2 all_goals refine zW ?_
 all_goals (
 refine xC ?_ ?_<;>intro hc
 ·(
 first
 | (exact xQ hc)
 |(
 have h28:(!zB b.bal&&!sameE { envR b with seq:=0 } { envR c with seq:=0 })=true:=by first | (simp_all;done) | grind
 have mk28t:True:=trivial
 refine xP ?_;rw[jwd hb hz h28];rfl))
 ·(
 first
 | (exact xQ hc)
 |(
 have h28:(!zB b.bal&&!sameE { envR b with seq:=0 } { envR c with seq:=0 })=false:=by first | (simp_all;done) | grind
 have mk28f:True:=trivial;iterate 9 refine zW ?_
 first
 | (have:=mk28f;refine zPi ?_;rw[jzt hb hz h28];rfl))))))
theorem juq(l:List Evp)(hlen:l.length<=1000)(e:Evp)(hs:sizeT e.t<=1000000000):C0 212 [.sl 15 (l.map ev),ev e] (.tup [.sl 15 ((putV l e).1.map ev),.b (putV l e).2]):=by
 refine xI Tryz.func212 Tryz.call212 λhcap=>?_;have hml:(l.map ev).length=l.length:=by simp
 refine xX λb3=>?_;refine xA (jaA e hs) ?_;refine xC ?_ ?_<;>intro hc
 ·(
 have hv:vE e=false:=jaw hc;refine xP ?_
 rw[jyH hv];rfl)
 ·(
 have hv:vE e=true:=jav hc;refine xN λ_=>?_;iterate 4 refine zW ?_
 refine jah [0,3,13,14] [.box b3 _ _] (λ(i:Nat) r=>(15,.i (i:Int))::r) (λi r=>r) (λi=>i<=l.length/\putGo l e (l.drop i) i=putGo l e l 0) (λi=>l.length - i) (0) zRc ⟨by omega,rfl⟩ (zWk) ?_;intro i ⟨hi,hI⟩;refine xC ?_ ?_<;>intro hc
 ·(
 have hlt:=qc hc;obtain⟨x,hx,hd⟩:=jab (l:=l) (k:=i) zo;have hx':=jad ev hx;rw[hd,putGo] at hI;refine xL λb7=>?_;refine xC ?_ ?_<;>intro hc
 ·(
 rw[qf (qc hc)] at hI;refine xC ?_ ?_<;>intro hc
 ·(
 rw[qf (qc hc)] at hI;refine xP ?_
 rw[joP hv,<-hI];rfl)
 ·(
 rw[qe (qd hc)] at hI;iterate 3 refine zW ?_
 refine zDr [] ?_;refine zT 0 ?_;refine zT 1 ?_;refine zT 2 ?_;refine zT 4 ?_;refine zT 7 ?_;refine zT 8 ?_;refine zT 9 ?_;refine zT 10 ?_;refine zE2 3 5 ?_ ?_
 rotate_left
 case' _ =>(
 refine xLt 55 15 176 ?_;refine zW ?_;refine zOn 3 ?_;refine xEn 55 15 176 (hb:=xLb) λv34 hv34=>?_;refine zW ?_;refine zOn 6 ?_;refine xEa 55 15 176 (hb:=xLb) λv37 hv37=>?_;refine zW ?_;refine zOn 11 ?_;refine xEa 55 15 176 (hb:=xLb) λv42 hv42=>?_;refine zW ?_;refine zT 12 ?_;refine zT 13 ?_
 refine zW ?_)
 rotate_right
 case' _ =>(
 refine xEn 55 15 176 (hb:=xLb) λv34 hv34=>?_;refine zW ?_;refine zOn 5 ?_;refine xLt 55 15 176 ?_;refine zW ?_;refine zOn 6 ?_;refine xEa 55 15 176 (hb:=xLb) λv37 hv37=>?_;refine zW ?_;refine zOn 11 ?_;refine xEa 55 15 176 (hb:=xLb) λv42 hv42=>?_;refine zW ?_;refine zT 12 ?_;refine zT 13 ?_
 refine zW ?_)
 all_goals (
 refine zW ?_;rw[show D.agg [.i e.node,.i e.slot,.i e.seq,.i e.t.th,.sl 1 (e.t.nodes.map .i),.sl 3 (avs e.t.inner),.i e.kind,.i e.bal.n,.v (.string e.bal.v),.i e.prep.n,.v (.string e.prep.v),.i e.prime.n,.v (.string e.prime.v),.i e.low,.i e.high]=ev e from rfl,jc5];refine zFz v42 [4,5] ?_;refine xP ?_
 rw[joP hv,<-hI];rfl)))
 ·(
 rw[qe (qd hc)] at hI;iterate 8 refine zW ?_
 refine⟨i+1,⟨by omega,hI⟩,by omega,zWk⟩))
 ·(
 have hge:=qd hc;rw[jae zo,putGo] at hI;iterate 12 refine zW ?_
 refine jah [0,3] [.box b3 _ _] (λ(k:Nat) r=>(8,.i (k:Int))::r) (λk r=>r) (λk=>k<=l.length/\posG (ltE e) (l.drop k)+k=posG (ltE e) l) (λk=>l.length - k) (0) zRc ⟨by omega,by simp⟩ (zWk) ?_;intro k ⟨hk,hJ⟩;obtain⟨y,hy⟩:=jgB l k e;iterate 2 refine zW ?_
 refine zDr [] ?_;refine zT 0 ?_;refine zT 1 ?_;refine zT 2 ?_;refine zT 3 ?_;refine zT 4 ?_;refine jai 4 rfl (λhg=>?_) λhg=>?_
 rotate_left
 case' _ =>(
 refine zK 5 ?_;refine zK 6 ?_;refine zK 7 ?_;refine zK 8 ?_;refine zK 9 ?_;refine zK 10 ?_;refine zK 11 ?_;refine zK 12 ?_;refine zT 13 ?_
 refine zW ?_)
 rotate_right
 case' _ =>(
 refine zT 5 ?_;refine zT 6 ?_;refine jam 7 rfl zGd zKr zKr zKr (AP.ar (jap (k:=k) rfl rfl rfl rfl zd rfl (jad ev (hy (by have h9:decide ((k:Int)<((l.map ev).length:Int))=true:=(by first | with_reducible assumption | exact hg);have:=qc h9;simp only[qw] at this;omega))))) rfl rfl ?_;refine zT 8 ?_;refine zT 9 ?_;refine zT 10 ?_;refine zT 11 ?_;refine zT 12 ?_;refine zT 13 ?_
 refine zW ?_)
 all_goals (
 refine xC ?_ ?_<;>intro hc
 ·(
 first
 | (exact xQ hc)
 |(
 iterate 10 refine zW ?_
 have hlt:k<l.length:=by have h9:decide ((k:Int)<((l.map ev).length:Int))=true:=(by first | with_reducible assumption | exact hg | exact hc);have:=qc h9;omega
 rw[jfz (lt:=ltE e) (hy hlt) (show ltE e y=true by first | with_reducible assumption | exact hc)] at hJ
 refine⟨k+1,⟨by omega,by omega⟩,by omega,zWk⟩))
 ·(
 first
 | (exact xQ hc)
 |(
 have hpos:posG (ltE e) l=k:=by first | (have h9:decide ((k:Int)<((l.map ev).length:Int))=false:=(by first | with_reducible assumption | exact hg | exact hc);have:=qd h9;rw[jdy zo] at hJ;omega) | (have h9:ltE e y=false:=(by first | with_reducible assumption | exact hg | exact hc);rw[jcN (lt:=ltE e) (hy (by have h8:decide ((k:Int)<((l.map ev).length:Int))=true:=(by first | with_reducible assumption | exact hg | exact hc);have:=qc h8;omega)) h9] at hJ;omega)
 iterate 6 refine zW ?_
 refine zDr [] ?_;refine zT 0 ?_;refine zT 1 ?_;refine zT 2 ?_;refine zT 4 ?_;refine zT 7 ?_;refine zT 8 ?_;refine zT 9 ?_;refine zE2 3 5 ?_ ?_
 rotate_left
 case' _ =>(
 refine xLt 55 15 176 ?_;refine zW ?_;refine zOn 3 ?_
 first | refine xEa 55 15 176 (hb:=xLb) λv63 hv63=>?_ | refine xEn 55 15 176 (hb:=xLb) λv63 hv63=>?_
 refine zW ?_;refine zOn 6 ?_;refine xEa 55 15 176 (hb:=xLb) λv66 hv66=>?_;refine zW ?_;refine zOn 10 ?_;refine xEa 55 15 176 (hb:=xLb) λv70 hv70=>?_;refine zW ?_;refine zT 11 ?_;refine zT 12 ?_
 refine zW ?_)
 rotate_right
 case' _ =>(
 first | refine xEa 55 15 176 (hb:=xLb) λv63 hv63=>?_ | refine xEn 55 15 176 (hb:=xLb) λv63 hv63=>?_
 refine zW ?_;refine zOn 5 ?_;refine xLt 55 15 176 ?_;refine zW ?_;refine zOn 6 ?_;refine xEa 55 15 176 (hb:=xLb) λv66 hv66=>?_;refine zW ?_;refine zOn 10 ?_;refine xEa 55 15 176 (hb:=xLb) λv70 hv70=>?_;refine zW ?_;refine zT 11 ?_;refine zT 12 ?_
 refine zW ?_)
 all_goals (
 refine zW ?_;rw[show D.agg [.i e.node,.i e.slot,.i e.seq,.i e.t.th,.sl 1 (e.t.nodes.map .i),.sl 3 (avs e.t.inner),.i e.kind,.i e.bal.n,.v (.string e.bal.v),.i e.prep.n,.v (.string e.prep.v),.i e.prime.n,.v (.string e.prime.v),.i e.low,.i e.high]=ev e from rfl,jc5];refine zFz v70 [4,5] ?_;refine xP ?_
 rw[joP hv,<-hI,hpos];rfl))))))
theorem jfK(m:Mach)(hS:InvS m)(v:Str):C0 147 [mcv m,.v (.string v)] (.tup [mcv (propV m v).1,.i (propV m v).2]):=by
 refine xI Tryz.func147 Tryz.call147 λhcap=>?_;have hI:=hS.inv;have hsz1:=hI.sz;have hhl:=hI.hl;have hhs9:∀e∈m.heard,sizeT e.t<=1000000000:=λe he=>by have:=(hI.hs e he).1;omega
 have hbn:=hI.baln;have hbn0:=hI.bal.n0;have hsq:=hS.seq;have hmlen:(m.heard.map ev).length=m.heard.length:=by simp
 refine xX λb2=>?_;refine zAl λb4=>?_;refine xA (jc3 m zo hhs9) ?_;refine xC ?_ ?_<;>intro hc
 ·(
 have hck:checkM m=false:=jaw hc;iterate 7 refine zW ?_
 refine jak [4,5] 1 rfl xSe (by apply HeapA.box (xc4 (CvL.cons Cv.fz (xc4 (xc4 (xc4 (CvL.cons Cv.same (CvL.cons Cv.same CvL.nil)))))));exact xHb) ?_;refine jak [4,5] 3 rfl xSe (by apply HeapA.box (xc4 (CvL.cons Cv.same (CvL.cons Cv.fz (xc4 (xc4 (xc4 (CvL.cons Cv.same CvL.nil)))))));exact xHb) ?_;refine jak [4,5] 15 rfl xSe (by apply HeapA.box (xc4 (xc4 (xc4 (xc4 (CvL.cons Cv.same (CvL.cons Cv.same (CvL.cons Cv.fz CvL.nil)))))));exact xHb) ?_;refine xP ?_
 unfold propV;rw[qf hck];rfl)
 ·(
 have hck:checkM m=true:=jav hc;iterate 9 refine zW ?_
 iterate 4 all_goals first | refine zW ?_ | refine xG ?_ ?_<;>intro hg
 all_goals (
 refine xC ?_ ?_<;>intro hc
 ·(
 first
 | (exact xQ hc)
 |(
 have hv:v.size<1\/v.size>200:=by first | (have:=qc hg;omega) | (have:=qc hc;omega)
 iterate 7 refine zW ?_
 refine jak [4,5] 1 rfl xSe (by apply HeapA.box (xc4 (CvL.cons Cv.fz (xc4 (xc4 (xc4 (CvL.cons Cv.same (CvL.cons Cv.same CvL.nil)))))));exact xHb) ?_;refine jak [4,5] 3 rfl xSe (by apply HeapA.box (xc4 (CvL.cons Cv.same (CvL.cons Cv.fz (xc4 (xc4 (xc4 (CvL.cons Cv.same CvL.nil)))))));exact xHb) ?_;refine jak [4,5] 15 rfl xSe (by apply HeapA.box (xc4 (xc4 (xc4 (xc4 (CvL.cons Cv.same (CvL.cons Cv.same (CvL.cons Cv.fz CvL.nil)))))));exact xHb) ?_;refine xP ?_
 unfold propV;rw[qe (by rw[hck];decide),qf hv];rfl))
 ·(
 first
 | (exact xQ hc)
 |(
 have hv:¬(v.size<1\/v.size>200):=by have h1:=qd hg;have h2:=qd hc;omega
 refine xL λb6=>?_;refine xA (jaM m.bal) ?_;refine xC ?_ ?_<;>intro hc
 ·(
 have hz:zB m.bal=true:=hc;have hp9:propM m v={ m with prop:=v,bal:=⟨1,valM { m with prop:=v }⟩,seq:=1 }:=qf hz;refine xA (jfe { m with prop:=v } (by show m.heard.length<=100;omega)) ?_;iterate 8 refine zW ?_
 have hinv:=jds hS (show v.size<=200 by omega);rw[hp9] at hinv;refine xA (jdd m { m with prop:=v,bal:=⟨1,valM { m with prop:=v }⟩,seq:=1 } (hinv).inv (hinv).seq) ?_;refine xP ?_
 unfold propV;rw[qe (by rw[hck];decide),qe hv,hp9];rfl)
 ·(
 have hz:¬zB m.bal=true:=by rw[show zB m.bal=false from hc];decide
 have hp9:propM m v={ m with prop:=v }:=qe hz;iterate 3 refine zW ?_
 have hinv:=jds hS (show v.size<=200 by omega);rw[hp9] at hinv;refine xA (jdd m { m with prop:=v } (hinv).inv (hinv).seq) ?_;refine xP ?_
 unfold propV;rw[qe (by rw[hck];decide),qe hv,hp9];rfl)))))
theorem jlt(m:Mach)(hS:InvS m):C0 178 [mcv m] (.tup [mcv (tmoV m).1,.i (tmoV m).2]):=by
 refine xI Tryz.func178 Tryz.call178 λhcap=>?_;have hI:=hS.inv;have hsz1:=hI.sz;have hhl:=hI.hl;have hhs9:∀e∈m.heard,sizeT e.t<=1000000000:=λe he=>by have:=(hI.hs e he).1;omega
 have hbn:=hI.baln;have hbn0:=hI.bal.n0;have hsq:=hS.seq;have hmlen:(m.heard.map ev).length=m.heard.length:=by simp
 refine xX λb1=>?_;refine zAl λb2=>?_;refine xA (jc3 m zo hhs9) ?_;refine xC ?_ ?_<;>intro hc
 ·(
 have hck:checkM m=false:=jaw hc;iterate 7 refine zW ?_
 refine jak [2,3] 1 rfl xSe (by apply HeapA.box (xc4 (CvL.cons Cv.fz (xc4 (xc4 (xc4 (CvL.cons Cv.same (CvL.cons Cv.same CvL.nil)))))));exact xHb) ?_;refine jak [2,3] 3 rfl xSe (by apply HeapA.box (xc4 (CvL.cons Cv.same (CvL.cons Cv.fz (xc4 (xc4 (xc4 (CvL.cons Cv.same CvL.nil)))))));exact xHb) ?_;refine jak [2,3] 15 rfl xSe (by apply HeapA.box (xc4 (xc4 (xc4 (xc4 (CvL.cons Cv.same (CvL.cons Cv.same (CvL.cons Cv.fz CvL.nil)))))));exact xHb) ?_;refine xP ?_
 unfold tmoV;rw[qf hck];rfl)
 ·(
 have hck:checkM m=true:=jav hc;refine xA (jfe m zo) ?_;iterate 10 refine zW ?_
 iterate 3 all_goals first | refine zW ?_ | refine xG ?_ ?_<;>intro hg
 all_goals (
 refine xC ?_ ?_<;>intro hc
 ·(
 first
 | (exact xQ hc)
 |(
 have h18:m.phase=3\/valM m=noS:=by first | exact .inl (qc hg) | exact .inr (qc hc)
 iterate 7 refine zW ?_
 refine jak [2,3] 1 rfl xSe (by apply HeapA.box (xc4 (CvL.cons Cv.fz (xc4 (xc4 (xc4 (CvL.cons Cv.same (CvL.cons Cv.same CvL.nil)))))));exact xHb) ?_;refine jak [2,3] 3 rfl xSe (by apply HeapA.box (xc4 (CvL.cons Cv.same (CvL.cons Cv.fz (xc4 (xc4 (xc4 (CvL.cons Cv.same CvL.nil)))))));exact xHb) ?_;refine jak [2,3] 15 rfl xSe (by apply HeapA.box (xc4 (xc4 (xc4 (xc4 (CvL.cons Cv.same (CvL.cons Cv.same (CvL.cons Cv.fz CvL.nil)))))));exact xHb) ?_;refine xP ?_
 unfold tmoV;rw[qe (by rw[hck];decide),qf h18];rfl))
 ·(
 first
 | (exact xQ hc)
 |(
 have h18:¬(m.phase=3\/valM m=noS):=by rintro(h | h);exact qd hg h;exact qd hc h
 refine xC ?_ ?_<;>intro hc
 ·(
 have h23:m.bal.n>=1000:=qc hc;iterate 7 refine zW ?_
 refine jak [2,3] 1 rfl xSe (by apply HeapA.box (xc4 (CvL.cons Cv.fz (xc4 (xc4 (xc4 (CvL.cons Cv.same (CvL.cons Cv.same CvL.nil)))))));exact xHb) ?_;refine jak [2,3] 3 rfl xSe (by apply HeapA.box (xc4 (CvL.cons Cv.same (CvL.cons Cv.fz (xc4 (xc4 (xc4 (CvL.cons Cv.same CvL.nil)))))));exact xHb) ?_;refine jak [2,3] 15 rfl xSe (by apply HeapA.box (xc4 (xc4 (xc4 (xc4 (CvL.cons Cv.same (CvL.cons Cv.same (CvL.cons Cv.fz CvL.nil)))))));exact xHb) ?_;refine xP ?_
 unfold tmoV;rw[qe (by rw[hck];decide),qe h18,qf h23];rfl)
 ·(
 have h23:¬m.bal.n>=1000:=qd hc;refine xL λb5=>?_;refine xC ?_ ?_<;>intro hc
 ·(
 have hve:=jtz hc;have hp9:tmoM m={ m with bal:=⟨m.bal.n+1,valM m⟩,low:=0,seq:=max m.seq 1 }:=by unfold tmoM;rw[qe hve]
 iterate 23 refine zW ?_
 have hinv:=jf4 hS (show m.bal.n<1000 by omega);rw[hp9] at hinv;refine xA (jdd m { m with bal:=⟨m.bal.n+1,valM m⟩,low:=0,seq:=max m.seq 1 } (hinv).inv (hinv).seq) ?_;refine xP ?_
 unfold tmoV;rw[qe (by rw[hck];decide),qe h18,qe h23,hp9];rfl)
 ·(
 have hve:=jrr hc;have hp9:tmoM m={ m with bal:=⟨m.bal.n+1,valM m⟩,seq:=max m.seq 1 }:=by unfold tmoM;rw[qf hve]
 iterate 20 refine zW ?_
 have hinv:=jf4 hS (show m.bal.n<1000 by omega);rw[hp9] at hinv;refine xA (jdd m { m with bal:=⟨m.bal.n+1,valM m⟩,seq:=max m.seq 1 } (hinv).inv (hinv).seq) ?_;refine xP ?_
 unfold tmoV;rw[qe (by rw[hck];decide),qe h18,qe h23,hp9];rfl))))))
theorem jla(m:Mach)(hS:InvS m)(e:Evp)(hes:sizeT e.t<=100000):C0 174 [mcv m,ev e] (.tup [mcv (recV m e).1,.i (recV m e).2]):=by
 refine xI Tryz.func174 Tryz.call174 λhcap=>?_;have hI:=hS.inv;have hsz1:=hI.sz;have hhl:=hI.hl;have hhs9:∀e∈m.heard,sizeT e.t<=1000000000:=λe he=>by have:=(hI.hs e he).1;omega
 have hbn:=hI.baln;have hbn0:=hI.bal.n0;have hsq:=hS.seq;have hmlen:(m.heard.map ev).length=m.heard.length:=by simp
 refine xX λb2=>?_;refine zBx λb3=>?_;refine zAl λb4=>?_;refine xA (jc3 m zo hhs9) ?_;refine xC ?_ ?_<;>intro hc
 ·(
 have hck:checkM m=false:=jaw hc;iterate 7 refine zW ?_
 refine jak [4,5] 1 rfl xSe (by apply HeapA.box (xc4 (CvL.cons Cv.fz (xc4 (xc4 (xc4 (CvL.cons Cv.same (CvL.cons Cv.same CvL.nil)))))));exact xHb) ?_;refine jak [4,5] 3 rfl xSe (by apply HeapA.box (xc4 (CvL.cons Cv.same (CvL.cons Cv.fz (xc4 (xc4 (xc4 (CvL.cons Cv.same CvL.nil)))))));exact xHb) ?_;refine jak [4,5] 15 rfl xSe (by apply HeapA.box (xc4 (xc4 (xc4 (xc4 (CvL.cons Cv.same (CvL.cons Cv.same (CvL.cons Cv.fz CvL.nil)))))));exact xHb) ?_;refine xP ?_
 unfold recV;rw[qf hck];rfl)
 ·(
 have hck:checkM m=true:=jav hc;refine xA (jaA e zo) ?_;iterate 2 refine zW ?_
 iterate 13 all_goals first | refine zW ?_ | refine xG ?_ ?_<;>intro hg
 all_goals (
 refine xC ?_ ?_<;>intro hc
 ·(
 first
 | (exact xQ hc)
 |(
 have h29:(vE e=false\/e.node=m.node)\/¬e.slot=m.slot:=by first | (simp_all;done) | grind
 iterate 7 refine zW ?_
 refine jak [4,5] 1 rfl xSe (by apply HeapA.box (xc4 (CvL.cons Cv.fz (xc4 (xc4 (xc4 (CvL.cons Cv.same (CvL.cons Cv.same CvL.nil)))))));exact xHb) ?_;refine jak [4,5] 3 rfl xSe (by apply HeapA.box (xc4 (CvL.cons Cv.same (CvL.cons Cv.fz (xc4 (xc4 (xc4 (CvL.cons Cv.same CvL.nil)))))));exact xHb) ?_;refine jak [4,5] 15 rfl xSe (by apply HeapA.box (xc4 (xc4 (xc4 (xc4 (CvL.cons Cv.same (CvL.cons Cv.same (CvL.cons Cv.fz CvL.nil)))))));exact xHb) ?_;refine xP ?_
 unfold recV;rw[qe (by rw[hck];decide),qf h29];rfl))
 ·(
 first
 | (exact xQ hc)
 |(
 have h29:¬((vE e=false\/e.node=m.node)\/¬e.slot=m.slot):=by first | (simp_all;done) | grind
 refine xA (juq m.heard zo e zo) ?_;refine xC ?_ ?_<;>intro hc
 ·(
 have h39:(putV m.heard e).2=false:=jaw hc;iterate 7 refine zW ?_
 refine jak [4,5] 1 rfl xSe (by apply HeapA.box (xc4 (CvL.cons Cv.fz (xc4 (xc4 (xc4 (CvL.cons Cv.same (CvL.cons Cv.same CvL.nil)))))));exact xHb) ?_;refine jak [4,5] 3 rfl xSe (by apply HeapA.box (xc4 (CvL.cons Cv.same (CvL.cons Cv.fz (xc4 (xc4 (xc4 (CvL.cons Cv.same CvL.nil)))))));exact xHb) ?_;refine jak [4,5] 15 rfl xSe (by apply HeapA.box (xc4 (xc4 (xc4 (xc4 (CvL.cons Cv.same (CvL.cons Cv.same (CvL.cons Cv.fz CvL.nil)))))));exact xHb) ?_;refine xP ?_
 unfold recV;rw[qe (by rw[hck];decide),qe h29,qf h39];rfl)
 ·(
 have h39:(putV m.heard e).2=true:=jav hc;refine xL λb8=>?_;refine xA (jdd m { m with heard:=(putV m.heard e).1 } ((jga hS hck hes)).inv ((jga hS hck hes)).seq) ?_;refine xP ?_
 unfold recV;rw[qe (by rw[hck];decide),qe h29,qe (by rw[h39];decide)];rfl)))))
theorem jbU(m:Mach)(hs:sizeT m.t<=1000000000)(hh:∀e∈m.heard,sizeT e.t<=1000000000):C0 170 [mcv m] (.tup [.v (.string (dcdV m).1),.b (dcdV m).2]):=by
 refine xI Tryz.func170 Tryz.call170 λhcap=>?_;refine xX λb1=>?_;refine xA (jc3 m hs hh) ?_;iterate 2 refine zW ?_
 iterate 4 all_goals first | refine zW ?_ | refine xG ?_ ?_<;>intro hg
 all_goals (
 refine xC ?_ ?_<;>intro hc
 ·(
 first
 | (exact xQ hc)
 |(
 have h11:checkM m=false\/¬m.phase=3:=by first | exact .inl (jaw hg) | exact .inr (jaf hc)
 refine xP ?_
 unfold dcdV;rw[qf h11];rfl))
 ·(
 first
 | (exact xQ hc)
 |(
 have h11:¬(checkM m=false\/¬m.phase=3):=by have h1:=jav hg;have h2:=jac hc;rintro(h | h);rw[h1] at h;cases h;exact h h2
 refine xP ?_
 unfold dcdV;rw[qe h11];rfl)))
theorem jnQ(x:Str):C0 216 [.v (.string x)] (.b (valN x)):=by
 refine xI Tryz.func216 Tryz.call216 λhcap=>?_;iterate 11 refine zW ?_
 iterate 5 all_goals first | refine zW ?_ | refine xG ?_ ?_<;>intro hg
 all_goals (
 refine xP ?_;unfold valN
 rw[hg];rfl)
theorem jew(a b:Str):C0 217 [.v (.string a),.v (.string b)] (.i (cN a b)):=by
 refine xI Tryz.func217 Tryz.call217 λhcap=>?_;refine xC ?_ ?_<;>intro hc
 ·(
 have h5:a=b:=qc hc;refine xP ?_
 unfold cN;rw[qf h5];rfl)
 ·(
 have h5:¬a=b:=qd hc;iterate 8 refine zW ?_
 iterate 12 all_goals first | refine zW ?_ | refine xG ?_ ?_<;>intro hg
 all_goals (
 refine xC ?_ ?_<;>intro hc
 ·(
 first
 | (exact xQ hc)
 |(
 have h9:(decide ((a.size:Int)<(b.size:Int))||(decide ((a.size:Int)=(b.size:Int))&&Op.bytesLess a.toList b.toList))=true:=by first | (simp_all;done) | grind
 refine xP ?_
 unfold cN;rw[qe h5,qf h9];rfl))
 ·(
 first
 | (exact xQ hc)
 |(
 have h9:¬(decide ((a.size:Int)<(b.size:Int))||(decide ((a.size:Int)=(b.size:Int))&&Op.bytesLess a.toList b.toList))=true:=by first | (simp_all;done) | grind
 refine xP ?_
 unfold cN;rw[qe h5,qe h9];rfl))))
theorem jdV(l:List Str)(hlen:l.length<=100000)(x:Str):C0 209 [.sl 1 (l.map strv),.v (.string x)] (.b (hasN l x)):=by
 refine xI Tryz.func209 Tryz.call209 λhcap=>?_;have hml:(l.map strv).length=l.length:=by simp
 refine xN λ_=>?_;iterate 4 refine zW ?_
 refine jah [1,7,8] [] (λ(i:Nat) r=>(9,.i (i:Int))::r) (λi r=>r) (λi=>i<=l.length/\hasN (l.drop i) x=hasN l x) (λi=>l.length - i) (0) zRc ⟨by omega,rfl⟩ (zWk) ?_;intro i ⟨hi,hI⟩;refine xC ?_ ?_<;>intro hc
 ·(
 have hlt:=qc hc;obtain⟨y,hx,hd⟩:=jab (l:=l) (k:=i) zo;have hx':=jad strv hx;rw[hd,hasN,List.any_cons] at hI;refine xC ?_ ?_<;>intro hc
 ·(
 rw[show decide (x=y)=true from hc] at hI;refine xP ?_
 rw[<-hI];rfl)
 ·(
 rw[show decide (x=y)=false from hc,Bool.false_or] at hI;iterate 8 refine zW ?_
 refine⟨i+1,⟨by omega,hI⟩,by omega,zWk⟩))
 ·(
 have hge:=qd hc;rw[jae zo] at hI;refine xP ?_
 rw[<-hI];rfl)
theorem jcG(l:List Str)(hlen:l.length<=100000):C0 208 [.sl 1 (l.map strv)] (.b (plainN l)):=by
 refine xI Tryz.func208 Tryz.call208 λhcap=>?_;have hml:(l.map strv).length=l.length:=by simp
 refine xN λ_=>?_;iterate 4 refine zW ?_
 refine jah [0,5,6] [] (λ(k:Nat) r=>(7,.i (k:Int))::r) (λk r=>r) (λk=>k<=l.length/\plnGo (prevN l k) (l.drop k)=plnGo none l) (λk=>l.length - k) (0) zRc ⟨by omega,rfl⟩ (zWk) ?_;intro k ⟨hk,hI⟩;refine xC ?_ ?_<;>intro hc
 ·(
 have hlt:=qc hc;obtain⟨x,hx,hd⟩:=jab (l:=l) (k:=k) zo;have hx':=jad strv hx;obtain⟨y,hy⟩:=jvP x hk;have hq:=jyY (x:=x) hy;refine xA (jnQ x) ?_;iterate 2 refine zW ?_
 iterate 6 all_goals first | refine zW ?_ | refine xG ?_ ?_<;>intro hg
 all_goals first | (refine zY ?_;(refine zP (jap (k:=k - 1) rfl rfl rfl rfl zd (by have h9:decide ((k:Int)>0)=true:=(by first | with_reducible assumption | exact hg);have:=qc h9;omega) (jad strv (hy (by have h9:decide ((k:Int)>0)=true:=(by first | with_reducible assumption | exact hg);have:=qc h9;omega)))) ?_)) | refine zSk ?_
 iterate 2 all_goals refine zW ?_
 all_goals first | (refine zY ?_;refine jaa zRc (jew y x) rfl rfl ?_) | refine zSk ?_
 iterate 3 all_goals refine zW ?_
 all_goals (
 refine xC ?_ ?_<;>intro hc
 ·(
 first
 | (exact xQ hc)
 |(
 have hq0:(valN x&&okN (prevN l k) x)=false:=by rw[hq];first | (simp[*];done) | grind
 refine xP ?_;unfold plainN;rw[hd,jib,hq0,qy] at hI
 rw[<-hI];rfl))
 ·(
 first
 | (exact xQ hc)
 |(
 have hq0:(valN x&&okN (prevN l k) x)=true:=by rw[hq];first | (simp[*];done) | grind
 iterate 8 refine zW ?_
 rw[hd,jib,hq0,qx,<-jqi hx] at hI
 refine⟨k+1,⟨by omega,hI⟩,by omega,zWk⟩))))
 ·(
 have hge:=qd hc;rw[jae zo] at hI;refine xN λ_=>?_;refine xP ?_;unfold plainN
 rw[<-hI,hml];simp[plnGo,resD];omega)
theorem jeL(a b:List Str)(hla:a.length<=100000)(hlb:b.length<=100000):C0 239 [.sl 1 (a.map strv),.sl 1 (b.map strv)] (.b (sameN a b)):=by
 refine xI Tryz.func239 Tryz.call239 λhcap=>?_;have hml:(a.map strv).length=a.length:=by simp
 have hml2:(b.map strv).length=b.length:=by simp
 refine xN λ_=>?_;refine xN λ_=>?_;refine xC ?_ ?_<;>intro hc
 ·(
 have hne:¬a.length=b.length:=by have:=jaf hc;omega
 refine xP ?_
 rw[show sameN a b=false from qz (λh=>hne (by rw[h]))];rfl)
 ·(
 have hne:a.length=b.length:=by have:=jac hc;omega
 refine xN λ_=>?_;iterate 4 refine zW ?_
 refine jah [0,1,12] [] (λ(i:Nat) r=>(13,.i (i:Int))::r) (λi r=>r) (λi=>i<=a.length/\decide (a.drop i=b.drop i)=sameN a b) (λi=>a.length - i) (0) zRc ⟨by omega,rfl⟩ (zWk) ?_;intro i ⟨hi,hI⟩;refine xC ?_ ?_<;>intro hc
 ·(
 have hlt:=qc hc;obtain⟨x,hx,hd⟩:=jab (l:=a) (k:=i) zo;have hx':=jad strv hx;obtain⟨y,hy,hd2⟩:=jab (l:=b) (k:=i) zo;have hy':=jad strv hy;iterate 11 refine zW ?_
 refine zDr [] ?_;refine zT 0 ?_;refine zT 1 ?_;refine jam 2 rfl zGd zKr zKr zKr (AP.ar (jap (k:=i) rfl rfl rfl rfl zd rfl hx')) rfl rfl ?_;refine zT 3 ?_;refine zT 4 ?_;refine zT 5 ?_;refine jam 6 rfl zGd zKr zKr zKr (AP.ar (jap (k:=i) rfl rfl rfl rfl zd rfl hy')) rfl rfl ?_;refine zT 7 ?_;refine zT 8 ?_;refine zW ?_
 all_goals (
 refine xC ?_ ?_<;>intro hc
 ·(
 have hxy:=jtz hc;rw[hd,hd2,show decide (x::a.drop (i+1)=y::b.drop (i+1))=false from qz (λh=>hxy (List.cons.inj h).1)] at hI;refine xP ?_
 rw[<-hI];rfl)
 ·(
 have hxy:=jrr hc;rw[hd,hd2,hxy,show decide (y::a.drop (i+1)=y::b.drop (i+1))=decide (a.drop (i+1)=b.drop (i+1)) from by simp] at hI;iterate 8 refine zW ?_
 refine⟨i+1,⟨by omega,hI⟩,by omega,zWk⟩)))
 ·(
 have hge:=qd hc;rw[jae zo,jae zo] at hI;refine xP ?_
 rw[<-hI];rfl))
theorem jrZ(l:List Str)(hlen:l.length<=100000):C0 186 [.sl 1 (l.map strv)] (.tup [.v (.string (compN l).1),.b (compN l).2]):=by
 refine xI Tryz.func186 Tryz.call186 λhcap=>?_;have hml:(l.map strv).length=l.length:=by simp
 refine xN λ_=>?_;iterate 4 refine zW ?_
 refine jax [8,9] [] (λ(i:Nat)(bs:Str)(g:Bool) r=>(4,.v (.string bs))::(5,.b g)::(10,.i (i:Int))::r) (λi bs g r=>r) (λi bs g=>i<=l.length/\compGo (l.drop i) (bs,g)=compN l) (λi bs g=>l.length - i) (0) (noS) (false) zRc ⟨by omega,rfl⟩ (zWk) ?_;intro i bs g ⟨hi,hI⟩;refine xC ?_ ?_<;>intro hc
 ·(
 have hlt:=qc hc;obtain⟨x,hx,hd⟩:=jab (l:=l) (k:=i) zo;have hx':=jad strv hx;refine xA (jnQ x) ?_;refine zW ?_
 iterate 5 all_goals first | refine zW ?_ | refine xG ?_ ?_<;>intro hg
 all_goals first | (refine zY ?_;refine jaa zRc (jew x bs) rfl rfl ?_) | refine zSk ?_
 iterate 3 all_goals refine zW ?_
 all_goals (
 refine xC ?_ ?_<;>intro hc
 ·(
 first
 | (exact xQ hc)
 |(
 have h25:(valN x&&(!g||decide (cN x bs>0)))=true:=by first | (simp_all;done) | grind
 have mk25t:True:=trivial;iterate 12 refine zW ?_
 rw[hd] at hI;simp only[compGo] at hI
 rw[qf h25] at hI;refine⟨i+1,x,true,⟨by omega,hI⟩,by omega,zWk⟩))
 ·(
 first
 | (exact xQ hc)
 |(
 have h25:¬(valN x&&(!g||decide (cN x bs>0)))=true:=by first | (simp_all;done) | grind
 have mk25f:True:=trivial;iterate 8 refine zW ?_
 rw[hd] at hI;simp only[compGo] at hI
 first
 | (have:=mk25f;rw[qe h25] at hI;refine⟨i+1,bs,g,⟨by omega,hI⟩,by omega,zWk⟩)))))
 ·(
 have hge:=qd hc;rw[jae zo] at hI;refine xP ?_
 rw[<-hI];rfl)
theorem jhB(q:List Str)(x:Str):List.map strv q++[D.v (.string x)]=(q++[x]).map strv:=by rw[List.map_append];rfl
theorem jbv(q:List Str)(x:Str):List.map strv q++[strv x]=(q++[x]).map strv:=by rw[List.map_append];rfl
theorem jdH(l:List Str)(hlen:l.length<=100000)(x:Str):C0 235 [.sl 1 (l.map strv),.v (.string x)] (.sl 1 ((putN l x).map strv)):=by
 refine xI Tryz.func235 Tryz.call235 λhcap=>?_;have hml:(l.map strv).length=l.length:=by simp
 refine xA (jdV l hlen x) ?_;refine zW ?_
 all_goals refine xG ?_ ?_<;>intro hg
 all_goals first | (refine zY ?_;(first | refine zLn λ_=>?_ | refine zW ?_)) | refine zSk ?_
 iterate 2 all_goals refine zW ?_
 all_goals (
 refine xC ?_ ?_<;>intro hc
 ·(
 first
 | (exact xQ hc)
 |(
 have h16:(hasN l x||decide (40<=l.length))=true:=by first | (rw[show hasN l x=true by with_reducible assumption];rfl) | (rw[show decide (40<=l.length)=true from qg (by have:=qc hc;omega)];exact Bool.or_true _)
 refine xP ?_
 unfold putN;rw[qf h16];rfl))
 ·(
 first
 | (exact xQ hc)
 |(
 have h16:¬(hasN l x||decide (40<=l.length))=true:=by rw[show hasN l x=false by with_reducible assumption,show decide (40<=l.length)=false from qz (by have:=qd hc;omega)];decide
 refine xN λ_=>?_;iterate 4 refine zW ?_
 refine jbq [1,18,19] [] (λ(i:Nat)(v:Value)(q:List Str)(g:Bool) r=>(5,.v v)::(6,.b g)::(20,.i (i:Int))::r) (λi v q g r=>.arr v 9 1 (q.map strv)::r) (λi v q g=>i<=l.length/\q.length<=2 * i/\putsGo x (l.drop i) g q=putsGo x l false []) (λi v q g=>l.length - i) (0) (.slice none 0 0) ([]) (false) zRc ⟨by omega,by simp,rfl⟩ ((jaF 9 1 rfl).trans (zWk)) ?_;intro i v q g ⟨hi,hql,hI⟩;have hqm:(q.map strv).length=q.length:=by simp
 refine xC ?_ ?_<;>intro hc
 ·(
 have hlt:=qc hc;obtain⟨y,hx,hd⟩:=jab (l:=l) (k:=i) zo;have hx':=jad strv hx;iterate 17 refine zW ?_
 iterate 2 all_goals first | refine zW ?_ | refine xG ?_ ?_<;>intro hg
 all_goals first | (refine zY ?_;refine jaa zRc (jew x y) rfl rfl ?_) | refine zSk ?_
 iterate 2 all_goals refine zW ?_
 all_goals (
 refine xC ?_ ?_<;>intro hc
 ·(
 first
 | (exact xQ hc)
 |(
 have h31:(!g&&decide (cN x y<0))=true:=by first | (simp_all;done) | grind
 have mk31t:True:=trivial;iterate 3 refine zW ?_
 refine xLt 9 1 16 ?_;refine xEa 9 1 16 (hb:=xLb) λv35 hv35=>?_;iterate 7 refine zW ?_
 refine xLt 9 1 16 ?_;refine xEa 9 1 16 (hb:=xLb) λv39 hv39=>?_;iterate 9 refine zW ?_
 rw[hd] at hI;simp only[putsGo] at hI
 rw[qf h31] at hI;rw[jhB,jbv];refine⟨i+1,_,(q++[x])++[y],true,⟨by omega,by simp;omega,hI⟩,by omega,zWk⟩))
 ·(
 first
 | (exact xQ hc)
 |(
 have h31:¬(!g&&decide (cN x y<0))=true:=by first | (simp_all;done) | grind
 have mk31f:True:=trivial;iterate 5 refine zW ?_
 refine xLt 9 1 16 ?_;refine xEa 9 1 16 (hb:=xLb) λv39 hv39=>?_;iterate 9 refine zW ?_
 rw[hd] at hI;simp only[putsGo] at hI
 first
 | (have:=mk31f;rw[qe h31] at hI;rw[jbv];refine⟨i+1,_,q++[y],g,⟨by omega,by simp;omega,hI⟩,by omega,zWk⟩)))))
 ·(
 have hge:=qd hc;rw[jae zo,putsGo] at hI;refine xC ?_ ?_<;>intro hc
 ·(
 have hg0:g=false:=jaw hc;have mk42t:True:=trivial;iterate 3 refine zW ?_
 refine xLt 9 1 16 ?_;refine xEa 9 1 16 (hb:=xLb) λv46 hv46=>?_;iterate 9 refine zW ?_
 rw[jhB];refine zFz v46 [4] ?_;refine xP ?_
 unfold putN;rw[qe h16,<-hI];first | (have:=mk42t;rw[qe (by rw[hg0];decide)];rfl) | (have:=mk42f;rw[qf hg0];rfl))
 ·(
 have hg0:g=true:=jav hc;have mk42f:True:=trivial;iterate 8 refine zW ?_
 refine zFz v [4] ?_;refine xP ?_
 unfold putN;rw[qe h16,<-hI];first | (have:=mk42t;rw[qe (by rw[hg0];decide)];rfl) | (have:=mk42f;rw[qf hg0];rfl))))))
end Go.Proofs.YtgmpjpaekpefdaaGreat
