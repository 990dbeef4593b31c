import Derived.Test.YtgmpjpaekpefdaaGreatAnalyserSplitsW5
set_option linter.unusedVariables false
set_option linter.unusedSimpArgs false
set_option maxRecDepth 4000
set_option maxHeartbeats 8000000
namespace Go.Proofs.YtgmpjpaekpefdaaGreat
open Go Go.Av Go.Tq
variable{k:Nat}{n c:Nmr}{m:Nmn}{l:List Nmn}{s:Slt}
theorem jdX(a b:List Str)(hla:a.length<=100000)(hlb:b.length<=100000):C0 255 [.sl 1 (a.map strv),.sl 1 (b.map strv)] (.sl 1 ((unionN a b).map strv)):=by
 refine xI Tryz.func255 Tryz.call255 λhcap=>?_;have hml:(a.map strv).length=a.length:=by simp
 have hml2:(b.map strv).length=b.length:=by simp
 iterate 18 refine zW ?_
 refine jbq [0,1] [] (λ(i:Nat)(k:Nat)(v:Value)(q:List Str) r=>(5,.v v)::(6,.i (i:Int))::(7,.i (k:Int))::r) (λi k v q r=>.arr v 9 1 (q.map strv)::r) (λi k v q=>(i<=a.length/\k<=b.length)/\q.length<=i+k/\∃n,(a.length - i)+(b.length - k)<=n/\unionGo n (a.drop i) (b.drop k) q=unionN a b) (λi k v q=>(a.length - i)+(b.length - k)) (0) (0) (.slice none 0 0) ([]) zRc ⟨by omega,by simp,_,Nat.le_refl _,rfl⟩ ((jaF 9 1 rfl).trans (zWk)) ?_;intro i k v q ⟨⟨hi,hk⟩,hql,n,hn,hI⟩;have hqm:(q.map strv).length=q.length:=by simp
 obtain⟨x,hx⟩:=jgB a i noS;obtain⟨y,hy⟩:=jgB b k noS;refine xN λ_=>?_;iterate 2 refine zW ?_
 iterate 2 all_goals first | refine zW ?_ | refine xG ?_ ?_<;>intro hg
 all_goals first | (refine zY ?_;(first | refine zLn λ_=>?_ | refine zW ?_)) | refine zSk ?_
 iterate 2 all_goals refine zW ?_
 all_goals (
 refine xC ?_ ?_<;>intro hc
 ·(
 first
 | (exact xQ hc)
 |(
 have h18:i<a.length\/k<b.length:=by first | exact .inl (by have h9:decide ((i:Int)<((a.map strv).length:Int))=true:=(by first | with_reducible assumption | exact hg | exact hc);have:=qc h9;omega) | exact .inr (by have h9:decide ((k:Int)<((b.map strv).length:Int))=true:=(by first | with_reducible assumption | exact hg | exact hc);have:=qc h9;omega)
 iterate 11 refine zW ?_
 refine zDr [] ?_;refine zT 0 ?_;refine zT 1 ?_;refine zT 2 ?_;refine zT 3 ?_;refine zT 4 ?_;refine jai 4 rfl (λhg=>?_) λhg=>?_
 rotate_left
 case' _ =>(
 refine zT 5 ?_;refine zT 6 ?_;refine zT 7 ?_;refine zT 8 ?_;refine zT 9 ?_;refine jai 9 rfl (λhg=>?_) λhg=>?_
 rotate_left
 case' _ =>(
 refine zK 10 ?_;refine zK 11 ?_;refine zK 12 ?_;refine zK 13 ?_;refine zK 14 ?_;refine zK 15 ?_;refine zK 16 ?_;refine zK 17 ?_;refine zK 18 ?_;refine zK 19 ?_;refine zT 20 ?_;refine zT 21 ?_;refine zT 22 ?_
 refine zW ?_)
 rotate_right
 case' _ =>(
 refine zT 10 ?_;refine zT 11 ?_;refine jam 12 rfl zGd zKr zKr zKr (AP.ar (jap (k:=i) rfl rfl rfl rfl zd rfl (jad strv (hx (by have h9:decide ((i:Int)<((a.map strv).length:Int))=true:=(by first | with_reducible assumption | exact hg | exact hc);have:=qc h9;omega))))) rfl rfl ?_;refine zT 13 ?_;refine zT 14 ?_;refine zT 15 ?_;refine jam 16 rfl zGd zKr zKr zKr (AP.ar (jap (k:=k) rfl rfl rfl rfl zd rfl (jad strv (hy (by have h9:decide ((k:Int)=((b.map strv).length:Int))=false:=(by first | with_reducible assumption | exact hg | exact hc);have:=qd h9;omega))))) rfl rfl ?_;refine zT 17 ?_;refine zOn 18 ?_;refine xA (jew x y) ?_;refine zW ?_;refine zT 19 ?_;refine zT 20 ?_;refine zT 21 ?_;refine zT 22 ?_
 refine zW ?_))
 rotate_right
 case' _ =>(
 refine zK 5 ?_;refine zK 6 ?_;refine zK 7 ?_;refine zK 8 ?_;refine zKu 9 ?_;refine zK 10 ?_;refine zK 11 ?_;refine zK 12 ?_;refine zK 13 ?_;refine zK 14 ?_;refine zK 15 ?_;refine zK 16 ?_;refine zK 17 ?_;refine zK 18 ?_;refine zK 19 ?_;refine zK 20 ?_;refine zT 21 ?_;refine zT 22 ?_
 refine zW ?_)
 all_goals (
 refine xC ?_ ?_<;>intro hc
 ·(
 first
 | (exact xQ hc)
 |(
 have h27:k=b.length\/∃y,b[k]?=some y/\cN x y<0:=by first | (refine .inl ?_;have h9:decide ((k:Int)=((b.map strv).length:Int))=true:=(by first | with_reducible assumption | exact hg | exact hc);have:=qc h9;omega) | (refine .inr ⟨y,hy (by have h9:decide ((k:Int)=((b.map strv).length:Int))=false:=(by first | with_reducible assumption | exact hg | exact hc);have:=qd h9;omega),qc (by first | with_reducible assumption | exact hc)⟩)
 have hia:i<a.length:=by first | exact(by have h9:decide ((i:Int)<((a.map strv).length:Int))=true:=(by first | with_reducible assumption | exact hg | exact hc);have:=qc h9;omega) | (have h9:decide ((k:Int)=((b.map strv).length:Int))=true:=(by first | with_reducible assumption | exact hg | exact hc);have:=qc h9;omega)
 have mk27t:True:=trivial;iterate 4 refine zW ?_
 refine zP (jap (k:=i) rfl rfl rfl rfl zd rfl (jad strv (hx hia))) ?_;iterate 14 refine zW ?_
 refine xLt 9 1 16 ?_;refine xEa 9 1 16 (hb:=xLb) λv82 hv82=>?_;iterate 4 refine zW ?_
 obtain⟨n',rfl⟩:∃n',n=n'+1:=⟨n - 1,by omega⟩
 rw[jg0 (hx hia) h27] at hI;rw[jbv];refine⟨i+1,k,_,q++[x],⟨by omega,by simp;omega,n',by omega,hI⟩,by omega,zWk⟩))
 ·(
 first
 | (exact xQ hc)
 |(
 have hkb:k<b.length:=(by have h9:decide ((k:Int)=((b.map strv).length:Int))=false:=(by first | with_reducible assumption | exact hg | exact hc);have:=qd h9;omega)
 have h27w:i<a.length->¬cN x y<0:=by intro hlt;first | exact qd (by first | with_reducible assumption | exact hc) | (have h9:decide ((i:Int)<((a.map strv).length:Int))=false:=(by first | with_reducible assumption | exact hg | exact hc);have:=qd h9;omega)
 refine zW ?_;refine zDr [] ?_;refine zT 0 ?_;refine zT 1 ?_;refine zT 2 ?_;refine zT 3 ?_;refine zT 4 ?_;refine jai 4 rfl (λhg=>?_) λhg=>?_
 rotate_left
 case' _ =>(
 refine zT 5 ?_;refine zT 6 ?_;refine jam 7 rfl zGd zKr zKr zKr (AP.ar (jap (k:=i) rfl rfl rfl rfl zd rfl (jad strv (hx (by have h9:decide ((i:Int)=((a.map strv).length:Int))=false:=(by first | with_reducible assumption | exact hg | exact hc);have:=qd h9;omega))))) rfl rfl ?_;refine zT 8 ?_;refine zT 9 ?_;refine zT 10 ?_;refine jam 11 rfl zGd zKr zKr zKr (AP.ar (jap (k:=k) rfl rfl rfl rfl zd rfl (jad strv (hy hkb)))) rfl rfl ?_;refine zT 12 ?_;refine zOn 13 ?_;refine xA (jew x y) ?_;refine zW ?_;refine zT 14 ?_;refine zT 15 ?_;refine zT 16 ?_
 refine zW ?_)
 rotate_right
 case' _ =>(
 refine zK 5 ?_;refine zK 6 ?_;refine zK 7 ?_;refine zK 8 ?_;refine zK 9 ?_;refine zK 10 ?_;refine zK 11 ?_;refine zK 12 ?_;refine zK 13 ?_;refine zK 14 ?_;refine zT 15 ?_;refine zT 16 ?_
 refine zW ?_)
 all_goals (
 refine xC ?_ ?_<;>intro hc
 ·(
 first
 | (exact xQ hc)
 |(
 have h56:i=a.length\/∃x,a[i]?=some x/\cN x y>0:=by first | (refine .inl ?_;have h9:decide ((i:Int)=((a.map strv).length:Int))=true:=(by first | with_reducible assumption | exact hg | exact hc);have:=qc h9;omega) | (refine .inr ⟨x,hx (by have h9:decide ((i:Int)=((a.map strv).length:Int))=false:=(by first | with_reducible assumption | exact hg | exact hc);have:=qd h9;omega),qc (by first | with_reducible assumption | exact hc)⟩)
 have mk56t:True:=trivial;iterate 4 refine zW ?_
 refine zP (jap (k:=k) rfl rfl rfl rfl zd rfl (jad strv (hy hkb))) ?_;iterate 14 refine zW ?_
 refine xLt 9 1 16 ?_;refine xEa 9 1 16 (hb:=xLb) λv82 hv82=>?_;iterate 4 refine zW ?_
 obtain⟨n',rfl⟩:∃n',n=n'+1:=⟨n - 1,by omega⟩
 first
 | (have:=mk56t;rw[jkZ (hy hkb) h56] at hI;rw[jbv];refine⟨i,k+1,_,q++[y],⟨by omega,by simp;omega,n',by omega,hI⟩,by omega,zWk⟩)))
 ·(
 first
 | (exact xQ hc)
 |(
 have hia:i<a.length:=(by have h9:decide ((i:Int)=((a.map strv).length:Int))=false:=(by first | with_reducible assumption | exact hg | exact hc);have:=qd h9;omega)
 have h56:¬cN x y>0:=qd (by first | with_reducible assumption | exact hc);have h27:=h27w hia;have mk56f:True:=trivial;iterate 4 refine zW ?_
 refine zP (jap (k:=i) rfl rfl rfl rfl zd rfl (jad strv (hx hia))) ?_;iterate 21 refine zW ?_
 refine xLt 9 1 16 ?_;refine xEa 9 1 16 (hb:=xLb) λv82 hv82=>?_;iterate 4 refine zW ?_
 obtain⟨n',rfl⟩:∃n',n=n'+1:=⟨n - 1,by omega⟩
 first
 | (have:=mk56f;rw[jqN (hx hia) (hy hkb) h27 h56] at hI;rw[jbv];refine⟨i+1,k+1,_,q++[x],⟨by omega,by simp;omega,n',by omega,hI⟩,by omega,zWk⟩)))))))))
 ·(
 first
 | (exact xQ hc)
 |(
 have hie:i=a.length:=by have h9:decide ((i:Int)<((a.map strv).length:Int))=false:=(by first | with_reducible assumption | exact hg | exact hc);have:=qd h9;omega
 have hke:k=b.length:=by have h9:decide ((k:Int)<((b.map strv).length:Int))=false:=(by first | with_reducible assumption | exact hg | exact hc);have:=qd h9;omega
 rw[hie,hke,List.drop_length,List.drop_length,jmd] at hI;iterate 11 refine zW ?_
 refine zFz v [4] ?_;refine xP ?_
 rw[<-hI];rfl)))
def nmv(m:Nmn):D:=.agg [.i m.node,.i m.seq,.i m.t.th,.sl 1 (m.t.nodes.map .i),.sl 3 (avs m.t.inner),.sl 1 (m.votes.map strv),.sl 1 (m.accs.map strv)]
def nrv(n:Nmr):D:=.agg [.i n.node,.i n.slot,.i n.round,.i n.seq,.i n.t.th,.sl 1 (n.t.nodes.map .i),.sl 3 (avs n.t.inner),.v (.string n.own),.sl 1 (n.votes.map strv),.sl 1 (n.accs.map strv),.sl 1 (n.confs.map strv),.sl 7 (n.heard.map nmv)]
theorem jn2(n:Nmr):C0 179 [nrv n] (nmv (sayN n)):=by
 refine xI Tryz.func179 Tryz.call179 λhcap=>?_;refine xX λb1=>?_;refine zAl λb2=>?_;refine xP ?_;exact rfl
theorem jhf(m:Nmn)(hs:sizeT m.t<=1000000000)(hv:m.votes.length<=100000)(ha:m.accs.length<=100000):C0 210 [nmv m] (.b (plainNm m)):=by
 refine xI Tryz.func210 Tryz.call210 λhcap=>?_;refine xX λb1=>?_;iterate 9 refine zW ?_
 iterate 12 all_goals first | refine zW ?_ | refine xG ?_ ?_<;>intro hg
 all_goals first | (refine zY ?_;refine jaa zRc (jaI m.t hs) rfl rfl ?_) | refine zSk ?_
 iterate 5 all_goals first | refine zW ?_ | refine xG ?_ ?_<;>intro hg
 all_goals first | (refine zY ?_;refine jaa zRc (jcG m.votes hv) rfl rfl ?_) | refine zSk ?_
 iterate 4 all_goals first | refine zW ?_ | refine xG ?_ ?_<;>intro hg
 all_goals first | (refine zY ?_;refine jaa zRc (jcG m.accs ha) rfl rfl ?_) | refine zSk ?_
 iterate 2 all_goals refine zW ?_
 all_goals (
 refine xP ?_;unfold plainNm
 simp only[*,qx,qy,Bool.and_true,qB];rfl)
theorem jh2(n:Nmr)(hB:NB n):C0 233 [nrv n] (.sl 1 ((knownN n).map strv)):=by
 refine xI Tryz.func233 Tryz.call233 λhcap=>?_;have hml:(n.heard.map nmv).length=n.heard.length:=by simp
 have hbv:=hB.v;have hba:=hB.a;have hbl:=hB.hl;have hu0:=jdO n.votes n.accs;refine xX λb1=>?_;refine xA (jdX n.votes n.accs zo zo) ?_;refine xN λ_=>?_;iterate 4 refine zW ?_
 refine jag [12,13] [.box b1 _ _] (λ(k:Nat)(q:List Str) r=>(3,.sl 1 (q.map strv))::(14,.i (k:Int))::r) (λk q r=>r) (λk q=>k<=n.heard.length/\q.length<=2000+2000 * k/\(n.heard.drop k).foldl knownF q=knownN n) (λk q=>n.heard.length - k) (0) (unionN n.votes n.accs) zRc ⟨by omega,by omega,rfl⟩ (zWk) ?_;intro k q ⟨hk,hql,hI⟩;refine xC ?_ ?_<;>intro hc
 ·(
 have hlt:=qc hc;obtain⟨m,hx,hd⟩:=jab (l:=n.heard) (k:=k) zo;have hx':=jad nmv hx;have hmb:=hB.hs m (qk hx);refine xL λb5=>?_;refine xA (jdX m.votes m.accs zo zo) ?_;refine xA (jdX q (unionN m.votes m.accs) zo (by have:=jdO m.votes m.accs;omega)) ?_;iterate 9 refine zW ?_
 rw[hd,List.foldl_cons] at hI;have hkl:(unionN q (unionN m.votes m.accs)).length<=2000+2000 * (k+1):=Nat.le_trans (jqe (q:=q) hmb.2.1 hmb.2.2) (by clear hu0;omega)
 refine⟨k+1,unionN q (unionN m.votes m.accs),⟨by clear hkl;omega,hkl,hI⟩,by clear hkl;omega,zWk⟩)
 ·(
 have hge:=qd hc;rw[jae zo] at hI;refine xP ?_
 rw[<-hI];rfl)
theorem jd8(q:List Nmn)(x:Nmn):List.map nmv q++[nmv x]=(q++[x]).map nmv:=by rw[List.map_append];rfl
theorem jfj(n:Nmr)(hB:NB n)(x:Str):C0 236 [nrv n,.v (.string x)] (.tup [.i (sideN Nmn.votes n x:Nat),.i (sideN Nmn.accs n x:Nat)]):=by
 refine xI Tryz.func236 Tryz.call236 λhcap=>?_;have hml:(n.heard.map nmv).length=n.heard.length:=by simp
 have hbv:=hB.v;have hba:=hB.a;have hbl:=hB.hl;have hnd:=hB.nd;refine xX λb2=>?_;iterate 12 refine zW ?_
 refine zDr [] ?_;refine zT 1 ?_;refine zT 2 ?_;refine zT 4 ?_;refine zT 9 ?_;refine zOn 0 ?_;refine jf8 (e:=51) (sz:=7) (by_:=120) rfl rfl zRc rfl rfl rfl rfl (λv10 hv10=>?_);refine zW ?_;refine zOn 3 ?_;refine xEa 51 7 120 (hb:=xLb) λv13 hv13=>?_;refine zW ?_;refine zOn 5 ?_;refine xA (jn2 n) ?_;refine zW ?_;refine zOn 6 ?_;refine xLt 51 7 120 ?_;refine zW ?_;refine zOn 7 ?_;refine xEa 51 7 120 (hb:=xLb) λv17 hv17=>?_;refine zW ?_;refine zT 8 ?_;refine zW ?_
 all_goals (
 iterate 2 refine zW ?_
 rw[List.nil_append,jd8];refine zFz v17 [1,6,7,17,18,19] ?_;obtain⟨l,hl⟩:∃l,l=n.heard++[sayN n]:=⟨_,rfl⟩
 rw[<-hl];have hml2:(l.map nmv).length=l.length:=by simp
 have hll:l.length<=21:=by rw[hl];simp;omega
 have hlb:∀m∈l,(m.votes.length<=1000/\m.accs.length<=1000)/\0<=m.node/\m.node<10:=by rw[hl];intro m hm;rcases zk hm with h | h;exact⟨(hB.hs m h).2,hB.hn m h⟩;rw[zl h];exact⟨⟨hbv,hba⟩,hnd⟩
 refine jax [1,17,18] [] (λ(k:Nat)(s1:Nat)(s2:Nat) r=>(6,.i (s1:Int))::(7,.i (s2:Int))::(19,.i (k:Int))::r) (λk s1 s2 r=>r) (λk s1 s2=>k<=l.length/\(s1<1024/\s2<1024)/\(l.drop k).foldl (sideS Nmn.votes x) s1=l.foldl (sideS Nmn.votes x) 0/\(l.drop k).foldl (sideS Nmn.accs x) s2=l.foldl (sideS Nmn.accs x) 0) (λk s1 s2=>l.length - k) (0) (0) (0) zRc ⟨by omega,by omega,rfl,rfl⟩ (zWk) ?_;intro k s1 s2 ⟨hk,⟨hs1,hs2⟩,hI,hJ⟩;refine xC ?_ ?_<;>intro hc
 ·(
 have hlt:=qc hc;obtain⟨m,hx,hd⟩:=jab (l:=l) (k:=k) zo;have hx':=jad nmv hx;have hmb:=hlb m (qk hx);obtain⟨w,hw,hw10⟩:∃w:Nat,m.node=(w:Int)/\w<10:=⟨m.node.toNat,by omega,by omega⟩
 have hpn:=jaL hw10;refine xL λb9=>?_;iterate 5 refine zW ?_
 rw[hw];refine xA (jdV m.votes zo x) ?_;refine xC ?_ ?_<;>intro hc
 ·(
 have h26:hasN m.votes x=true:=hc;iterate 4 refine zW ?_
 refine zP (jaZ (p:=1) rfl rfl rfl zo zo) ?_;refine xA (jdV m.accs zo x) ?_;refine xC ?_ ?_<;>intro hc
 ·(
 have h35:hasN m.accs x=true:=hc;iterate 4 refine zW ?_
 refine zP (jaZ (p:=1) rfl rfl rfl zo zo) ?_;iterate 10 refine zW ?_
 rw[hd,List.foldl_cons] at hI hJ
 rw[jjl hw h26] at hI;rw[jjl hw h35] at hJ;refine⟨k+1,s1|||1 * 2^w,s2|||1 * 2^w,⟨by omega,⟨jcw hs1 hw10,jcw hs2 hw10⟩,hI,hJ⟩,by omega,zWk⟩)
 ·(
 have h35:hasN m.accs x=false:=hc;iterate 8 refine zW ?_
 rw[hd,List.foldl_cons] at hI hJ
 rw[jjl hw h26] at hI;rw[jjM h35] at hJ;refine⟨k+1,s1|||1 * 2^w,s2,⟨by omega,⟨jcw hs1 hw10,hs2⟩,hI,hJ⟩,by omega,zWk⟩))
 ·(
 have h26:hasN m.votes x=false:=hc;refine xA (jdV m.accs zo x) ?_;refine xC ?_ ?_<;>intro hc
 ·(
 have h35:hasN m.accs x=true:=hc;iterate 4 refine zW ?_
 refine zP (jaZ (p:=1) rfl rfl rfl zo zo) ?_;iterate 10 refine zW ?_
 rw[hd,List.foldl_cons] at hI hJ
 rw[jjM h26] at hI;rw[jjl hw h35] at hJ;refine⟨k+1,s1,s2|||1 * 2^w,⟨by omega,⟨hs1,jcw hs2 hw10⟩,hI,hJ⟩,by omega,zWk⟩)
 ·(
 have h35:hasN m.accs x=false:=hc;iterate 8 refine zW ?_
 rw[hd,List.foldl_cons] at hI hJ
 rw[jjM h26] at hI;rw[jjM h35] at hJ;refine⟨k+1,s1,s2,⟨by omega,⟨hs1,hs2⟩,hI,hJ⟩,by omega,zWk⟩)))
 ·(
 have hge:=qd hc;rw[jae zo] at hI hJ;refine xP ?_
 unfold sideN;rw[<-hl,<-hI,<-hJ];rfl))
def mgv(m:Nmn):D:=.agg [.i m.node,.i m.seq,.i m.t.th,.sl 1 (m.t.nodes.map .i),.sl 3 (avs m.t.inner),.sl 2 [],.sl 2 []]
theorem jgO(u:Unit):C0 286 [.sl 2 []] (.b true):=by
 refine xI Tryz.func286 Tryz.call286 λhcap=>?_;refine xN λ_=>?_;iterate 4 refine zW ?_
 refine jah [0,5,6] [] (λ(k:Nat) r=>(7,.i (k:Int))::r) (λk r=>r) (λk=>k=0) (λk=>0) (0) zRc rfl (zWk) ?_;intro k hk;subst hk;refine xC ?_ ?_<;>intro hc
 ·exact xQ hc
 ·(
 skip;refine xP ?_
 rfl)
theorem jo0(m:Nmn)(hs:sizeT m.t<=1000000000):C0 272 [mgv m] (.b (plainMg m)):=by
 refine xI Tryz.func272 Tryz.call272 λhcap=>?_;refine xX λb1=>?_;iterate 9 refine zW ?_
 iterate 12 all_goals first | refine zW ?_ | refine xG ?_ ?_<;>intro hg
 all_goals first | (refine zY ?_;refine jaa zRc (jaI m.t hs) rfl rfl ?_) | refine zSk ?_
 iterate 5 all_goals first | refine zW ?_ | refine xG ?_ ?_<;>intro hg
 all_goals first | (refine zY ?_;refine jaa zRc (jgO ()) rfl rfl ?_) | refine zSk ?_
 iterate 4 all_goals refine zW ?_
 all_goals first | (refine zY ?_;refine jaa zRc (jgO ()) rfl rfl ?_) | refine zSk ?_
 iterate 2 all_goals refine zW ?_
 all_goals (
 refine xP ?_;unfold plainMg
 simp only[*,qx,qy,Bool.and_true,qB];rfl)
theorem juH{q:List Mem}{r:List Nmn}(h2:plainMg m=true):seenGo q (m::r)=seenGo (q.set m.node.toNat ⟨true,m.t⟩) r:=by simp only[seenGo];rw[qf h2]
theorem jvp{q:List Mem}{r:List Nmn}(h:plainMg m=false):seenGo q (m::r)=seenGo q r:=by simp only[seenGo];rw[qe (by rw[h];decide)]
theorem jxc(h:plainMg m=true):∃n:Nat,m.node=n/\n<10:=by
 simp only[plainMg,qh,qo] at h;exact⟨m.node.toNat,by omega,by omega⟩
theorem jq7(v:Int)(t:Trust)(ht:sizeT t<=200000)(l:List Nmn)(hl:∀m∈l,sizeT m.t<=200000):C0 257 [.i v,av t,.sl 7 (l.map mgv)] (cv (seenV v t l)):=by
 refine xI Tryz.func257 Tryz.call257 λhcap=>?_;have hml:(l.map mgv).length=l.length:=by simp
 refine xX λb4=>?_;refine zAl λb6=>?_;iterate 4 refine zW ?_
 refine jeY (N:=10) (l:=(List.replicate 10 noMem).map mv) rfl rfl rfl rfl jlY (by simp) jn4 ⟨by decide,by decide⟩ rfl rfl (λg=>?_);refine xL λb7=>?_;refine xN λ_=>?_;iterate 4 refine zW ?_
 refine jag [0,4,6,7,12,13] [.box b4 _ _,.box b6 _ _,.box b7 _ _] (λ(k:Nat)(q:List Mem) r=>(14,.i (k:Int))::r) (λk q r=>.arr (.slice (some ⟨g,0,none⟩) 10 10) 101 4 (q.map mv)::r) (λk q=>k<=l.length/\q.length=10/\seenGo q (l.drop k)=seenGo (List.replicate 10 noMem) l) (λk q=>l.length - k) (0) ((List.replicate 10 noMem)) zRc ⟨by omega,by simp,by simp⟩ (zWk) ?_;intro k q ⟨hk,hql,hI⟩;refine xC ?_ ?_<;>intro hc
 ·(
 have hlt:=qc hc;obtain⟨x,hx,hd⟩:=jab (l:=l) (k:=k) zo;have hx':=jad mgv hx;have hxs:=hl x (qk hx);refine xL λb9=>?_;refine xA (jo0 x zo) ?_;refine xC ?_ ?_<;>intro hc
 ·(
 have hpl:plainMg x=true:=hc;obtain⟨n,hn,hn10⟩:=jxc hpl;rw[hn];obtain⟨y,hy,_⟩:=jab (l:=q) (k:=n) zo;have hyy:=jad mv hy;iterate 8 refine zW ?_
 refine zP (jaU (k:=n) rfl rfl rfl rfl rfl zo) ?_;refine jaD (off:=0) rfl rfl jdZ jct rfl hyy zRc ?_;iterate 8 refine zW ?_
 rw[hd,juH hpl,hn,qq] at hI;refine⟨k+1,q.set n ⟨true,x.t⟩,⟨by omega,by rw[List.length_set];exact hql,hI⟩,by omega,?_⟩;rw[List.map_set];exact(zWk))
 ·(
 have hpf:plainMg x=false:=hc;iterate 8 refine zW ?_
 rw[hd,jvp hpf] at hI;refine⟨k+1,q,⟨by omega,hql,hI⟩,by omega,zWk⟩))
 ·(
 have hge:=qd hc;rw[jae zo] at hI;simp only[seenGo] at hI;iterate 11 refine zW ?_
 iterate 3 all_goals first | refine zW ?_ | refine xG ?_ ?_<;>intro hg
 all_goals (
 refine xC ?_ ?_<;>intro hc
 ·(
 first
 | (exact xQ hc)
 |(
 have hv1:=qc hg;have hv2:=qc hc;refine zW ?_;obtain⟨n,rfl,hn10⟩:∃n:Nat,v=n/\n<10:=⟨v.toNat,by omega,by omega⟩
 obtain⟨y,hy,_⟩:=jab (l:=q) (k:=n) zo;have hyy:=jad mv hy;iterate 5 refine zW ?_
 refine zP (jaU (k:=n) rfl rfl rfl rfl rfl zo) ?_;refine jau [0,4,6,7,38,39] 1 rfl rfl (by repeat (first | exact SelC.nil | apply SelC.cons rfl (Cv.agg (CvL.cons Cv.same (CvL.cons Cv.same (CvL.cons Cv.fz (CvL.cons Cv.same CvL.nil))))) | apply SelC.cons rfl Cv.same)) ja4 ?_;refine jau [0,4,6,7,38,39] 3 rfl rfl jcb ja4 ?_;refine jaD (off:=0) rfl rfl jdZ jct rfl hyy zRc ?_;iterate 3 refine zW ?_
 rw[show D.agg [.b false,.i 0,.sl 1 [],.sl 3 []]=mv noMem from rfl,<-List.map_set];have hqs:(q.set n noMem).length=10:=by rw[List.length_set];exact hql
 obtain⟨y2,hy2,_⟩:=jab (l:=q.set n noMem) (k:=n) zo;have hyy2:=jad mv hy2;refine xA (jaI t zo) ?_;refine xC ?_ ?_<;>intro hc
 ·(
 have htv:=qc hc;iterate 6 refine zW ?_
 refine zP (jaU (k:=n) rfl rfl rfl rfl rfl zo) ?_;refine jaD (off:=0) rfl rfl jdZ jct rfl hyy2 zRc ?_;iterate 8 refine zW ?_
 rw[show D.agg [.b true,.i t.th,.sl 1 (t.nodes.map .i),.sl 3 (avs t.inner)]=mv ⟨true,t⟩ from rfl,<-List.map_set];refine zFz (.slice (some ⟨g,0,none⟩) 10 10) [6] ?_;refine xP ?_
 have hI9:q=seenGo (List.replicate 10 ⟨false,Trust.none⟩) l:=hI;unfold seenV;rw[qf zo,qf htv,qq,<-hI9];rfl)
 ·(
 have htv:=qd hc;iterate 8 refine zW ?_
 refine zFz (.slice (some ⟨g,0,none⟩) 10 10) [6] ?_;refine xP ?_
 have hI9:q=seenGo (List.replicate 10 ⟨false,Trust.none⟩) l:=hI;unfold seenV;rw[qf zo,qe htv,qq,<-hI9];rfl)))
 ·(
 first
 | (exact xQ hc)
 |(
 have hvn:¬(0<=v/\v<10):=by first | (have:=qd hc;omega) | (have:=qd hg;omega)
 iterate 8 refine zW ?_
 refine zFz (.slice (some ⟨g,0,none⟩) 10 10) [6] ?_;refine xP ?_
 have hI9:q=seenGo (List.replicate 10 ⟨false,Trust.none⟩) l:=hI;unfold seenV;rw[qe hvn,<-hI9];rfl))))
theorem jxM(h:l[k]?=some m):List.map mgv (l.take k)++[mgv m]=List.map mgv (l.take (k+1)):=by rw[List.take_add_one,h,List.map_append];rfl
theorem jhc(n:Nmr)(hB:NB n):C0 238 [nrv n] (cv (seenV n.node n.t n.heard)):=by
 refine xI Tryz.func238 Tryz.call238 λhcap=>?_;have hml:(n.heard.map nmv).length=n.heard.length:=by simp
 have hbl:=hB.hl;have hbs:=hB.sz;refine xX λb1=>?_;refine zAl λb2=>?_;refine xN λ_=>?_;iterate 4 refine zW ?_
 refine jag [1,2,7,8] [.box b1 _ _,.box b2 _ _] (λ(k:Nat)(v:Value) r=>(3,.v v)::(9,.i (k:Int))::r) (λk v r=>.arr v 285 7 ((n.heard.take k).map mgv)::r) (λk v=>k<=n.heard.length) (λk v=>n.heard.length - k) (0) (.slice none 0 0) zRc zo ((jaF 285 7 rfl).trans (zWk)) ?_;intro k v hk;have hqm:((n.heard.take k).map mgv).length=k:=by simp;omega
 refine xC ?_ ?_<;>intro hc
 ·(
 have hlt:=qc hc;obtain⟨m,hx,hd⟩:=jab (l:=n.heard) (k:=k) zo;have hx':=jad nmv hx;refine xL λb5=>?_;iterate 11 refine zW ?_
 refine zP (AP.up (jaj zKr rfl zRc jay) (d':=mgv m) xUp) ?_;refine xLt 285 7 120 ?_;refine xEa 285 7 120 (hb:=xLb) λv22 hv22=>?_;iterate 9 refine zW ?_
 rw[jxM hx]
 refine⟨k+1,_,by omega,by omega,zWk⟩)
 ·(
 have hge:=qd hc;rw[qC (show n.heard.length<=k by omega)];refine zFz v [1,2,3] ?_;refine xA (jq7 n.node n.t zo n.heard (λm hm=>by have:=(hB.hs m hm).1;omega)) ?_;refine xP ?_
 rfl)
theorem joY(n:Nmr)(hB:NB n)(x:Str):C0 234 [nrv n,.v (.string x)] (.b (canN n x)):=by
 refine xI Tryz.func234 Tryz.call234 λhcap=>?_;have hml:(n.accs.map strv).length=n.accs.length:=by simp
 have hba:=hB.a;refine xX λb2=>?_;refine xA (jfj n hB x) ?_;iterate 8 refine zW ?_
 refine zDr [] ?_;refine zT 0 ?_;refine zT 1 ?_;refine zT 2 ?_;refine zOn 3 ?_;refine xA (jdV n.accs zo x) ?_;refine zW ?_;refine zT 4 ?_;refine zT 5 ?_;refine jai 5 rfl (λhg=>?_) λhg=>?_
 rotate_left
 case' _ =>(
 refine zK 6 ?_;refine zK 7 ?_;refine zK 8 ?_;refine zK 9 ?_;refine zT 10 ?_;refine zT 11 ?_;refine zK 12 ?_;refine zK 13 ?_;refine zK 14 ?_;refine zK 15 ?_;refine zK 16 ?_;refine zK 17 ?_;refine zK 18 ?_;refine zT 19 ?_;refine zT 20 ?_
 refine zW ?_)
 rotate_right
 case' _ =>(
 refine zT 6 ?_;refine zT 7 ?_;refine zT 8 ?_;refine zT 9 ?_;refine zT 10 ?_;refine zT 11 ?_;refine jai 11 rfl (λhg=>?_) λhg=>?_
 rotate_left
 case' _ =>(
 refine zK 12 ?_;refine zK 13 ?_;refine zK 14 ?_;refine zK 15 ?_;refine zK 16 ?_;refine zK 17 ?_;refine zK 18 ?_;refine zT 19 ?_;refine zT 20 ?_
 refine zW ?_)
 rotate_right
 case' _ =>(
 refine zT 12 ?_;refine zT 14 ?_;refine zT 15 ?_;refine zT 16 ?_;refine zT 17 ?_;refine zOn 13 ?_;refine xA (jhc n hB) ?_;refine zW ?_;refine zOn 18 ?_;refine xA (jdf _ _ _ _) ?_;refine zW ?_;refine zT 19 ?_;refine zT 20 ?_
 refine zW ?_))
 all_goals (
 refine xP ?_;unfold canN
 generalize acceptsC (seenV n.node n.t n.heard) n.node (sideN Nmn.votes n x:Nat) (sideN Nmn.accs n x:Nat)=A9
 rw[<-hml]
 first | (simp only[resD];simp only[*,qx,qy,Bool.and_true,qB];done) | grind[resD])
theorem jvO(node slot:Int)(t:Trust)(ht:sizeT t<=1000000000):C0 181 [.i node,.i slot,av t] (.tup [mcv (newV node slot t).1,.i (newV node slot t).2]):=by
 refine xI Tryz.func181 Tryz.call181 λhcap=>?_;refine xX λb5=>?_;refine zAl λb6=>?_;iterate 10 refine zW ?_
 iterate 4 all_goals first | refine zW ?_ | refine xG ?_ ?_<;>intro hg
 all_goals (
 refine xC ?_ ?_<;>intro hc
 ·(
 first
 | (exact xQ hc)
 |(
 have h1:node<0\/node>9:=by first | exact .inl (qc hg) | exact .inr (qc hc)
 iterate 7 refine zW ?_
 refine jak [6,7] 1 rfl xSe (by apply HeapA.box (xc4 (CvL.cons Cv.fz (xc4 (xc4 (xc4 (CvL.cons Cv.same (CvL.cons Cv.same CvL.nil)))))));exact xHb) ?_;refine jak [6,7] 3 rfl xSe (by apply HeapA.box (xc4 (CvL.cons Cv.same (CvL.cons Cv.fz (xc4 (xc4 (xc4 (CvL.cons Cv.same CvL.nil)))))));exact xHb) ?_;refine jak [6,7] 15 rfl xSe (by apply HeapA.box (xc4 (xc4 (xc4 (xc4 (CvL.cons Cv.same (CvL.cons Cv.same (CvL.cons Cv.fz CvL.nil)))))));exact xHb) ?_;refine xP ?_
 unfold newV;rw[qf h1];rfl))
 ·(
 first
 | (exact xQ hc)
 |(
 have h1:¬(node<0\/node>9):=by rintro(h | h);exact qd hg h;exact qd hc h
 iterate 5 refine zW ?_
 iterate 4 all_goals first | refine zW ?_ | refine xG ?_ ?_<;>intro hg
 all_goals (
 refine xC ?_ ?_<;>intro hc
 ·(
 first
 | (exact xQ hc)
 |(
 have h2:slot<1\/slot>1000000:=by first | exact .inl (qc hg) | exact .inr (qc hc)
 iterate 7 refine zW ?_
 refine jak [6,7] 1 rfl xSe (by apply HeapA.box (xc4 (CvL.cons Cv.fz (xc4 (xc4 (xc4 (CvL.cons Cv.same (CvL.cons Cv.same CvL.nil)))))));exact xHb) ?_;refine jak [6,7] 3 rfl xSe (by apply HeapA.box (xc4 (CvL.cons Cv.same (CvL.cons Cv.fz (xc4 (xc4 (xc4 (CvL.cons Cv.same CvL.nil)))))));exact xHb) ?_;refine jak [6,7] 15 rfl xSe (by apply HeapA.box (xc4 (xc4 (xc4 (xc4 (CvL.cons Cv.same (CvL.cons Cv.same (CvL.cons Cv.fz CvL.nil)))))));exact xHb) ?_;refine xP ?_
 unfold newV;rw[qe h1,qf h2];rfl))
 ·(
 first
 | (exact xQ hc)
 |(
 have h2:¬(slot<1\/slot>1000000):=by rintro(h | h);exact qd hg h;exact qd hc h
 refine xA (jaI t ht) ?_;refine xC ?_ ?_<;>intro hc
 ·(
 have h3:¬validT t=0:=jaf hc;iterate 7 refine zW ?_
 refine jak [6,7] 1 rfl xSe (by apply HeapA.box (xc4 (CvL.cons Cv.fz (xc4 (xc4 (xc4 (CvL.cons Cv.same (CvL.cons Cv.same CvL.nil)))))));exact xHb) ?_;refine jak [6,7] 3 rfl xSe (by apply HeapA.box (xc4 (CvL.cons Cv.same (CvL.cons Cv.fz (xc4 (xc4 (xc4 (CvL.cons Cv.same CvL.nil)))))));exact xHb) ?_;refine jak [6,7] 15 rfl xSe (by apply HeapA.box (xc4 (xc4 (xc4 (xc4 (CvL.cons Cv.same (CvL.cons Cv.same (CvL.cons Cv.fz CvL.nil)))))));exact xHb) ?_;refine xP ?_
 unfold newV;rw[qe h1,qe h2,qf h3];rfl)
 ·(
 have h3:validT t=0:=jac hc;iterate 13 refine zW ?_
 refine jak [6,7] 15 rfl xSe (by apply HeapA.box (xc4 (xc4 (xc4 (xc4 (CvL.cons Cv.same (CvL.cons Cv.same (CvL.cons Cv.fz CvL.nil)))))));exact xHb) ?_;refine xP ?_
 unfold newV;rw[qe h1,qe h2,qe (λh=>h h3)];rfl)))))))
theorem jnb(n:Nmr)(hB:NB n):C0 232 [nrv n] (nrv (followN n)):=by
 refine xI Tryz.func232 Tryz.call232 λhcap=>?_;have hsz:=hB.sz;have hml:(n.heard.map nmv).length=n.heard.length:=by simp
 have hbl:=hB.hl;refine xX λb1=>?_;refine zAl λb2=>?_;refine xA (jjf n.t zo n.node n.slot n.round) ?_;refine xA (jfg _) ?_;refine zLn λ_=>?_;iterate 4 refine zW ?_
 rename_i hcp;obtain⟨L,hL⟩:∃L,L=nodesOf (leadersR n.t n.node n.slot n.round).1:=⟨_,rfl⟩
 rw[<-hL] at hcp ⊢;have hLl:(L.map D.i).length=L.length:=by simp
 refine jag [1,2,24,25] [.box b2 _ _] (λ(k:Nat)(q:List Str) r=>(26,.i (k:Int))::r) (λk q r=>.box b1 126 [.i n.node,.i n.slot,.i n.round,.i n.seq,.i n.t.th,.sl 1 (n.t.nodes.map .i),.sl 3 (avs n.t.inner),.v (.string n.own),.sl 1 (q.map strv),.sl 1 (n.accs.map strv),.sl 1 (n.confs.map strv),.sl 7 (n.heard.map nmv)]::r) (λk q=>k<=L.length/\q.length<=1000/\(L.drop k).foldl (fol1 n) q=L.foldl (fol1 n) n.votes) (λk q=>L.length - k) (0) (n.votes) zRc ⟨by omega,hB.v,rfl⟩ (zWk) ?_;intro k q ⟨hk,hql,hI⟩;refine xC ?_ ?_<;>intro hc
 ·(
 have hlt:=qc hc;obtain⟨z,hx,hd⟩:=jab (l:=L) (k:=k) zo;have hx':=jad D.i hx;refine xC ?_ ?_<;>intro hc
 ·(
 have h33:z=n.node:=qc hc;refine xC ?_ ?_<;>intro hc
 rotate_left
 case' _ =>(
 have h36:n.own=noS:=jrr hc;have mk36f:True:=trivial
 refine zW ?_)
 rotate_right
 case' _ =>(
 have h36:¬n.own=noS:=jtz hc;have mk36t:True:=trivial;refine xA (jdH q zo n.own) ?_
 iterate 3 refine zW ?_)
 all_goals (
 iterate 10 refine zW ?_
 rw[hd,List.foldl_cons] at hI
 first
 | (have:=mk36t;rw[show fol1 n q z=putN q n.own by unfold fol1;rw[qf h33,qe h36]] at hI;refine⟨k+1,putN q n.own,⟨by omega,jcs zo hql,hI⟩,by omega,zWk⟩)
 | (have:=mk36f;rw[show fol1 n q z=q by unfold fol1;rw[qf h33,qf h36]] at hI;refine⟨k+1,q,⟨by omega,hql,hI⟩,by omega,zWk⟩)))
 ·(
 have h33:¬z=n.node:=qd hc;refine xN λ_=>?_;iterate 4 refine zW ?_
 refine jag [1,2,6,24,25,26,44,45] [.box b2 _ _] (λ(j:Nat)(p:List Str) r=>(46,.i (j:Int))::r) (λj p r=>.box b1 126 [.i n.node,.i n.slot,.i n.round,.i n.seq,.i n.t.th,.sl 1 (n.t.nodes.map .i),.sl 3 (avs n.t.inner),.v (.string n.own),.sl 1 (p.map strv),.sl 1 (n.accs.map strv),.sl 1 (n.confs.map strv),.sl 7 (n.heard.map nmv)]::r) (λj p=>j<=n.heard.length/\p.length<=1000/\(n.heard.drop j).foldl (fol2 z) p=n.heard.foldl (fol2 z) q) (λj p=>n.heard.length - j) (0) (q) zRc ⟨by omega,hql,rfl⟩ (zWk) ?_;intro j p ⟨hj,hpl,hI2⟩;refine xC ?_ ?_<;>intro hc
 ·(
 have hlt2:=qc hc;obtain⟨m,hm,hd2⟩:=jab (l:=n.heard) (k:=j) zo;have hm':=jad nmv hm;have hmb:=hB.hs m (qk hm);refine xL λb8=>?_;refine xC ?_ ?_<;>intro hc
 ·(
 have h53:¬m.node=z:=jaf hc;iterate 9 refine zW ?_
 rw[hd2,List.foldl_cons] at hI2
 rw[show fol2 z p m=p by unfold fol2;rw[qe h53]] at hI2;refine⟨j+1,p,⟨by omega,hpl,hI2⟩,by omega,zWk⟩)
 ·(
 have h53:m.node=z:=jac hc;refine xA (jdX m.votes m.accs zo zo) ?_;refine zLn λ_=>?_;iterate 4 refine zW ?_
 rename_i hcp2;obtain⟨U,hU⟩:∃U,U=unionN m.votes m.accs:=⟨_,rfl⟩
 rw[<-hU] at hcp2 ⊢;have hUl:(U.map strv).length=U.length:=by simp
 refine jag [1,2,6,24,25,26,44,45,46,58,59] [.box b2 _ _] (λ(i:Nat)(u:List Str) r=>(60,.i (i:Int))::r) (λi u r=>.box b1 126 [.i n.node,.i n.slot,.i n.round,.i n.seq,.i n.t.th,.sl 1 (n.t.nodes.map .i),.sl 3 (avs n.t.inner),.v (.string n.own),.sl 1 (u.map strv),.sl 1 (n.accs.map strv),.sl 1 (n.confs.map strv),.sl 7 (n.heard.map nmv)]::r) (λi u=>i<=U.length/\u.length<=1000/\(U.drop i).foldl putN u=U.foldl putN p) (λi u=>U.length - i) (0) (p) zRc ⟨by omega,hpl,rfl⟩ (zWk) ?_;intro i u ⟨hi,hrl,hI3⟩;refine xC ?_ ?_<;>intro hc
 ·(
 have hlt3:=qc hc;obtain⟨y,hy,hd3⟩:=jab (l:=U) (k:=i) zo;have hy':=jad strv hy;refine xA (jdH u zo y) ?_;iterate 10 refine zW ?_
 rw[hd3,List.foldl_cons] at hI3
 refine⟨i+1,putN u y,⟨by omega,jcs zo hrl,hI3⟩,by omega,zWk⟩)
 ·(
 have hge3:=qd hc;rw[jae zo] at hI3;iterate 11 refine zW ?_
 rw[hd2,List.foldl_cons] at hI2
 rw[show fol2 z p m=u by unfold fol2;rw[qf h53,<-hU];exact hI3.symm] at hI2;refine⟨j+1,u,⟨by omega,hrl,hI2⟩,by omega,zWk⟩)))
 ·(
 have hge2:=qd hc;rw[jae zo] at hI2;iterate 11 refine zW ?_
 rw[hd,List.foldl_cons] at hI
 rw[show fol1 n q z=p by unfold fol1;rw[qe h33];exact hI2.symm] at hI;refine⟨k+1,p,⟨by omega,hpl,hI⟩,by omega,zWk⟩)))
 ·(
 have hge:=qd hc;rw[jae zo] at hI;refine xP ?_
 unfold followN;rw[<-hL,<-hI];rfl)
theorem jle(x:Str):∀(l q:List Str),(putsGo x l true q).length=q.length+l.length
 | [],q=>by simp[putsGo]
 | z::s,q=>by
  simp only[putsGo,Bool.not_true,qy,Bool.false_eq_true,if_false];rw[jle x s];simp only[qm,qi,qu];omega
theorem jnv(x:Str):∀(l q:List Str),(putsGo x l false q).length=q.length+l.length+1
 | [],q=>by simp[putsGo]
 | z::s,q=>by
  simp only[putsGo,Bool.not_false,qx];split
  ·rw[jle];simp only[qm,qi,qu];omega
  ·rw[jnv x s];simp only[qm,qi,qu];omega
theorem jmS{x:Str}(h:canN c x=true):c.accs.length<40/\(putN c.accs x).length=c.accs.length+1:=by
 simp only[canN,qh,Bool.not_eq_true',qo] at h;have h2:¬(hasN c.accs x||decide (40<=c.accs.length))=true:=by rw[h.1.1,Bool.false_or,qo];omega
 refine⟨by omega,?_⟩;unfold putN;rw[qe h2,jnv];simp
theorem jhS{x:Str}{R:Nmr}(hk:40<k+c.accs.length)(hR:againN k c=R)(hf:(knownN c).find? (canN c)=some x)(hl:(putN c.accs x).length=c.accs.length+1):∃k,40<k+(accN c x).accs.length/\againN k (accN c x)=R:=by
 have h0:=(jmS (List.find?_some hf)).1;obtain⟨j,rfl⟩:∃j,k=j+1:=⟨k - 1,by omega⟩
 refine⟨j,by show 40<j+(putN c.accs x).length;omega,?_⟩;rw[<-hR,againN,hf]
theorem jhV(hf:(knownN c).find? (canN c)=none):againN k c=c:=by
 cases k with
 | zero=>rfl
 | succ k=>rw[againN,hf]
theorem jde(b n:Nmr)(hb:NB b)(hB:NB n)(hq:0<=b.seq/\b.seq<=2000000):C0 211 [nrv b,nrv n] (nrv (settleN b n)):=by
 refine xI Tryz.func211 Tryz.call211 λhcap=>?_;have hbv:=hb.v;have hba0:=hb.a;have hml:(n.confs.map strv).length=n.confs.length:=by simp
 refine xX λb2=>?_;refine zBx λb3=>?_;refine zAl λb4=>?_;refine xN λ_=>?_;refine xC ?_ ?_<;>intro hc
 ·(
 have h15:n.confs.length=0:=by have:=qc hc;omega
 have hfi:firstN n=followN n:=qf h15;refine xA (jnb n hB) ?_;iterate 10 refine zW ?_
 refine jag [2,3,4] [.box b2 _ _,.box b4 _ _] (λ(c:Nmr)(g:Bool) r=>(5,.b g)::r) (λc g r=>.box b3 126 [.i c.node,.i c.slot,.i c.round,.i c.seq,.i c.t.th,.sl 1 (c.t.nodes.map .i),.sl 3 (avs c.t.inner),.v (.string c.own),.sl 1 (c.votes.map strv),.sl 1 (c.accs.map strv),.sl 1 (c.confs.map strv),.sl 7 (c.heard.map nmv)]::r) (λc g=>NB c/\(g=true->∃k,40<k+c.accs.length/\againN k c=againN 41 (followN n))/\(g=false->c=againN 41 (followN n))) (λc g=>(40 - c.accs.length)+(if g=true then 1 else 0)) (followN n) (true) zRc ⟨jkT hB,λ_=>⟨41,by omega,rfl⟩,λh=>Bool.noConfusion h⟩ (zWk) ?_;intro c g ⟨hBc,hT,hF⟩;refine xC ?_ ?_<;>intro hc
 ·(
 have hg9:g=true:=hc;subst hg9;obtain⟨k,hk,hR⟩:=hT rfl;refine xA (jh2 c hBc) ?_;refine zLn λ_=>?_;iterate 4 refine zW ?_
 rename_i hcp;obtain⟨K,hK⟩:∃K,K=knownN c:=⟨_,rfl⟩
 rw[<-hK] at hcp ⊢;have hKl:(K.map strv).length=K.length:=by simp
 refine jah [2,3,4,20,21] [.box b3 126 [.i c.node,.i c.slot,.i c.round,.i c.seq,.i c.t.th,.sl 1 (c.t.nodes.map .i),.sl 3 (avs c.t.inner),.v (.string c.own),.sl 1 (c.votes.map strv),.sl 1 (c.accs.map strv),.sl 1 (c.confs.map strv),.sl 7 (c.heard.map nmv)],.box b2 _ _,.box b4 _ _] (λ(i:Nat) r=>(5,.b false)::(22,.i (i:Int))::r) (λi r=>r) (λi=>i<=K.length/\(K.drop i).find? (canN c)=K.find? (canN c)) (λi=>K.length - i) (0) zRc ⟨by omega,rfl⟩ (zWk) ?_;intro i ⟨hi,hI2⟩;refine xC ?_ ?_<;>intro hc
 ·(
 have hlt:=qc hc;obtain⟨x,hx,hd2⟩:=jab (l:=K) (k:=i) zo;have hx':=jad strv hx;refine xA (joY c hBc x) ?_;refine xC ?_ ?_<;>intro hc
 ·(
 have h28:canN c x=true:=hc;refine xA (jdH c.accs (by have:=hBc.a;omega) x) ?_;iterate 16 refine zW ?_
 have hf:(knownN c).find? (canN c)=some x:=(by rw[<-hK,<-hI2,hd2];simp[h28]);obtain⟨hx1,hx2⟩:=jmS h28;refine⟨accN c x,true,⟨jrf hBc x,λ_=>jhS hk hR hf hx2,λh=>Bool.noConfusion h⟩,by show (40 - (putN c.accs x).length)+(if true=true then 1 else 0)<(40 - c.accs.length)+(if true=true then 1 else 0);rw[hx2,qf rfl];omega,zWk⟩)
 ·(
 have h28:canN c x=false:=hc;iterate 8 refine zW ?_
 rw[hd2,List.find?_cons_of_neg (by rw[h28];decide)] at hI2
 refine⟨i+1,⟨by omega,hI2⟩,by omega,zWk⟩))
 ·(
 have hge:=qd hc;rw[jae zo] at hI2;iterate 6 refine zW ?_
 refine⟨c,false,⟨hBc,λh=>Bool.noConfusion h,λ_=>by rw[<-hR,jhV (by rw[<-hK,<-hI2];rfl)]⟩,by show (40 - c.accs.length)+(if false=true then 1 else 0)<(40 - c.accs.length)+(if true=true then 1 else 0);simp,zWk⟩))
 ·(
 have hg9:g=false:=hc;have hcR:=hF hg9;refine xN λ_=>?_;iterate 4 refine zW ?_
 have hml3:(c.accs.map strv).length=c.accs.length:=by simp
 have hba:=hBc.a;refine jag [2,3,4,36,37] [.box b2 _ _,.box b4 _ _] (λ(i:Nat)(q:List Str) r=>(38,.i (i:Int))::r) (λi q r=>.box b3 126 [.i c.node,.i c.slot,.i c.round,.i c.seq,.i c.t.th,.sl 1 (c.t.nodes.map .i),.sl 3 (avs c.t.inner),.v (.string c.own),.sl 1 (c.votes.map strv),.sl 1 (c.accs.map strv),.sl 1 (q.map strv),.sl 7 (c.heard.map nmv)]::r) (λi q=>i<=c.accs.length/\q.length<=1000/\(c.accs.drop i).foldl (cnd1 c) q=c.accs.foldl (cnd1 c) c.confs) (λi q=>c.accs.length - i) (0) (c.confs) zRc ⟨by omega,hBc.c,rfl⟩ (zWk) ?_;intro i q ⟨hi,hql,hI3⟩;refine xC ?_ ?_<;>intro hc
 ·(
 have hlt3:=qc hc;obtain⟨x,hx,hd3⟩:=jab (l:=c.accs) (k:=i) zo;have hx':=jad strv hx;refine xA (jfj { c with confs:=q } (je2 hBc hql) x) ?_;iterate 8 refine zW ?_
 refine zDr [] ?_;refine zT 0 ?_;refine zT 2 ?_;refine zT 3 ?_;refine zT 4 ?_;refine zOn 1 ?_;refine xA (jhc { c with confs:=q } (je2 hBc hql)) ?_;refine zW ?_;refine zOn 5 ?_;refine xA (jb1 _ _ _) ?_;iterate 2 refine zW ?_
 all_goals (
 refine xC ?_ ?_<;>intro hc
 ·(
 have h53:confN c x=true:=hc;refine xA (jdH q zo x) ?_;iterate 10 refine zW ?_
 rw[hd3,List.foldl_cons] at hI3
 rw[show cnd1 c q x=putN q x from qf h53] at hI3;refine⟨i+1,putN q x,⟨by omega,jcs zo hql,hI3⟩,by omega,zWk⟩)
 ·(
 have h53:¬confN c x=true:=by rw[show confN c x=false from hc];decide
 iterate 8 refine zW ?_
 rw[hd3,List.foldl_cons] at hI3
 rw[show cnd1 c q x=q from qe h53] at hI3;refine⟨i+1,q,⟨by omega,hql,hI3⟩,by omega,zWk⟩)))
 ·(
 have hge3:=qd hc;rw[jae zo] at hI3;have hI4:q=c.accs.foldl (cnd1 c) c.confs:=hI3;have hbd:bodyN n={ c with confs:=q }:=by unfold bodyN;rw[hfi,<-hcR];unfold chosenN;rw[<-hI4]
 refine xA (jeL b.votes c.votes zo (by have:=hBc.v;omega)) ?_;iterate 2 refine zW ?_
 iterate 4 all_goals first | refine zW ?_ | refine xG ?_ ?_<;>intro hg
 all_goals first | (refine zY ?_;refine jaa zRc (jeL b.accs c.accs zo zo) rfl rfl ?_) | refine zSk ?_
 iterate 7 all_goals first | refine zW ?_ | refine xG ?_ ?_<;>intro hg
 all_goals first | (refine zY ?_;refine jaa zRc (jcd b.t c.t) rfl rfl ?_) | refine zSk ?_
 iterate 2 all_goals refine zW ?_
 all_goals (
 refine xC ?_ ?_<;>intro hc
 rotate_left
 case' _ =>(
 first
 | (exact xQ hc)
 |(
 have h81:¬((!sameN b.votes c.votes||!sameN b.accs c.accs)||!same b.t c.t)=true:=by first | (simp_all;done) | grind
 have mk81f:True:=trivial
 refine zW ?_))
 rotate_right
 case' _ =>(
 first
 | (exact xQ hc)
 |(
 have h81:((!sameN b.votes c.votes||!sameN b.accs c.accs)||!same b.t c.t)=true:=by first | (simp_all;done) | grind
 have mk81t:True:=trivial
 iterate 7 refine zW ?_))
 all_goals (
 iterate 8 refine zW ?_
 first
 | (have:=mk81t;refine zPi ?_;unfold settleN;rw[hbd,qf (show turnN b { c with confs:=q }=true from h81)];rfl)
 | (have:=mk81f;refine zPi ?_;unfold settleN;rw[hbd,qe (show ¬turnN b { c with confs:=q }=true from h81)];rfl))))))
 ·(
 have h15:¬n.confs.length=0:=by have:=qd hc;omega
 have hfi:firstN n=n:=qe h15;iterate 9 refine zW ?_
 refine jag [2,3,4] [.box b2 _ _,.box b4 _ _] (λ(c:Nmr)(g:Bool) r=>(5,.b g)::r) (λc g r=>.box b3 126 [.i c.node,.i c.slot,.i c.round,.i c.seq,.i c.t.th,.sl 1 (c.t.nodes.map .i),.sl 3 (avs c.t.inner),.v (.string c.own),.sl 1 (c.votes.map strv),.sl 1 (c.accs.map strv),.sl 1 (c.confs.map strv),.sl 7 (c.heard.map nmv)]::r) (λc g=>NB c/\(g=true->∃k,40<k+c.accs.length/\againN k c=againN 41 (n))/\(g=false->c=againN 41 (n))) (λc g=>(40 - c.accs.length)+(if g=true then 1 else 0)) (n) (true) zRc ⟨hB,λ_=>⟨41,by omega,rfl⟩,λh=>Bool.noConfusion h⟩ (zWk) ?_;intro c g ⟨hBc,hT,hF⟩;refine xC ?_ ?_<;>intro hc
 ·(
 have hg9:g=true:=hc;subst hg9;obtain⟨k,hk,hR⟩:=hT rfl;refine xA (jh2 c hBc) ?_;refine zLn λ_=>?_;iterate 4 refine zW ?_
 rename_i hcp;obtain⟨K,hK⟩:∃K,K=knownN c:=⟨_,rfl⟩
 rw[<-hK] at hcp ⊢;have hKl:(K.map strv).length=K.length:=by simp
 refine jah [2,3,4,20,21] [.box b3 126 [.i c.node,.i c.slot,.i c.round,.i c.seq,.i c.t.th,.sl 1 (c.t.nodes.map .i),.sl 3 (avs c.t.inner),.v (.string c.own),.sl 1 (c.votes.map strv),.sl 1 (c.accs.map strv),.sl 1 (c.confs.map strv),.sl 7 (c.heard.map nmv)],.box b2 _ _,.box b4 _ _] (λ(i:Nat) r=>(5,.b false)::(22,.i (i:Int))::r) (λi r=>r) (λi=>i<=K.length/\(K.drop i).find? (canN c)=K.find? (canN c)) (λi=>K.length - i) (0) zRc ⟨by omega,rfl⟩ (zWk) ?_;intro i ⟨hi,hI2⟩;refine xC ?_ ?_<;>intro hc
 ·(
 have hlt:=qc hc;obtain⟨x,hx,hd2⟩:=jab (l:=K) (k:=i) zo;have hx':=jad strv hx;refine xA (joY c hBc x) ?_;refine xC ?_ ?_<;>intro hc
 ·(
 have h28:canN c x=true:=hc;refine xA (jdH c.accs (by have:=hBc.a;omega) x) ?_;iterate 16 refine zW ?_
 have hf:(knownN c).find? (canN c)=some x:=(by rw[<-hK,<-hI2,hd2];simp[h28]);obtain⟨hx1,hx2⟩:=jmS h28;refine⟨accN c x,true,⟨jrf hBc x,λ_=>jhS hk hR hf hx2,λh=>Bool.noConfusion h⟩,by show (40 - (putN c.accs x).length)+(if true=true then 1 else 0)<(40 - c.accs.length)+(if true=true then 1 else 0);rw[hx2,qf rfl];omega,zWk⟩)
 ·(
 have h28:canN c x=false:=hc;iterate 8 refine zW ?_
 rw[hd2,List.find?_cons_of_neg (by rw[h28];decide)] at hI2
 refine⟨i+1,⟨by omega,hI2⟩,by omega,zWk⟩))
 ·(
 have hge:=qd hc;rw[jae zo] at hI2;iterate 6 refine zW ?_
 refine⟨c,false,⟨hBc,λh=>Bool.noConfusion h,λ_=>by rw[<-hR,jhV (by rw[<-hK,<-hI2];rfl)]⟩,by show (40 - c.accs.length)+(if false=true then 1 else 0)<(40 - c.accs.length)+(if true=true then 1 else 0);simp,zWk⟩))
 ·(
 have hg9:g=false:=hc;have hcR:=hF hg9;refine xN λ_=>?_;iterate 4 refine zW ?_
 have hml3:(c.accs.map strv).length=c.accs.length:=by simp
 have hba:=hBc.a;refine jag [2,3,4,36,37] [.box b2 _ _,.box b4 _ _] (λ(i:Nat)(q:List Str) r=>(38,.i (i:Int))::r) (λi q r=>.box b3 126 [.i c.node,.i c.slot,.i c.round,.i c.seq,.i c.t.th,.sl 1 (c.t.nodes.map .i),.sl 3 (avs c.t.inner),.v (.string c.own),.sl 1 (c.votes.map strv),.sl 1 (c.accs.map strv),.sl 1 (q.map strv),.sl 7 (c.heard.map nmv)]::r) (λi q=>i<=c.accs.length/\q.length<=1000/\(c.accs.drop i).foldl (cnd1 c) q=c.accs.foldl (cnd1 c) c.confs) (λi q=>c.accs.length - i) (0) (c.confs) zRc ⟨by omega,hBc.c,rfl⟩ (zWk) ?_;intro i q ⟨hi,hql,hI3⟩;refine xC ?_ ?_<;>intro hc
 ·(
 have hlt3:=qc hc;obtain⟨x,hx,hd3⟩:=jab (l:=c.accs) (k:=i) zo;have hx':=jad strv hx;refine xA (jfj { c with confs:=q } (je2 hBc hql) x) ?_;iterate 8 refine zW ?_
 refine zDr [] ?_;refine zT 0 ?_;refine zT 2 ?_;refine zT 3 ?_;refine zT 4 ?_;refine zOn 1 ?_;refine xA (jhc { c with confs:=q } (je2 hBc hql)) ?_;refine zW ?_;refine zOn 5 ?_;refine xA (jb1 _ _ _) ?_;iterate 2 refine zW ?_
 all_goals (
 refine xC ?_ ?_<;>intro hc
 ·(
 have h53:confN c x=true:=hc;refine xA (jdH q zo x) ?_;iterate 10 refine zW ?_
 rw[hd3,List.foldl_cons] at hI3
 rw[show cnd1 c q x=putN q x from qf h53] at hI3;refine⟨i+1,putN q x,⟨by omega,jcs zo hql,hI3⟩,by omega,zWk⟩)
 ·(
 have h53:¬confN c x=true:=by rw[show confN c x=false from hc];decide
 iterate 8 refine zW ?_
 rw[hd3,List.foldl_cons] at hI3
 rw[show cnd1 c q x=q from qe h53] at hI3;refine⟨i+1,q,⟨by omega,hql,hI3⟩,by omega,zWk⟩)))
 ·(
 have hge3:=qd hc;rw[jae zo] at hI3;have hI4:q=c.accs.foldl (cnd1 c) c.confs:=hI3;have hbd:bodyN n={ c with confs:=q }:=by unfold bodyN;rw[hfi,<-hcR];unfold chosenN;rw[<-hI4]
 refine xA (jeL b.votes c.votes zo (by have:=hBc.v;omega)) ?_;iterate 2 refine zW ?_
 iterate 4 all_goals first | refine zW ?_ | refine xG ?_ ?_<;>intro hg
 all_goals first | (refine zY ?_;refine jaa zRc (jeL b.accs c.accs zo zo) rfl rfl ?_) | refine zSk ?_
 iterate 7 all_goals first | refine zW ?_ | refine xG ?_ ?_<;>intro hg
 all_goals first | (refine zY ?_;refine jaa zRc (jcd b.t c.t) rfl rfl ?_) | refine zSk ?_
 iterate 2 all_goals refine zW ?_
 all_goals (
 refine xC ?_ ?_<;>intro hc
 rotate_left
 case' _ =>(
 first
 | (exact xQ hc)
 |(
 have h81:¬((!sameN b.votes c.votes||!sameN b.accs c.accs)||!same b.t c.t)=true:=by first | (simp_all;done) | grind
 have mk81f:True:=trivial
 refine zW ?_))
 rotate_right
 case' _ =>(
 first
 | (exact xQ hc)
 |(
 have h81:((!sameN b.votes c.votes||!sameN b.accs c.accs)||!same b.t c.t)=true:=by first | (simp_all;done) | grind
 have mk81t:True:=trivial
 iterate 7 refine zW ?_))
 all_goals (
 iterate 8 refine zW ?_
 first
 | (have:=mk81t;refine zPi ?_;unfold settleN;rw[hbd,qf (show turnN b { c with confs:=q }=true from h81)];rfl)
 | (have:=mk81f;refine zPi ?_;unfold settleN;rw[hbd,qe (show ¬turnN b { c with confs:=q }=true from h81)];rfl))))))
def badN1(n:Nmr):Bool:=decide (n.node<0)||(decide (n.node>=10)||(decide (n.slot<0)||(decide (n.slot>1000000)||(decide (n.round<1)||(decide (n.round>1000)||(decide (n.seq<1)||decide (n.seq>1000000)))))))
theorem jsI(n:Nmr):rngN n=!badN1 n:=by
 rw[Bool.eq_iff_iff];simp only[rngN,badN1,qh,qo,Bool.not_eq_true',Bool.or_eq_false_iff,decide_eq_false_iff_not,gt_iff_lt,ge_iff_le];omega
def badN2(n:Nmr):Bool:=!decide (validT n.t=0)||(decide ((n.own.size:Int)>200)||(!plainN n.votes||(!plainN n.accs||!plainN n.confs)))
theorem jrA(n:Nmr):lstN n=!badN2 n:=by
 have h:decide ((n.own.size:Int)<=200)=!decide ((n.own.size:Int)>200):=by
  rw[Bool.eq_iff_iff];simp only[qo,Bool.not_eq_true',decide_eq_false_iff_not];omega
 simp only[lstN,badN2,h];cases decide (validT n.t=0)<;>cases decide ((n.own.size:Int)>200)<;>cases plainN n.votes<;>cases plainN n.accs<;>cases plainN n.confs<;>rfl
theorem jqG(h:badN1 n=true):validNr n=false:=by unfold validNr;rw[jsI,h];rfl
theorem jq5(h:badN2 n=true):validNr n=false:=by unfold validNr;rw[jrA,h,Bool.not_true,qB,qy,qy]
theorem jsf(h:n.confs.all (hasN n.accs)=false):validNr n=false:=by unfold validNr;rw[h,qB,qy]
theorem jlg{c:Bool}(h1:badN1 n=false)(h2:badN2 n=false)(h:n.confs.all (hasN n.accs)=true)(h4:nhGo n none n.heard=c):validNr n=c:=by unfold validNr;rw[jsI,jrA,h1,h2,h,h4];rfl
def okMn(p:Option Int)(m:Nmn):Bool:=match p with | none=>true | some q=>decide (q<m.node)
def prevM(l:List Nmn)(k:Nat):Option Int:=if k=0 then none else (l[k - 1]?).map Nmn.node
theorem jki(n:Nmr)(p:Option Int)(m:Nmn)(r:List Nmn):nhGo n p (m::r)=(((plainNm m&&!decide (m.node=n.node))&&okMn p m)&&nhGo n (some m.node) r):=by cases p<;>rfl
theorem jpD{x:Nmn}(h:l[k]?=some x):prevM l (k+1)=some x.node:=by
 unfold prevM;rw[qe zo,Nat.add_sub_cancel,h];rfl
theorem jxw{x y:Nmn}(hy:0<k->l[k - 1]?=some y):okMn (prevM l k) x=if (0:Int)<(k:Int) then decide (y.node<x.node) else true:=by
 unfold prevM
 by_cases h:k=0
 ·rw[qf h,qe zo];rfl
 ·rw[qe h,qf zo,hy zo];rfl
theorem jvj(x:Nmn)(h:k<=l.length):∃y,0<k->l[k - 1]?=some y:=by
 rcases Nat.eq_zero_or_pos k with h0 | h0
 ·exact⟨x,λh1=>by omega⟩
 ·exact⟨l[k - 1]'zo,λ_=>ze _⟩
theorem jfs(n:Nmr)(hB:NB n):C0 168 [nrv n] (.b (validNr n)):=by
 refine xI Tryz.func168 Tryz.call168 λhcap=>?_;have hsz:=hB.sz;have hml:(n.heard.map nmv).length=n.heard.length:=by simp
 have hbl:=hB.hl;have hbv:=hB.v;have hba:=hB.a;have hbc:=hB.c;have hcl:(n.confs.map strv).length=n.confs.length:=by simp
 refine xX λb1=>?_;iterate 10 refine zW ?_
 iterate 34 all_goals first | refine zW ?_ | refine xG ?_ ?_<;>intro hg
 all_goals (
 refine xC ?_ ?_<;>intro hc
 ·(
 first
 | (exact xQ hc)
 |(
 have h44:badN1 n=true:=by first | (simp only[badN1, *,Bool.or_true,Bool.true_or,Bool.or_false,Bool.false_or,Bool.and_true,qx,qB,qy,Bool.not_true,Bool.not_false];done) | (simp only[badN1];simp[*];done) | grind[badN1]
 refine xP ?_
 rw[jqG h44];rfl))
 ·(
 first
 | (exact xQ hc)
 |(
 have h44:badN1 n=false:=by first | (simp only[badN1, *,Bool.or_true,Bool.true_or,Bool.or_false,Bool.false_or,Bool.and_true,qx,qB,qy,Bool.not_true,Bool.not_false];done) | (simp only[badN1];simp[*];done) | grind[badN1]
 refine xA (jaI n.t zo) ?_;iterate 2 refine zW ?_
 iterate 8 all_goals first | refine zW ?_ | refine xG ?_ ?_<;>intro hg
 all_goals first | (refine zY ?_;refine jaa zRc (jcG n.votes zo) rfl rfl ?_) | refine zSk ?_
 iterate 5 all_goals first | refine zW ?_ | refine xG ?_ ?_<;>intro hg
 all_goals first | (refine zY ?_;refine jaa zRc (jcG n.accs zo) rfl rfl ?_) | refine zSk ?_
 iterate 5 all_goals first | refine zW ?_ | refine xG ?_ ?_<;>intro hg
 all_goals first | (refine zY ?_;refine jaa zRc (jcG n.confs zo) rfl rfl ?_) | refine zSk ?_
 iterate 2 all_goals refine zW ?_
 all_goals (
 refine xC ?_ ?_<;>intro hc
 ·(
 first
 | (exact xQ hc)
 |(
 have h72:badN2 n=true:=by first | (simp only[badN2, *,Bool.or_true,Bool.true_or,Bool.or_false,Bool.false_or,Bool.and_true,qx,qB,qy,Bool.not_true,Bool.not_false];done) | (simp only[badN2];simp[*];done) | grind[badN2]
 refine xP ?_
 rw[jq5 h72];rfl))
 ·(
 first
 | (exact xQ hc)
 |(
 have h72:badN2 n=false:=by first | (simp only[badN2, *,Bool.or_true,Bool.true_or,Bool.or_false,Bool.false_or,Bool.and_true,qx,qB,qy,Bool.not_true,Bool.not_false];done) | (simp only[badN2];simp[*];done) | grind[badN2]
 refine xN λ_=>?_;iterate 4 refine zW ?_
 refine jah [1,74,75] [.box b1 _ _] (λ(i:Nat) r=>(76,.i (i:Int))::r) (λi r=>r) (λi=>i<=n.confs.length/\(n.confs.drop i).all (hasN n.accs)=n.confs.all (hasN n.accs)) (λi=>n.confs.length - i) (0) zRc ⟨by omega,rfl⟩ (zWk) ?_;intro i ⟨hi,hI0⟩;refine xC ?_ ?_<;>intro hc
 ·(
 have hlt0:=qc hc;obtain⟨z,hz,hd0⟩:=jab (l:=n.confs) (k:=i) zo;have hz':=jad strv hz;refine xA (jdV n.accs zo z) ?_;refine xC ?_ ?_<;>intro hc
 ·(
 have h84:hasN n.accs z=false:=jaw hc;rw[hd0,List.all_cons,h84,qy] at hI0;refine xP ?_
 rw[jsf hI0.symm];rfl)
 ·(
 have h84:hasN n.accs z=true:=jav hc;iterate 8 refine zW ?_
 rw[hd0,List.all_cons,h84,qx] at hI0
 refine⟨i+1,⟨by omega,hI0⟩,by omega,zWk⟩))
 ·(
 have hge0:=qd hc;rw[jae zo,List.all_nil] at hI0;refine xN λ_=>?_;iterate 4 refine zW ?_
 refine jah [1,87,88] [.box b1 _ _] (λ(k:Nat) r=>(89,.i (k:Int))::r) (λk r=>r) (λk=>k<=n.heard.length/\nhGo n (prevM n.heard k) (n.heard.drop k)=nhGo n none n.heard) (λk=>n.heard.length - k) (0) zRc ⟨by omega,rfl⟩ (zWk) ?_;intro k ⟨hk,hI⟩;refine xC ?_ ?_<;>intro hc
 ·(
 have hlt:=qc hc;obtain⟨x,hx,hd⟩:=jab (l:=n.heard) (k:=k) zo;have hx':=jad nmv hx;obtain⟨y,hy⟩:=jvj x hk;have hq:=jxw (x:=x) hy;have hxs:=hB.hs x (qk hx);refine xL λb6=>?_;iterate 5 refine zW ?_
 refine zDr [] ?_;refine zT 0 ?_;refine zOn 1 ?_;refine xA (jhf x (by have:=hxs.1;omega) (by have:=hxs.2.1;omega) (by have:=hxs.2.2;omega)) ?_;refine zW ?_;refine zT 2 ?_;refine zT 3 ?_;refine jai 3 rfl (λhg=>?_) λhg=>?_
 rotate_left
 case' _ =>(
 refine zT 4 ?_;refine zT 5 ?_;refine zT 6 ?_;refine zT 7 ?_;refine zT 8 ?_;refine zT 9 ?_;refine zT 10 ?_;refine jai 10 rfl (λhg=>?_) λhg=>?_
 rotate_left
 case' _ =>(
 refine zT 11 ?_;refine zT 12 ?_;refine zT 13 ?_;refine jai 13 rfl (λhg=>?_) λhg=>?_
 rotate_left
 case' _ =>(
 refine zK 14 ?_;refine zK 15 ?_;refine zK 16 ?_;refine zK 17 ?_;refine zK 18 ?_;refine zK 19 ?_;refine zK 20 ?_;refine zK 21 ?_;refine zK 22 ?_;refine zK 23 ?_;refine zT 24 ?_;refine zT 25 ?_
 refine zW ?_)
 rotate_right
 case' _ =>(
 refine zT 14 ?_;refine zT 15 ?_;refine zT 16 ?_;refine zT 17 ?_;refine jam 18 rfl zGd zKr zKr zKr (AP.ar (jap (k:=k - 1) rfl rfl rfl rfl zd (by have h9:decide ((k:Int)>0)=true:=(by first | with_reducible assumption | exact hg);have:=qc h9;omega) (jad nmv (hy (by have h9:decide ((k:Int)>0)=true:=(by first | with_reducible assumption | exact hg);have:=qc h9;omega))))) rfl rfl ?_;refine zT 19 ?_;refine zT 20 ?_;refine zT 21 ?_;refine zT 22 ?_;refine zT 23 ?_;refine zT 24 ?_;refine zT 25 ?_
 refine zW ?_))
 rotate_right
 case' _ =>(
 refine zK 11 ?_;refine zK 12 ?_;refine zKu 13 ?_;refine zK 14 ?_;refine zK 15 ?_;refine zK 16 ?_;refine zK 17 ?_;refine zK 18 ?_;refine zK 19 ?_;refine zK 20 ?_;refine zK 21 ?_;refine zK 22 ?_;refine zK 23 ?_;refine zK 24 ?_;refine zT 25 ?_
 refine zW ?_))
 rotate_right
 case' _ =>(
 refine zK 4 ?_;refine zK 5 ?_;refine zK 6 ?_;refine zK 7 ?_;refine zK 8 ?_;refine zT 9 ?_;refine zT 10 ?_;refine zK 11 ?_;refine zK 12 ?_;refine zKu 13 ?_;refine zK 14 ?_;refine zK 15 ?_;refine zK 16 ?_;refine zK 17 ?_;refine zK 18 ?_;refine zK 19 ?_;refine zK 20 ?_;refine zK 21 ?_;refine zK 22 ?_;refine zK 23 ?_;refine zK 24 ?_;refine zT 25 ?_
 refine zW ?_)
 all_goals (
 refine xC ?_ ?_<;>intro hc
 ·(
 first
 | (exact xQ hc)
 |(
 have hq0:((plainNm x&&!decide (x.node=n.node))&&okMn (prevM n.heard k) x)=false:=by rw[hq];first | (simp[*];done) | grind
 refine xP ?_;rw[hd,jki,hq0,qy] at hI
 rw[jlg h44 h72 hI0.symm hI.symm];rfl))
 ·(
 first
 | (exact xQ hc)
 |(
 have hq0:((plainNm x&&!decide (x.node=n.node))&&okMn (prevM n.heard k) x)=true:=by rw[hq];first | (simp[*];done) | grind
 iterate 8 refine zW ?_
 rw[hd,jki,hq0,qx,<-jpD hx] at hI
 refine⟨k+1,⟨by omega,hI⟩,by omega,zWk⟩))))
 ·(
 have hge:=qd hc;rw[jae zo] at hI;refine xP ?_
 rw[jlg h44 h72 hI0.symm hI.symm];rfl))))))))
theorem jty(n:Nmr)(hN:NI n):C0 175 [nrv n] (.tup [nrv (tickN n).1,.i (tickN n).2]):=by
 refine xI Tryz.func175 Tryz.call175 λhcap=>?_;have hr:=hN.round;refine xX λb1=>?_;refine zAl λb2=>?_;refine xA (jfs n hN.nb) ?_;refine xC ?_ ?_<;>intro hc
 ·(
 have h7:validNr n=false:=jaw hc;iterate 2 refine zW ?_
 refine zP (AP.up (jaj zKr rfl zRc jay) (d':=nrv zeroN) xUp) ?_;refine xP ?_
 unfold tickN;rw[qf h7];rfl)
 ·(
 have h7:validNr n=true:=jav hc;refine xC ?_ ?_<;>intro hc
 ·(
 have h11:n.round=1000:=qc hc;iterate 2 refine zW ?_
 refine zP (AP.up (jaj zKr rfl zRc jay) (d':=nrv zeroN) xUp) ?_;refine xP ?_
 unfold tickN;rw[qe (by rw[h7];decide),qf h11];rfl)
 ·(
 have h11:¬n.round=1000:=qd hc;refine xL λb4=>?_;refine xA (jde n { n with round:=n.round+1 } hN.nb (jnE hN.nb _) hN.seq) ?_;refine xP ?_
 unfold tickN;rw[qe (by rw[h7];decide),qe h11];rfl))
theorem jpA(node slot:Int)(t:Trust)(ht:sizeT t<=100000)(own:Str):C0 182 [.i node,.i slot,av t,.v (.string own)] (.tup [nrv (startN node slot t own).1,.i (startN node slot t own).2]):=by
 refine xI Tryz.func182 Tryz.call182 λhcap=>?_;refine xX λb6=>?_;refine zAl λb8=>?_;iterate 9 refine zW ?_
 iterate 3 all_goals first | refine zW ?_ | refine xG ?_ ?_<;>intro hg
 all_goals (
 refine xC ?_ ?_<;>intro hc
 ·(
 first
 | (exact xQ hc)
 |(
 have h17:node<0\/node>=10:=by first | exact .inl (qc hg) | exact .inr (qc hc)
 iterate 2 refine zW ?_
 refine zP (AP.up (jaj zKr rfl zRc jay) (d':=nrv zeroN) xUp) ?_;refine xP ?_
 unfold startN;rw[qf h17];rfl))
 ·(
 first
 | (exact xQ hc)
 |(
 have h17:¬(node<0\/node>=10):=by rintro(h | h);exact qd hg h;exact qd hc h
 iterate 8 refine zW ?_
 iterate 3 all_goals first | refine zW ?_ | refine xG ?_ ?_<;>intro hg
 all_goals (
 refine xC ?_ ?_<;>intro hc
 ·(
 first
 | (exact xQ hc)
 |(
 have h24:slot<0\/slot>1000000:=by first | exact .inl (qc hg) | exact .inr (qc hc)
 iterate 2 refine zW ?_
 refine zP (AP.up (jaj zKr rfl zRc jay) (d':=nrv zeroN) xUp) ?_;refine xP ?_
 unfold startN;rw[qe h17,qf h24];rfl))
 ·(
 first
 | (exact xQ hc)
 |(
 have h24:¬(slot<0\/slot>1000000):=by rintro(h | h);exact qd hg h;exact qd hc h
 refine xA (jaI t zo) ?_;refine xC ?_ ?_<;>intro hc
 ·(
 have h29:¬validT t=0:=jaf hc;iterate 2 refine zW ?_
 refine zP (AP.up (jaj zKr rfl zRc jay) (d':=nrv zeroN) xUp) ?_;refine xP ?_
 unfold startN;rw[qe h17,qe h24,qf h29];rfl)
 ·(
 have h29:validT t=0:=jac hc;refine xC ?_ ?_<;>intro hc
 ·(
 have h34:(own.size:Int)>200:=qc hc;iterate 2 refine zW ?_
 refine zP (AP.up (jaj zKr rfl zRc jay) (d':=nrv zeroN) xUp) ?_;refine xP ?_
 unfold startN;rw[qe h17,qe h24,qe (λh=>h h29),qf h34];rfl)
 ·(
 have h34:¬(own.size:Int)>200:=qd hc;iterate 8 refine zW ?_
 refine zP (AP.up (jaj zKr rfl zRc jay) (d':=nrv (newN node slot t own)) xUp) ?_;refine zAl λb11=>?_;refine xA (jde (newN node slot t own) (newN node slot t own) (jl7 zo ht) (jl7 zo ht) (by show (0:Int)<=1/\(1:Int)<=2000000;omega)) ?_;refine xP ?_
 unfold startN;rw[qe h17,qe h24,qe (λh=>h h29),qe h34];rfl))))))))
theorem jrg(n:Nmr)(hN:NI n)(m:Nmn)(hm:MB m):C0 173 [nrv n,nmv m] (.tup [nrv (hearN n m).1,.i (hearN n m).2]):=by
 refine xI Tryz.func173 Tryz.call173 λhcap=>?_;have hml:(n.heard.map nmv).length=n.heard.length:=by simp
 have hbl:=hN.nb.hl;have hms:=hm.sz;have hmv:=hm.v;have hma:=hm.a;refine xX λb2=>?_;refine zBx λb3=>?_;refine zAl λb4=>?_;refine xA (jfs n hN.nb) ?_;iterate 2 refine zW ?_
 all_goals refine xG ?_ ?_<;>intro hg
 all_goals first | (refine zY ?_;refine jaa zRc (jhf m zo zo zo) rfl rfl ?_) | refine zSk ?_
 iterate 9 all_goals first | refine zW ?_ | refine xG ?_ ?_<;>intro hg
 all_goals (
 refine xC ?_ ?_<;>intro hc
 ·(
 first
 | (exact xQ hc)
 |(
 have h24:(validNr n=false\/plainNm m=false)\/m.node=n.node:=by first | (simp_all;done) | grind
 iterate 2 refine zW ?_
 refine zP (AP.up (jaj zKr rfl zRc jay) (d':=nrv zeroN) xUp) ?_;refine xP ?_
 unfold hearN;rw[qf h24];rfl))
 ·(
 first
 | (exact xQ hc)
 |(
 have h24:¬((validNr n=false\/plainNm m=false)\/m.node=n.node):=by first | (simp_all;done) | grind
 have hv24:validNr n=true/\plainNm m=true:=⟨by cases h:validNr n;exact qp (.inl (.inl h)) h24;rfl,by cases h:plainNm m;exact qp (.inl (.inr h)) h24;rfl⟩
 refine xL λb6=>?_;refine xN λ_=>?_;iterate 4 refine zW ?_
 refine jbq [2,3,4,6,29,30] [.box b2 _ _,.box b3 _ _,.box b4 _ _] (λ(i:Nat)(v:Value)(q:List Nmn)(g:Bool) r=>(7,.b g)::(31,.i (i:Int))::r) (λi v q g r=>.box b6 126 [.i n.node,.i n.slot,.i n.round,.i n.seq,.i n.t.th,.sl 1 (n.t.nodes.map .i),.sl 3 (avs n.t.inner),.v (.string n.own),.sl 1 (n.votes.map strv),.sl 1 (n.accs.map strv),.sl 1 (n.confs.map strv),.v v]::.arr v 51 7 (q.map nmv)::r) (λi v q g=>i<=n.heard.length/\q.length<=2 * i/\insGo m (n.heard.drop i) g q=insN n m) (λi v q g=>n.heard.length - i) (0) (.slice none 0 0) ([]) (false) zRc ⟨by omega,by simp,rfl⟩ ((jaF 51 7 rfl).trans (zWk)) ?_;intro i v q g ⟨hi,hql,hI⟩;have hqm:(q.map nmv).length=q.length:=by simp
 refine xC ?_ ?_<;>intro hc
 ·(
 have hlt:=qc hc;obtain⟨x,hx,hd⟩:=jab (l:=n.heard) (k:=i) zo;have hx':=jad nmv hx;refine xL λb9=>?_;refine xC ?_ ?_<;>intro hc
 ·(
 have h39:x.node=m.node:=qc hc;refine xC ?_ ?_<;>intro hc
 ·(
 have h44:x.seq>=m.seq:=qc hc;iterate 2 refine zW ?_
 refine zP (AP.up (jaj zKr rfl zRc jay) (d':=nrv zeroN) xUp) ?_;iterate 12 refine zW ?_
 rw[hd] at hI;simp only[insGo] at hI;rw[qf h39,qf h44] at hI;refine zPi ?_
 unfold hearN;rw[qe h24,<-hI];rfl)
 ·(
 have h44:¬x.seq>=m.seq:=qd hc;have mk44f:True:=trivial;iterate 11 refine zW ?_
 rw[hd] at hI;simp only[insGo] at hI
 rw[qf h39,qe h44] at hI;refine⟨i+1,v,q,g,⟨by omega,by omega,hI⟩,by omega,zWk⟩))
 ·(
 have h39:¬x.node=m.node:=qd hc;iterate 11 refine zW ?_
 iterate 3 all_goals first | refine zW ?_ | refine xG ?_ ?_<;>intro hg
 all_goals (
 refine xC ?_ ?_<;>intro hc
 ·(
 first
 | (exact xQ hc)
 |(
 have h54:(decide (x.node>m.node)&&!g)=true:=by first | (simp_all;done) | grind
 have mk54t:True:=trivial;iterate 4 refine zW ?_
 refine xLt 51 7 120 ?_;refine xEa 51 7 120 (hb:=xLb) λv59 hv59=>?_;iterate 9 refine zW ?_
 refine xLt 51 7 120 ?_;refine xEa 51 7 120 (hb:=xLb) λv65 hv65=>?_;iterate 10 refine zW ?_
 rw[hd] at hI;simp only[insGo] at hI
 rw[qe h39,qf h54] at hI;rw[show D.agg [.i m.node,.i m.seq,.i m.t.th,.sl 1 (m.t.nodes.map .i),.sl 3 (avs m.t.inner),.sl 1 (m.votes.map strv),.sl 1 (m.accs.map strv)]=nmv m from rfl,show D.agg [.i x.node,.i x.seq,.i x.t.th,.sl 1 (x.t.nodes.map .i),.sl 3 (avs x.t.inner),.sl 1 (x.votes.map strv),.sl 1 (x.accs.map strv)]=nmv x from rfl,jd8,jd8];refine⟨i+1,_,(q++[m])++[x],true,⟨by omega,by simp;omega,hI⟩,by omega,zWk⟩))
 ·(
 first
 | (exact xQ hc)
 |(
 have h54:¬(decide (x.node>m.node)&&!g)=true:=by first | (simp_all;done) | grind
 have mk54f:True:=trivial;iterate 6 refine zW ?_
 refine xLt 51 7 120 ?_;refine xEa 51 7 120 (hb:=xLb) λv65 hv65=>?_;iterate 10 refine zW ?_
 rw[hd] at hI;simp only[insGo] at hI
 first
 | (have:=mk54f;rw[qe h39,qe h54] at hI;rw[show D.agg [.i x.node,.i x.seq,.i x.t.th,.sl 1 (x.t.nodes.map .i),.sl 3 (avs x.t.inner),.sl 1 (x.votes.map strv),.sl 1 (x.accs.map strv)]=nmv x from rfl,jd8];refine⟨i+1,_,q++[x],g,⟨by omega,by simp;omega,hI⟩,by omega,zWk⟩))))))
 ·(
 have hge:=qd hc;rw[jae zo] at hI;refine xC ?_ ?_<;>intro hc
 rotate_left
 case' _ =>(
 have h69:g=true:=jav hc;have mk69f:True:=trivial
 refine zW ?_)
 rotate_right
 case' _ =>(
 have h69:g=false:=jaw hc;have mk69t:True:=trivial;iterate 4 refine zW ?_
 refine xLt 51 7 120 ?_;refine xEa 51 7 120 (hb:=xLb) λv74 hv74=>?_
 iterate 3 refine zW ?_)
 all_goals (
 iterate 2 refine zW ?_
 first
 | (have:=mk69t;have hq9:insN n m=some (q++[m]):=(by cases h69;exact hI.symm);rw[show D.agg [.i m.node,.i m.seq,.i m.t.th,.sl 1 (m.t.nodes.map .i),.sl 3 (avs m.t.inner),.sl 1 (m.votes.map strv),.sl 1 (m.accs.map strv)]=nmv m from rfl,jd8];obtain⟨h9,hh9⟩:∃h9,h9=q++[m]:=⟨_,rfl⟩;rw[<-hh9];rw[<-hh9] at hq9;refine zFz v74 [2,4,6] ?_)
 | (have:=mk69f;have hq9:insN n m=some q:=(by cases h69;exact hI.symm);obtain⟨h9,hh9⟩:∃h9,h9=q:=⟨_,rfl⟩;rw[<-hh9];rw[<-hh9] at hq9;refine zFz v [2,4,6] ?_)
 refine xA (jde n { n with heard:=h9 } hN.nb (jsN hN hv24.1 hv24.2 hms hq9) hN.seq) ?_;refine xP ?_
 unfold hearN;rw[qe h24,hq9];rfl)))))
def slv(s:Slt):D:=.agg [.i s.nom.node,.i s.nom.slot,.i s.nom.round,.i s.nom.seq,.i s.nom.t.th,.sl 1 (s.nom.t.nodes.map .i),.sl 3 (avs s.nom.t.inner),.v (.string s.nom.own),.sl 1 (s.nom.votes.map strv),.sl 1 (s.nom.accs.map strv),.sl 1 (s.nom.confs.map strv),.sl 7 (s.nom.heard.map nmv),.i s.mach.node,.i s.mach.slot,.i s.mach.seq,.i s.mach.t.th,.sl 1 (s.mach.t.nodes.map .i),.sl 3 (avs s.mach.t.inner),.i s.mach.phase,.i s.mach.bal.n,.v (.string s.mach.bal.v),.i s.mach.prep.n,.v (.string s.mach.prep.v),.i s.mach.prime.n,.v (.string s.mach.prime.v),.i s.mach.conf.n,.v (.string s.mach.conf.v),.i s.mach.low,.i s.mach.high,.v (.string s.mach.prop),.sl 15 (s.mach.heard.map ev),.i s.tm.n,.i s.tm.due,.i s.round,.i s.next,.b s.done,.v (.string s.value)]
def ltv(l:Ltr):D:=.agg [.i l.kind,.i l.slot,.i l.nom.node,.i l.nom.seq,.i l.nom.t.th,.sl 1 (l.nom.t.nodes.map .i),.sl 3 (avs l.nom.t.inner),.sl 1 (l.nom.votes.map strv),.sl 1 (l.nom.accs.map strv),.i l.env.node,.i l.env.slot,.i l.env.seq,.i l.env.t.th,.sl 1 (l.env.t.nodes.map .i),.sl 3 (avs l.env.t.inner),.i l.env.kind,.i l.env.bal.n,.v (.string l.env.bal.v),.i l.env.prep.n,.v (.string l.env.prep.v),.i l.env.prime.n,.v (.string l.env.prime.v),.i l.env.low,.i l.env.high]
theorem jbs(s:Slt)(hS:SI s):C0 148 [slv s] (slv (setS s)):=by
 refine xI Tryz.func148 Tryz.call148 λhcap=>?_;have hSn:=hS.nom;have hSm:=hS.mach;have hSr:=hS.round;have hcc:=hSn.nb.c;have hsz1:=hSm.inv.sz;have hhs9:∀e∈s.mach.heard,sizeT e.t<=1000000000:=λe he=>by have:=(hSm.inv.hs e he).1;omega
 refine xX λb1=>?_;refine zAl λb2=>?_;refine xA (jrZ s.nom.confs zo) ?_;iterate 11 refine zW ?_
 iterate 9 all_goals first | refine zW ?_ | refine xG ?_ ?_<;>intro hg
 all_goals first | (refine zY ?_;refine jaa zRc (jaM s.mach.conf) rfl rfl ?_) | refine zSk ?_
 iterate 8 all_goals first | refine zW ?_ | refine xG ?_ ?_<;>intro hg
 all_goals (
 refine xC ?_ ?_<;>intro hc
 ·(
 first
 | (exact xQ hc)
 |(
 have h33:wantS s=true:=by unfold wantS;first | (simp_all;done) | grind
 refine xB (jfK s.mach hSm (compN s.nom.confs).1) ?_;rintro _ _ ⟨rfl,rfl⟩;obtain⟨p,hp⟩:∃z9,z9=propV s.mach (compN s.nom.confs).1:=⟨_,rfl⟩;rw[<-hp];refine xL λb5=>?_;refine xC ?_ ?_<;>intro hc
 rotate_left
 case' _ =>(
 have h42:¬p.2=0:=qd hc;have hm9:setM s=s.mach:=by unfold setM;rw[qe (λh=>h42 (by rw[hp];exact h.2))]
 refine zW ?_)
 rotate_right
 case' _ =>(
 have h42:p.2=0:=qc hc;have hm9:setM s=p.1:=by unfold setM;rw[qf ⟨h33,by rw[<-hp];exact h42⟩,<-hp]
 iterate 5 refine zW ?_)
 all_goals (
 iterate 5 refine zW ?_
 first | ((refine jas zRc (jbU p.1 (by have:=((hp ▸ jcf hSm (hp ▸ h42):InvS p.1)).inv.sz;omega) (λe he=>by have:=(((hp ▸ jcf hSm (hp ▸ h42):InvS p.1)).inv.hs e he).1;omega)) jaE rfl rfl ?_;rintro _ _ ⟨rfl,rfl⟩;obtain⟨d,hd⟩:∃z9,z9=dcdV p.1:=⟨_,rfl⟩;rw[<-hd])) | ((refine jas zRc (jbU s.mach (by have:=(hSm).inv.sz;omega) (λe he=>by have:=((hSm).inv.hs e he).1;omega)) jaE rfl rfl ?_;rintro _ _ ⟨rfl,rfl⟩;obtain⟨d,hd⟩:∃z9,z9=dcdV s.mach:=⟨_,rfl⟩;rw[<-hd]))
 refine xP ?_
 unfold setS;rw[hm9,<-hd];rfl)))
 ·(
 first
 | (exact xQ hc)
 |(
 have h33:wantS s=false:=by unfold wantS;first | (simp_all;done) | grind
 have hm9:setM s=s.mach:=by unfold setM;rw[qe (λh=>by rw[h33] at h;cases h.1)]
 iterate 6 refine zW ?_
 first | ((refine jas zRc (jbU p.1 (by have:=((hp ▸ jcf hSm (hp ▸ h42):InvS p.1)).inv.sz;omega) (λe he=>by have:=(((hp ▸ jcf hSm (hp ▸ h42):InvS p.1)).inv.hs e he).1;omega)) jaE rfl rfl ?_;rintro _ _ ⟨rfl,rfl⟩;obtain⟨d,hd⟩:∃z9,z9=dcdV p.1:=⟨_,rfl⟩;rw[<-hd])) | ((refine jas zRc (jbU s.mach (by have:=(hSm).inv.sz;omega) (λe he=>by have:=((hSm).inv.hs e he).1;omega)) jaE rfl rfl ?_;rintro _ _ ⟨rfl,rfl⟩;obtain⟨d,hd⟩:∃z9,z9=dcdV s.mach:=⟨_,rfl⟩;rw[<-hd]))
 refine xP ?_
 unfold setS;rw[hm9,<-hd];rfl)))
theorem jyZ{node number:Int}{t:Trust}{own:Str}{now:Int}{p:Mach × Int}{q:Nmr × Int}(ht:sizeT t<=100000)(hp:p=newV node number t)(hq:q=startN node number t own)(h1:p.2=0)(h2:q.2=0):SI ⟨q.1,p.1,⟨0,-1⟩,1,now+waitV 1,false,noS⟩ :=
 ⟨hq ▸ jkv ht (hq ▸ h2),hp ▸ jgh ht (hp ▸ h1),by show (0:Int)<=1/\(1:Int)<=2000;omega⟩
theorem jqd(node number:Int)(t:Trust)(ht:sizeT t<=100000)(own:Str)(now:Int):C0 146 [.i node,.i number,av t,.v (.string own),.i now] (.tup [slv (newS node number t own now).1,.i (newS node number t own now).2]):=by
 refine xI Tryz.func146 Tryz.call146 λhcap=>?_;have hw9:=jm0 1;refine xX λb7=>?_;refine zAl λb10=>?_;iterate 9 refine zW ?_
 iterate 3 all_goals first | refine zW ?_ | refine xG ?_ ?_<;>intro hg
 all_goals (
 refine xC ?_ ?_<;>intro hc
 ·(
 first
 | (exact xQ hc)
 |(
 have h20:now<0\/now>200:=by first | exact .inl (qc hg) | exact .inr (qc hc)
 iterate 2 refine zW ?_
 refine zP (AP.up (jaj zKr rfl zRc jay) (d':=slv zSlt) xUp) ?_;refine xP ?_
 unfold newS;rw[qf h20];rfl))
 ·(
 first
 | (exact xQ hc)
 |(
 have h20:¬(now<0\/now>200):=by rintro(h | h);exact qd hg h;exact qd hc h
 refine xB (jvO node number t zo) ?_;rintro _ _ ⟨rfl,rfl⟩;obtain⟨p,hp⟩:∃z9,z9=newV node number t:=⟨_,rfl⟩;rw[<-hp];refine xL λb12=>?_;refine xC ?_ ?_<;>intro hc
 ·(
 have h30:¬p.2=0:=jaf hc;iterate 2 refine zW ?_
 refine zP (AP.up (jaj zKr rfl zRc jay) (d':=slv zSlt) xUp) ?_;refine xP ?_
 unfold newS;rw[qe h20,<-hp,qf h30];rfl)
 ·(
 have h30:p.2=0:=jac hc;refine xB (jpA node number t ht own) ?_;rintro _ _ ⟨rfl,rfl⟩;obtain⟨q,hq⟩:∃z9,z9=startN node number t own:=⟨_,rfl⟩;rw[<-hq];refine xL λb14=>?_;refine xC ?_ ?_<;>intro hc
 ·(
 have h42:¬q.2=0:=jaf hc;iterate 2 refine zW ?_
 refine zP (AP.up (jaj zKr rfl zRc jay) (d':=slv zSlt) xUp) ?_;refine xP ?_
 unfold newS;rw[qe h20,<-hp,qe (λh=>h h30),<-hq,qf h42];rfl)
 ·(
 have h42:q.2=0:=jac hc;iterate 3 refine zW ?_
 refine zDr [.box b10 _ _] ?_;refine zT 0 ?_;refine zT 1 ?_;refine zT 2 ?_;refine zT 3 ?_;refine zOn 4 ?_;refine xA (jgS 1 zo) ?_;refine zW ?_;refine zT 5 ?_;refine jam 6 rfl zGd zKr zKr zKr (AP.ar (AP.up (jaj zKr rfl zRc jay) (d':=slv ⟨q.1,p.1,⟨0,-1⟩,1,now+waitV 1,false,noS⟩) xUp)) rfl rfl ?_;refine zOn 7 ?_;refine xA (jbs ⟨q.1,p.1,⟨0,-1⟩,1,now+waitV 1,false,noS⟩ (jyZ ht hp hq h30 h42)) ?_;refine zW ?_;refine zOn 8 ?_;iterate 2 refine zW ?_
 refine zT 9 ?_;refine zW ?_
 all_goals (
 refine xP ?_
 unfold newS;rw[qe h20,<-hp,qe (λh=>h h30),<-hq,qe (λh=>h h42)];rfl))))))
theorem jbG(s:Slt)(hS:SI s):C0 139 [slv s] (.b (checkS s)):=by
 refine xI Tryz.func139 Tryz.call139 λhcap=>?_;have hSn:=hS.nom;have hSm:=hS.mach;have hSr:=hS.round;have hcc:=hSn.nb.c;have hsz1:=hSm.inv.sz;have hhs9:∀e∈s.mach.heard,sizeT e.t<=1000000000:=λe he=>by have:=(hSm.inv.hs e he).1;omega
 refine xX λb1=>?_;refine xA (jc3 s.mach zo hhs9) ?_;iterate 2 refine zW ?_
 iterate 2 all_goals first | refine zW ?_ | refine xG ?_ ?_<;>intro hg
 all_goals first | (refine zY ?_;refine jaa zRc (jfs s.nom hSn.nb) rfl rfl ?_) | refine zSk ?_
 iterate 27 all_goals first | refine zW ?_ | refine xG ?_ ?_<;>intro hg
 all_goals first | (refine zY ?_;refine jaa zRc (jcd s.nom.t s.mach.t) rfl rfl ?_) | refine zSk ?_
 iterate 5 all_goals first | refine zW ?_ | refine xG ?_ ?_<;>intro hg
 all_goals first | (refine zY ?_;refine jaa zRc (jgV s.tm) rfl rfl ?_) | refine zSk ?_
 iterate 2 all_goals refine zW ?_
 all_goals (
 refine xC ?_ ?_<;>intro hc
 ·(
 first
 | (exact xQ hc)
 |(
 have h48:chk1S s=false:=by unfold chk1S;first | (simp_all;done) | grind
 refine xP ?_
 unfold checkS;rw[h48];rfl))
 ·(
 first
 | (exact xQ hc)
 |(
 have h48:chk1S s=true:=by unfold chk1S;first | (simp_all;done) | grind
 refine xB (jbU s.mach (by have:=(hSm).inv.sz;omega) (λe he=>by have:=((hSm).inv.hs e he).1;omega)) ?_;rintro _ _ ⟨rfl,rfl⟩;obtain⟨d,hd⟩:∃z9,z9=dcdV s.mach:=⟨_,rfl⟩;rw[<-hd];iterate 13 refine zW ?_
 iterate 27 all_goals first | refine zW ?_ | refine xG ?_ ?_<;>intro hg
 all_goals (
 refine xP ?_
 unfold checkS;rw[h48,qx];unfold chk2S;rw[<-hd];first | (simp only[resD, *,qx,qy,Bool.and_true,qB];done) | (simp_all[resD];done) | grind[resD]))))
theorem jd4(s:Slt)(hS:SI s)(m:Nmn)(hm:MB m):C0 141 [slv s,nmv m] (.tup [slv (nomS s m).1,.i (nomS s m).2]):=by
 refine xI Tryz.func141 Tryz.call141 λhcap=>?_;have hSn:=hS.nom;have hSm:=hS.mach;have hSr:=hS.round;have hcc:=hSn.nb.c;have hsz1:=hSm.inv.sz;have hhs9:∀e∈s.mach.heard,sizeT e.t<=1000000000:=λe he=>by have:=(hSm.inv.hs e he).1;omega
 refine xX λb2=>?_;refine zBx λb3=>?_;refine zAl λb4=>?_;refine xA (jbG s hS) ?_;refine xC ?_ ?_<;>intro hc
 ·(
 have h10:checkS s=false:=jaw hc;iterate 2 refine zW ?_
 refine zP (AP.up (jaj zKr rfl zRc jay) (d':=slv zSlt) xUp) ?_;refine xP ?_
 unfold nomS;rw[qf h10];rfl)
 ·(
 have h10:checkS s=true:=jav hc;refine xB (jrg s.nom hSn m hm) ?_;rintro _ _ ⟨rfl,rfl⟩;obtain⟨p,hp⟩:∃z9,z9=hearN s.nom m:=⟨_,rfl⟩;rw[<-hp];refine xL λb6=>?_;refine xC ?_ ?_<;>intro hc
 ·(
 have h20:¬p.2=0:=jaf hc;iterate 2 refine zW ?_
 refine zP (AP.up (jaj zKr rfl zRc jay) (d':=slv zSlt) xUp) ?_;refine xP ?_
 unfold nomS;rw[qe (by rw[h10];decide),<-hp,qf h20];rfl)
 ·(
 have h20:p.2=0:=jac hc;refine xA (jbs { s with nom:=p.1 } ⟨hp ▸ jnj hSn hm.sz (hp ▸ h20),hSm,hSr⟩) ?_;refine xP ?_
 unfold nomS;rw[qe (by rw[h10];decide),<-hp,qe (λh=>h h20)];rfl))
theorem je5(s:Slt)(hS:SI s)(e:Evp)(he:sizeT e.t<=100000):C0 142 [slv s,ev e] (.tup [slv (balS s e).1,.i (balS s e).2]):=by
 refine xI Tryz.func142 Tryz.call142 λhcap=>?_;have hSn:=hS.nom;have hSm:=hS.mach;have hSr:=hS.round;have hcc:=hSn.nb.c;have hsz1:=hSm.inv.sz;have hhs9:∀e∈s.mach.heard,sizeT e.t<=1000000000:=λe he=>by have:=(hSm.inv.hs e he).1;omega
 refine xX λb2=>?_;refine zBx λb3=>?_;refine zAl λb4=>?_;refine xA (jbG s hS) ?_;refine xC ?_ ?_<;>intro hc
 ·(
 have h10:checkS s=false:=jaw hc;iterate 2 refine zW ?_
 refine zP (AP.up (jaj zKr rfl zRc jay) (d':=slv zSlt) xUp) ?_;refine xP ?_
 unfold balS;rw[qf h10];rfl)
 ·(
 have h10:checkS s=true:=jav hc;refine xB (jla s.mach hSm e he) ?_;rintro _ _ ⟨rfl,rfl⟩;obtain⟨p,hp⟩:∃z9,z9=recV s.mach e:=⟨_,rfl⟩;rw[<-hp];refine xL λb6=>?_;refine xC ?_ ?_<;>intro hc
 ·(
 have h20:¬p.2=0:=jaf hc;iterate 2 refine zW ?_
 refine zP (AP.up (jaj zKr rfl zRc jay) (d':=slv zSlt) xUp) ?_;refine xP ?_
 unfold balS;rw[qe (by rw[h10];decide),<-hp,qf h20];rfl)
 ·(
 have h20:p.2=0:=jac hc;refine xA (jbs { s with mach:=p.1 } ⟨hSn,hp ▸ job hSm he (hp ▸ h20),hSr⟩) ?_;refine xP ?_
 unfold balS;rw[qe (by rw[h10];decide),<-hp,qe (λh=>h h20)];rfl))
theorem jjt(s:Slt)(hS:SI s)(v:Str):C0 112 [slv s,.v (.string v)] (.tup [slv (prefS' s v).1,.i (prefS' s v).2]):=by
 refine xI Tryz.func112 Tryz.call112 λhcap=>?_;have hSn:=hS.nom;have hSm:=hS.mach;have hSr:=hS.round;have hcc:=hSn.nb.c;have hsz1:=hSm.inv.sz;have hhs9:∀e∈s.mach.heard,sizeT e.t<=1000000000:=λe he=>by have:=(hSm.inv.hs e he).1;omega
 refine xX λb2=>?_;refine zAl λb4=>?_;refine xA (jbG s hS) ?_;refine xC ?_ ?_<;>intro hc
 ·(
 have h10:checkS s=false:=jaw hc;iterate 2 refine zW ?_
 refine zP (AP.up (jaj zKr rfl zRc jay) (d':=slv zSlt) xUp) ?_;refine xP ?_
 unfold prefS';rw[qf h10];rfl)
 ·(
 have h10:checkS s=true:=jav hc;refine xB (jfK s.mach hSm v) ?_;rintro _ _ ⟨rfl,rfl⟩;obtain⟨p,hp⟩:∃z9,z9=propV s.mach v:=⟨_,rfl⟩;rw[<-hp];refine xL λb6=>?_;refine xC ?_ ?_<;>intro hc
 ·(
 have h20:¬p.2=0:=jaf hc;iterate 2 refine zW ?_
 refine zP (AP.up (jaj zKr rfl zRc jay) (d':=slv zSlt) xUp) ?_;refine xP ?_
 unfold prefS';rw[qe (by rw[h10];decide),<-hp,qf h20];rfl)
 ·(
 have h20:p.2=0:=jac hc;refine xA (jbs { s with mach:=p.1 } ⟨hSn,hp ▸ jcf hSm (hp ▸ h20),hSr⟩) ?_;refine xP ?_
 unfold prefS';rw[qe (by rw[h10];decide),<-hp,qe (λh=>h h20)];rfl))
theorem jy2(h:SI s)(hn:NI n){r k:Int}(hr:0<=r/\r<=2000):SI { s with nom:=n,round:=r,next:=k }:=⟨hn,h.mach,hr⟩
theorem jzM(h:SI s){m:Mach}(hm:InvS m){t:Tm}:SI { s with tm:=t,mach:=m }:=⟨h.nom,hm,h.round⟩
theorem jkH(s:Slt)(hS:SI s)(now:Int)(r:Slt × Int)(hr0:tickSl s now=r):C0 143 [slv s,.i now] (.tup [slv r.1,.i r.2]):=by
 refine xI Tryz.func143 Tryz.call143 λhcap=>?_;have hSn:=hS.nom;have hSm:=hS.mach;have hSr:=hS.round;have hcc:=hSn.nb.c;have hsz1:=hSm.inv.sz;have hhs9:∀e∈s.mach.heard,sizeT e.t<=1000000000:=λe he=>by have:=(hSm.inv.hs e he).1;omega
 have hwb:=jm0 (min (s.round+1) 1000);refine xX λb2=>?_;refine zAl λb4=>?_;refine xA (jbG s hS) ?_;refine xC ?_ ?_<;>intro hc
 ·(
 have h10:checkS s=false:=jaw hc;iterate 2 refine zW ?_
 refine zP (AP.up (jaj zKr rfl zRc jay) (d':=slv zSlt) xUp) ?_;refine xP ?_
 rw[<-hr0];unfold tickSl;rw[qf h10];rfl)
 ·(
 have h10:checkS s=true:=jav hc;iterate 8 refine zW ?_
 iterate 3 all_goals first | refine zW ?_ | refine xG ?_ ?_<;>intro hg
 all_goals (
 refine xC ?_ ?_<;>intro hc
 ·(
 first
 | (exact xQ hc)
 |(
 have h21:now<0\/now>200:=by first | exact .inl (qc hg) | exact .inr (qc hc)
 iterate 2 refine zW ?_
 refine zP (AP.up (jaj zKr rfl zRc jay) (d':=slv zSlt) xUp) ?_;refine xP ?_
 rw[<-hr0];unfold tickSl;rw[qe (by rw[h10];decide),qf h21];rfl))
 ·(
 first
 | (exact xQ hc)
 |(
 have h21:¬(now<0\/now>200):=by rintro(h | h);exact qd hg h;exact qd hc h
 refine xN λ_=>?_;iterate 2 refine zW ?_
 iterate 5 all_goals first | refine zW ?_ | refine xG ?_ ?_<;>intro hg
 all_goals (
 refine xC ?_ ?_<;>intro hc
 rotate_left
 case' _ =>(
 first
 | (exact xQ hc)
 |(
 have h33:¬(s.nom.confs.length=0/\now>=s.next):=by rintro⟨h1,h2⟩;have h3:(s.nom.confs.map strv).length=s.nom.confs.length:=(by simp);first | exact qd hc h2 | exact qd hg zo
 obtain⟨s1,hs1⟩:∃x,x=s:=⟨_,rfl⟩
 have hk1:s1=tk1 s now:=by rw[hs1];unfold tk1;rw[qe h33]
 rw[<-hs1]
 refine zW ?_))
 rotate_right
 case' _ =>(
 first
 | (exact xQ hc)
 |(
 have h33:s.nom.confs.length=0/\now>=s.next:=by have h1:=qc hg;have h2:=qc hc;have h3:(s.nom.confs.map strv).length=s.nom.confs.length:=(by simp);omega
 refine xB (jty s.nom hSn) ?_;rintro _ _ ⟨rfl,rfl⟩;obtain⟨p,hp⟩:∃z9,z9=tickN s.nom:=⟨_,rfl⟩;rw[<-hp];refine xL λb6=>?_;refine xC ?_ ?_<;>intro hc
 rotate_left
 case' _ =>(
 have h41:¬p.2=0:=qd hc;have hn9:tkN s=s.nom:=by unfold tkN;rw[<-hp,qe h41]
 refine zW ?_)
 rotate_right
 case' _ =>(
 have h41:p.2=0:=qc hc;have hn9:tkN s=p.1:=by unfold tkN;rw[<-hp,qf h41]
 iterate 5 refine zW ?_)
 all_goals (
 refine xA (jgS (min (s.round+1) 1000) zo) ?_;iterate 7 refine zW ?_
 first | ((refine jas zRc (jbs { s with nom:=p.1,round:=min (s.round+1) 1000,next:=now+waitV (min (s.round+1) 1000) } (jy2 hS (hp ▸ jor hSn (hp ▸ h41)) zo)) jaE rfl rfl ?_;rintro _ _ ⟨rfl,rfl⟩;obtain⟨s1,hs1⟩:∃x,x=setS { s with nom:=p.1,round:=min (s.round+1) 1000,next:=now+waitV (min (s.round+1) 1000) }:=⟨_,rfl⟩;rw[<-hs1];have hk1:s1=tk1 s now:=by rw[hs1];unfold tk1;rw[qf h33,hn9])) | ((refine jas zRc (jbs { s with nom:=s.nom,round:=min (s.round+1) 1000,next:=now+waitV (min (s.round+1) 1000) } (jy2 hS hSn zo)) jaE rfl rfl ?_;rintro _ _ ⟨rfl,rfl⟩;obtain⟨s1,hs1⟩:∃x,x=setS { s with nom:=s.nom,round:=min (s.round+1) 1000,next:=now+waitV (min (s.round+1) 1000) }:=⟨_,rfl⟩;rw[<-hs1];have hk1:s1=tk1 s now:=by rw[hs1];unfold tk1;rw[qf h33,hn9]))
 iterate 2 refine zW ?_)))
 all_goals (
 have hS1:SI s1:=hk1 ▸ jv8 hS;refine xB (jpF s1.tm s1.mach now (by have:=hS1.mach.inv.hl;omega) (by have:=hS1.mach.inv.sz;omega) (λe he=>by have:=(hS1.mach.inv.hs e he).1;omega)) ?_;rintro _ _ ⟨rfl,rfl⟩;obtain⟨p2,hp2⟩:∃z9,z9=stepV s1.tm s1.mach now:=⟨_,rfl⟩;rw[<-hp2];refine xL λb8=>?_;refine xC ?_ ?_<;>intro hc
 rotate_left
 case' _ =>(
 have h68:p2.2=false:=hc;have hk2:{ s1 with tm:=p2.1 }=tk2 s1 now:=by unfold tk2;rw[<-hp2,qe (by rw[h68];decide)]
 refine zW ?_)
 rotate_right
 case' _ =>(
 have h68:p2.2=true:=hc;refine xB (jlt s1.mach hS1.mach) ?_;rintro _ _ ⟨rfl,rfl⟩;obtain⟨p3,hp3⟩:∃z9,z9=tmoV s1.mach:=⟨_,rfl⟩;rw[<-hp3];refine xL λb10=>?_;refine xC ?_ ?_<;>intro hc
 rotate_left
 case' _ =>(
 have h76:¬p3.2=0:=qd hc;have hm9:tkM s1.mach=s1.mach:=by unfold tkM;rw[<-hp3,qe h76]
 refine zW ?_)
 rotate_right
 case' _ =>(
 have h76:p3.2=0:=qc hc;have hm9:tkM s1.mach=p3.1:=by unfold tkM;rw[<-hp3,qf h76]
 iterate 5 refine zW ?_)
 all_goals (
 iterate 3 refine zW ?_
 first | ((refine jas zRc (jbs { s1 with tm:=p2.1,mach:=p3.1 } (jzM hS1 (hp3 ▸ jnm hS1.mach (hp3 ▸ h76)))) jaE rfl rfl ?_;rintro _ _ ⟨rfl,rfl⟩;obtain⟨s2,hs2⟩:∃x,x=setS { s1 with tm:=p2.1,mach:=p3.1 }:=⟨_,rfl⟩;rw[<-hs2];have hk2:s2=tk2 s1 now:=by rw[hs2];unfold tk2;rw[<-hp2,qf h68,hm9])) | ((refine jas zRc (jbs { s1 with tm:=p2.1,mach:=s1.mach } (jzM hS1 hS1.mach)) jaE rfl rfl ?_;rintro _ _ ⟨rfl,rfl⟩;obtain⟨s2,hs2⟩:∃x,x=setS { s1 with tm:=p2.1,mach:=s1.mach }:=⟨_,rfl⟩;rw[<-hs2];have hk2:s2=tk2 s1 now:=by rw[hs2];unfold tk2;rw[<-hp2,qf h68,hm9]))
 iterate 2 refine zW ?_))
 all_goals (
 refine xP ?_
 rw[<-hr0];unfold tickSl;rw[qe (by rw[h10];decide),qe h21,<-hk1,<-hk2];rfl)))))))
theorem jmT(s:Slt)(hS:SI s)(now:Int):Con none Tryz.prog 143 [slv s,.i now] [] (Is (.tup [slv (tickSl s now).1,.i (tickSl s now).2]) []):=jkH s hS now _ rfl
theorem jwb{e:Evp}{b:Bool}(he:e=mesM s.mach)(hb:b=okMsg s.mach)(h:b=true):ltrE s=[⟨2,s.mach.slot,zNmn,e⟩]:=by
 rw[h] at hb;have hb':(!zB s.mach.bal&&checkM s.mach)=true:=hb.symm;unfold ltrE;rw[qf (by rw[Bool.and_comm];exact hb'),he];unfold mesM;rw[qf hb.symm]
theorem jwo{b:Bool}(hb:b=okMsg s.mach)(h:b=false):ltrE s=[]:=by
 rw[h] at hb;have hb':(!zB s.mach.bal&&checkM s.mach)=false:=hb.symm;unfold ltrE;rw[qe (by rw[Bool.and_comm,hb'];decide)]
theorem jhL(s:Slt)(hS:SI s):C0 144 [slv s] (.sl 24 ((lettersS s).map ltv)):=by
 refine xI Tryz.func144 Tryz.call144 λhcap=>?_;have hSn:=hS.nom;have hSm:=hS.mach;have hSr:=hS.round;have hcc:=hSn.nb.c;have hsz1:=hSm.inv.sz;have hhs9:∀e∈s.mach.heard,sizeT e.t<=1000000000:=λe he=>by have:=(hSm.inv.hs e he).1;omega
 refine xX λb1=>?_;refine xA (jbG s hS) ?_;refine xC ?_ ?_<;>intro hc
 ·(
 have h8:checkS s=false:=jaw hc;iterate 5 refine zW ?_
 refine jhq 57 24 rfl ?_;refine zFz (.slice none 0 0) [2] ?_;refine xP ?_
 unfold lettersS;rw[qf h8];rfl)
 ·(
 have h8:checkS s=true:=jav hc;refine xC ?_ ?_<;>intro hc
 ·(
 have h11:s.done=false:=jaw hc;refine zDr [] ?_;refine zT 0 ?_;refine zT 1 ?_;refine zT 2 ?_;refine zT 3 ?_;refine zT 4 ?_;refine zT 5 ?_;refine zOn 6 ?_;refine xA (jn2 s.nom) ?_;refine zW ?_;refine jam 7 rfl zGd zKr zKr zKr (AP.ar (AP.up (jaj zKr rfl zRc jay) (d':=ltv ⟨1,s.mach.slot,sayN s.nom,zEvp⟩) xUp)) rfl rfl ?_;refine zOn 8 ?_;refine xLt 57 24 312 ?_;refine zW ?_;refine zOn 9 ?_;refine xEn 57 24 312 (hb:=xLb) λv21 hv21=>?_;refine zW ?_;refine zT 10 ?_;refine zW ?_
 all_goals (
 refine xB (jc9 s.mach zo hhs9) ?_;rintro _ _ ⟨rfl,rfl⟩;obtain⟨e,he⟩:∃x,x=mesM s.mach:=⟨_,rfl⟩;obtain⟨b,hb⟩:∃x,x=okMsg s.mach:=⟨_,rfl⟩;rw[<-he,<-hb];refine xL λb4=>?_;refine xC ?_ ?_<;>intro hc
 ·(
 have h28:b=true:=hc;iterate 6 refine zW ?_
 refine zP (AP.up (jaj zKr rfl zRc jay) (d':=ltv ⟨2,s.mach.slot,zNmn,e⟩) xUp) ?_;refine xLt 57 24 312 ?_;refine xEa 57 24 312 (hb:=xLb) λv36 hv36=>?_;iterate 9 refine zW ?_
 refine zFz v36 [2] ?_;refine xP ?_
 unfold lettersS ltrN;rw[qe (by rw[h8];decide),qe (by rw[h11];decide),jwb he hb h28];rfl)
 ·(
 have h28:b=false:=hc;iterate 8 refine zW ?_
 refine zFz v21 [2] ?_;refine xP ?_
 unfold lettersS ltrN;rw[qe (by rw[h8];decide),qe (by rw[h11];decide),jwo hb h28];rfl)))
 ·(
 have h11:s.done=true:=jav hc;refine xB (jc9 s.mach zo hhs9) ?_;rintro _ _ ⟨rfl,rfl⟩;obtain⟨e,he⟩:∃x,x=mesM s.mach:=⟨_,rfl⟩;obtain⟨b,hb⟩:∃x,x=okMsg s.mach:=⟨_,rfl⟩;rw[<-he,<-hb];refine xL λb4=>?_;refine xC ?_ ?_<;>intro hc
 ·(
 have h28:b=true:=hc;iterate 6 refine zW ?_
 refine zP (AP.up (jaj zKr rfl zRc jay) (d':=ltv ⟨2,s.mach.slot,zNmn,e⟩) xUp) ?_;refine xLt 57 24 312 ?_;refine xEn 57 24 312 (hb:=xLb) λv36 hv36=>?_;iterate 9 refine zW ?_
 refine zFz v36 [2] ?_;refine xP ?_
 unfold lettersS ltrN;rw[qe (by rw[h8];decide),qf h11,jwb he hb h28];rfl)
 ·(
 have h28:b=false:=hc;iterate 8 refine zW ?_
 refine jhq 57 24 rfl ?_;refine zFz (.slice none 0 0) [2] ?_;refine xP ?_
 unfold lettersS ltrN;rw[qe (by rw[h8];decide),qf h11,jwo hb h28];rfl)))
def ptv(p:Ptc):D:=.agg [.i p.node,.b p.stopped,.i p.t.th,.sl 1 (p.t.nodes.map .i),.sl 3 (avs p.t.inner),.sl 37 (p.slots.map slv)]
theorem jo9{p:Ptc}{number:Int}{own:Str}{now:Int}(h:PI p)(hl:p.slots.length<=8):(beginG p number own now).1.slots.length<=20:=by
 by_cases he:(beginG p number own now).2=0
 ·exact(jgw h hl he).hl
 ·(
 have:(beginG p number own now).1=zPtc:=by
  unfold beginG at he ⊢;split
  ·rfl
  ·rename_i h1
   rw[qe h1] at he;split
   ·rfl
   ·rename_i h2
    rw[qe h2] at he;split
    ·rfl
    ·rename_i h3
     rw[qe h3] at he;exact qp rfl he
 rw[this];decide)
theorem jkb(p:Ptc)(number:Int)(hl:p.slots.length<=1000):C0 117 [ptv p,.i number] (.tup [.i (atP p number:Nat),.b (thereP p number)]):=by
 refine xI Tryz.func117 Tryz.call117 λhcap=>?_;have hml:(p.slots.map slv).length=p.slots.length:=by simp
 refine xX λb2=>?_;iterate 11 refine zW ?_
 refine jah [1,2] [.box b2 _ _] (λ(i:Nat) r=>(6,.i (i:Int))::r) (λi r=>r) (λi=>i<=p.slots.length/\posG (ltSl number) (p.slots.drop i)+i=atP p number) (λi=>p.slots.length - i) (0) zRc ⟨by omega,by simp[atP]⟩ (zWk) ?_;intro i ⟨hi,hI⟩;obtain⟨x,hx⟩:=jgB p.slots i zSlt;refine xN λ_=>?_;iterate 2 refine zW ?_
 iterate 3 all_goals first | refine zW ?_ | refine xG ?_ ?_<;>intro hg
 all_goals first | (refine zY ?_;(refine zP (jap (k:=i) rfl rfl rfl rfl zd rfl (jad slv (hx (by have h9:decide ((i:Int)<((p.slots.map slv).length:Int))=true:=(by first | with_reducible assumption | exact hg | exact hc);have:=qc h9;simp only[qw] at this;omega)))) ?_)) | refine zSk ?_
 iterate 6 all_goals refine zW ?_
 all_goals (
 refine xC ?_ ?_<;>intro hc
 ·(
 first
 | (exact xQ hc)
 |(
 iterate 10 refine zW ?_
 have hlt:i<p.slots.length:=(by have h9:decide ((i:Int)<((p.slots.map slv).length:Int))=true:=(by first | with_reducible assumption | exact hg | exact hc);have:=qc h9;simp only[qw] at this;omega)
 rw[jfz (lt:=ltSl number) (hx hlt) (show ltSl number x=true by first | with_reducible assumption | exact hc)] at hI
 refine⟨i+1,⟨by omega,by omega⟩,by omega,zWk⟩))
 ·(
 first
 | (exact xQ hc)
 |(
 have hat:atP p number=i:=by first | (have hge:=(show p.slots.length<=i by have h9:decide ((i:Int)<((p.slots.map slv).length:Int))=false:=(by first | with_reducible assumption | exact hg | exact hc);have:=qd h9;simp only[qw] at this;omega);rw[jdy hge] at hI;omega) | (rw[jcN (lt:=ltSl number) (hx (by have h9:decide ((i:Int)<((p.slots.map slv).length:Int))=true:=(by first | with_reducible assumption | exact hg | exact hc);have:=qc h9;simp only[qw] at this;omega)) (show ltSl number x=false by first | with_reducible assumption | exact hc)] at hI;omega)
 iterate 6 refine zW ?_
 refine zDr [] ?_;refine zT 0 ?_;refine zT 1 ?_;refine zT 2 ?_;refine zT 3 ?_;refine zT 4 ?_;refine zT 5 ?_;refine zT 6 ?_;refine jai 6 rfl (λhg=>?_) λhg=>?_
 rotate_left
 case' _ =>(
 refine zK 7 ?_;refine zK 8 ?_;refine zK 9 ?_;refine zK 10 ?_;refine zK 11 ?_;refine zK 12 ?_;refine zK 13 ?_;refine zK 14 ?_;refine zK 15 ?_;refine zT 16 ?_;refine zT 17 ?_;refine zT 18 ?_
 refine zW ?_)
 rotate_right
 case' _ =>(
 refine zT 7 ?_;refine zT 8 ?_;refine zT 9 ?_;refine jam 10 rfl zGd zKr zKr zKr (AP.ar (jap (k:=i) rfl rfl rfl rfl zd rfl (jad slv (hx (by have h9:decide ((i:Int)<((p.slots.map slv).length:Int))=true:=(by first | with_reducible assumption | exact hg | exact hc);have:=qc h9;simp only[qw] at this;omega))))) rfl rfl ?_;refine zT 11 ?_;refine zT 12 ?_;refine zT 13 ?_;refine zT 14 ?_;refine zT 15 ?_;refine zT 16 ?_;refine zT 17 ?_;refine zT 18 ?_
 refine zW ?_)
 all_goals (
 refine xP ?_;rw[hat]
 first
 | (have hlt:i<p.slots.length:=(by have h9:decide ((i:Int)<((p.slots.map slv).length:Int))=true:=(by first | with_reducible assumption | exact hg | exact hc);have:=qc h9;simp only[qw] at this;omega);rw[show thereP p number=decide (x.mach.slot=number) by unfold thereP;rw[hat,hx hlt]];rfl)
 | (have hge:p.slots.length<=i:=(by have h9:decide ((i:Int)<((p.slots.map slv).length:Int))=false:=(by first | with_reducible assumption | exact hg | exact hc);have:=qd h9;simp only[qw] at this;omega);rw[show thereP p number=false by unfold thereP;rw[hat,List.getElem?_eq_none hge]];rfl)))))
end Go.Proofs.YtgmpjpaekpefdaaGreat
