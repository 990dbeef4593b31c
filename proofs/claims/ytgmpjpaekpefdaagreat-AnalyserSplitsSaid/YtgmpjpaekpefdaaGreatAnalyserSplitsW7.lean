import Derived.Test.YtgmpjpaekpefdaaGreatAnalyserSplitsW6
set_option linter.unusedVariables false
set_option linter.unusedSimpArgs false
set_option maxRecDepth 4000
set_option maxHeartbeats 8000000
namespace Go.Proofs.YtgmpjpaekpefdaaGreat
open Go Go.Av Go.Tq
variable{k i:Nat}{l:List Pcl}{n:Ntw}{x:Slt}{p:Ptc}{y:Pcl}{w:Wld}
theorem jhR(p:Ptc)(hP:PI p)(hl:p.slots.length<=8)(number:Int)(own:Str)(now:Int):C0 110 [ptv p,.i number,.v (.string own),.i now] (.tup [ptv (beginG p number own now).1,.i (beginG p number own now).2]):=by
 refine xI Tryz.func110 Tryz.call110 λhcap=>?_;have hml:(p.slots.map slv).length=p.slots.length:=by simp
 have hsz:=hP.sz;refine xX λb4=>?_;refine zAl λb8=>?_;refine xB (jkb p number zo) ?_;rintro _ _ ⟨rfl,rfl⟩;obtain⟨k,hk⟩:∃x,x=atP p number:=⟨_,rfl⟩;obtain⟨g,hg0⟩:∃x,x=thereP p number:=⟨_,rfl⟩;rw[<-hk,<-hg0];have hkl:k<=p.slots.length:=hk ▸ je9 (ltSl number) p.slots;refine xC ?_ ?_<;>intro hc
 ·(
 have h20:thereP p number=true:=hg0 ▸ hc;iterate 2 refine zW ?_
 refine zP (AP.up (jaj zKr rfl zRc jay) (d':=ptv zPtc) xUp) ?_;refine xP ?_
 unfold beginG;rw[qf h20];rfl)
 ·(
 have h20:thereP p number=false:=hg0 ▸ hc;refine xN λ_=>?_;refine xC ?_ ?_<;>intro hc
 ·(
 have h25:p.slots.length=8:=by have:=qc hc;omega
 iterate 2 refine zW ?_
 refine zP (AP.up (jaj zKr rfl zRc jay) (d':=ptv zPtc) xUp) ?_;refine xP ?_
 unfold beginG;rw[qe (by rw[h20];decide),qf h25];rfl)
 ·(
 have h25:¬p.slots.length=8:=by have:=qd hc;omega
 refine xB (jqd p.node number p.t hsz own now) ?_;rintro _ _ ⟨rfl,rfl⟩;obtain⟨q,hq⟩:∃z9,z9=newS p.node number p.t own now:=⟨_,rfl⟩;rw[<-hq];refine xL λb12=>?_;refine xC ?_ ?_<;>intro hc
 ·(
 have h39:¬q.2=0:=jaf hc;iterate 2 refine zW ?_
 refine zP (AP.up (jaj zKr rfl zRc jay) (d':=ptv zPtc) xUp) ?_;refine xP ?_
 unfold beginG;rw[qe (by rw[h20];decide),qe h25,<-hq,qf h39];rfl)
 ·(
 have h39:q.2=0:=jac hc;iterate 3 refine zW ?_
 refine zDr [.box b4 _ _] ?_;refine zT 0 ?_;refine zT 2 ?_;refine zT 5 ?_;refine zT 8 ?_;refine zT 10 ?_;refine jdS 1 6 9 zKr (cho rfl zGd ?_) (cho rfl zGd ?_) (cho rfl zGd ?_)
 rotate_left 2
 case' _ =>(
 iterate 2 refine zW ?_
 refine zT 11 ?_;refine zE2 1 6 ?_ ?_
 rotate_left
 case' _ =>(
 refine xLt 133 37 496 ?_;refine zW ?_;refine zOn 1 ?_;iterate 2 refine zW ?_
 refine zT 3 ?_;refine zOn 4 ?_;refine xEn 133 37 496 (hb:=xLb) λv46 hv46=>?_;refine zW ?_;refine zOn 7 ?_;refine xEa 133 37 496 (hb:=xLb) λv49 hv49=>?_;refine zW ?_;refine zOn 12 ?_;refine xEa 133 37 496 (hb:=xLb) λv54 hv54=>?_;refine zW ?_;refine zT 13 ?_;refine zOn 14 ?_
 iterate 3 refine zW ?_)
 rotate_right
 case' _ =>(
 iterate 2 refine zW ?_
 refine zT 3 ?_;refine zE2 4 6 ?_ ?_
 rotate_left
 case' _ =>(
 refine xLt 133 37 496 ?_;refine zW ?_;refine zOn 4 ?_;refine xEn 133 37 496 (hb:=xLb) λv46 hv46=>?_;refine zW ?_;refine zOn 7 ?_;refine xEa 133 37 496 (hb:=xLb) λv49 hv49=>?_;refine zW ?_;refine zOn 12 ?_;refine xEa 133 37 496 (hb:=xLb) λv54 hv54=>?_;refine zW ?_;refine zT 13 ?_;refine zOn 14 ?_
 iterate 3 refine zW ?_)
 rotate_right
 case' _ =>(
 refine xEn 133 37 496 (hb:=xLb) λv46 hv46=>?_;refine zW ?_;refine zOn 6 ?_;refine xLt 133 37 496 ?_;refine zW ?_;refine zOn 7 ?_;refine xEa 133 37 496 (hb:=xLb) λv49 hv49=>?_;refine zW ?_;refine zOn 12 ?_;refine xEa 133 37 496 (hb:=xLb) λv54 hv54=>?_;refine zW ?_;refine zT 13 ?_;refine zOn 14 ?_
 iterate 3 refine zW ?_)))
 rotate_right
 case' _ =>(
 refine xLt 133 37 496 ?_;refine zW ?_;refine zE2 1 9 ?_ ?_
 rotate_left
 case' _ =>(
 iterate 2 refine zW ?_
 refine zT 11 ?_;refine zOn 1 ?_;iterate 2 refine zW ?_
 refine zT 3 ?_;refine zOn 4 ?_;refine xEn 133 37 496 (hb:=xLb) λv46 hv46=>?_;refine zW ?_;refine zOn 7 ?_;refine xEa 133 37 496 (hb:=xLb) λv49 hv49=>?_;refine zW ?_;refine zOn 12 ?_;refine xEa 133 37 496 (hb:=xLb) λv54 hv54=>?_;refine zW ?_;refine zT 13 ?_;refine zOn 14 ?_
 iterate 3 refine zW ?_)
 rotate_right
 case' _ =>(
 iterate 2 refine zW ?_
 refine zT 3 ?_;refine zE2 4 9 ?_ ?_
 rotate_left
 case' _ =>(
 iterate 2 refine zW ?_
 refine zT 11 ?_;refine zOn 4 ?_;refine xEn 133 37 496 (hb:=xLb) λv46 hv46=>?_;refine zW ?_;refine zOn 7 ?_;refine xEa 133 37 496 (hb:=xLb) λv49 hv49=>?_;refine zW ?_;refine zOn 12 ?_;refine xEa 133 37 496 (hb:=xLb) λv54 hv54=>?_;refine zW ?_;refine zT 13 ?_;refine zOn 14 ?_
 iterate 3 refine zW ?_)
 rotate_right
 case' _ =>(
 refine xEn 133 37 496 (hb:=xLb) λv46 hv46=>?_;refine zW ?_;refine zE2 7 9 ?_ ?_
 rotate_left
 case' _ =>(
 iterate 2 refine zW ?_
 refine zT 11 ?_;refine zOn 7 ?_;refine xEa 133 37 496 (hb:=xLb) λv49 hv49=>?_;refine zW ?_;refine zOn 12 ?_;refine xEa 133 37 496 (hb:=xLb) λv54 hv54=>?_;refine zW ?_;refine zT 13 ?_;refine zOn 14 ?_
 iterate 3 refine zW ?_)
 rotate_right
 case' _ =>(
 refine xEa 133 37 496 (hb:=xLb) λv49 hv49=>?_;refine zW ?_;refine zOn 9 ?_;iterate 2 refine zW ?_
 refine zT 11 ?_;refine zOn 12 ?_;refine xEa 133 37 496 (hb:=xLb) λv54 hv54=>?_;refine zW ?_;refine zT 13 ?_;refine zOn 14 ?_
 iterate 3 refine zW ?_))))
 rotate_right
 case' _ =>(
 iterate 2 refine zW ?_
 refine zT 3 ?_;refine jdS 4 6 9 zKr (cho rfl zGd ?_) (cho rfl zGd ?_) (cho rfl zGd ?_)
 rotate_left 2
 case' _ =>(
 iterate 2 refine zW ?_
 refine zT 11 ?_;refine zE2 4 6 ?_ ?_
 rotate_left
 case' _ =>(
 refine xLt 133 37 496 ?_;refine zW ?_;refine zOn 4 ?_;refine xEn 133 37 496 (hb:=xLb) λv46 hv46=>?_;refine zW ?_;refine zOn 7 ?_;refine xEa 133 37 496 (hb:=xLb) λv49 hv49=>?_;refine zW ?_;refine zOn 12 ?_;refine xEa 133 37 496 (hb:=xLb) λv54 hv54=>?_;refine zW ?_;refine zT 13 ?_;refine zOn 14 ?_
 iterate 3 refine zW ?_)
 rotate_right
 case' _ =>(
 refine xEn 133 37 496 (hb:=xLb) λv46 hv46=>?_;refine zW ?_;refine zOn 6 ?_;refine xLt 133 37 496 ?_;refine zW ?_;refine zOn 7 ?_;refine xEa 133 37 496 (hb:=xLb) λv49 hv49=>?_;refine zW ?_;refine zOn 12 ?_;refine xEa 133 37 496 (hb:=xLb) λv54 hv54=>?_;refine zW ?_;refine zT 13 ?_;refine zOn 14 ?_
 iterate 3 refine zW ?_))
 rotate_right
 case' _ =>(
 refine xLt 133 37 496 ?_;refine zW ?_;refine zE2 4 9 ?_ ?_
 rotate_left
 case' _ =>(
 iterate 2 refine zW ?_
 refine zT 11 ?_;refine zOn 4 ?_;refine xEn 133 37 496 (hb:=xLb) λv46 hv46=>?_;refine zW ?_;refine zOn 7 ?_;refine xEa 133 37 496 (hb:=xLb) λv49 hv49=>?_;refine zW ?_;refine zOn 12 ?_;refine xEa 133 37 496 (hb:=xLb) λv54 hv54=>?_;refine zW ?_;refine zT 13 ?_;refine zOn 14 ?_
 iterate 3 refine zW ?_)
 rotate_right
 case' _ =>(
 refine xEn 133 37 496 (hb:=xLb) λv46 hv46=>?_;refine zW ?_;refine zE2 7 9 ?_ ?_
 rotate_left
 case' _ =>(
 iterate 2 refine zW ?_
 refine zT 11 ?_;refine zOn 7 ?_;refine xEa 133 37 496 (hb:=xLb) λv49 hv49=>?_;refine zW ?_;refine zOn 12 ?_;refine xEa 133 37 496 (hb:=xLb) λv54 hv54=>?_;refine zW ?_;refine zT 13 ?_;refine zOn 14 ?_
 iterate 3 refine zW ?_)
 rotate_right
 case' _ =>(
 refine xEa 133 37 496 (hb:=xLb) λv49 hv49=>?_;refine zW ?_;refine zOn 9 ?_;iterate 2 refine zW ?_
 refine zT 11 ?_;refine zOn 12 ?_;refine xEa 133 37 496 (hb:=xLb) λv54 hv54=>?_;refine zW ?_;refine zT 13 ?_;refine zOn 14 ?_
 iterate 3 refine zW ?_)))
 rotate_right
 case' _ =>(
 refine xEn 133 37 496 (hb:=xLb) λv46 hv46=>?_;refine zW ?_;refine zE2 6 9 ?_ ?_
 rotate_left
 case' _ =>(
 iterate 2 refine zW ?_
 refine zT 11 ?_;refine zOn 6 ?_;refine xLt 133 37 496 ?_;refine zW ?_;refine zOn 7 ?_;refine xEa 133 37 496 (hb:=xLb) λv49 hv49=>?_;refine zW ?_;refine zOn 12 ?_;refine xEa 133 37 496 (hb:=xLb) λv54 hv54=>?_;refine zW ?_;refine zT 13 ?_;refine zOn 14 ?_
 iterate 3 refine zW ?_)
 rotate_right
 case' _ =>(
 refine xLt 133 37 496 ?_;refine zW ?_;refine zE2 7 9 ?_ ?_
 rotate_left
 case' _ =>(
 iterate 2 refine zW ?_
 refine zT 11 ?_;refine zOn 7 ?_;refine xEa 133 37 496 (hb:=xLb) λv49 hv49=>?_;refine zW ?_;refine zOn 12 ?_;refine xEa 133 37 496 (hb:=xLb) λv54 hv54=>?_;refine zW ?_;refine zT 13 ?_;refine zOn 14 ?_
 iterate 3 refine zW ?_)
 rotate_right
 case' _ =>(
 refine xEa 133 37 496 (hb:=xLb) λv49 hv49=>?_;refine zW ?_;refine zOn 9 ?_;iterate 2 refine zW ?_
 refine zT 11 ?_;refine zOn 12 ?_;refine xEa 133 37 496 (hb:=xLb) λv54 hv54=>?_;refine zW ?_;refine zT 13 ?_;refine zOn 14 ?_
 iterate 3 refine zW ?_))))
 all_goals (
 iterate 2 refine zW ?_
 rw[show D.agg [.i q.1.nom.node,.i q.1.nom.slot,.i q.1.nom.round,.i q.1.nom.seq,.i q.1.nom.t.th,.sl 1 (q.1.nom.t.nodes.map .i),.sl 3 (avs q.1.nom.t.inner),.v (.string q.1.nom.own),.sl 1 (q.1.nom.votes.map strv),.sl 1 (q.1.nom.accs.map strv),.sl 1 (q.1.nom.confs.map strv),.sl 7 (q.1.nom.heard.map nmv),.i q.1.mach.node,.i q.1.mach.slot,.i q.1.mach.seq,.i q.1.mach.t.th,.sl 1 (q.1.mach.t.nodes.map .i),.sl 3 (avs q.1.mach.t.inner),.i q.1.mach.phase,.i q.1.mach.bal.n,.v (.string q.1.mach.bal.v),.i q.1.mach.prep.n,.v (.string q.1.mach.prep.v),.i q.1.mach.prime.n,.v (.string q.1.mach.prime.v),.i q.1.mach.conf.n,.v (.string q.1.mach.conf.v),.i q.1.mach.low,.i q.1.mach.high,.v (.string q.1.mach.prop),.sl 15 (q.1.mach.heard.map ev),.i q.1.tm.n,.i q.1.tm.due,.i q.1.round,.i q.1.next,.b q.1.done,.v (.string q.1.value)]=slv q.1 from rfl,jc5];refine zFz v54 [4,8] ?_;refine xP ?_
 unfold beginG;rw[qe (by rw[h20];decide),qe h25,<-hq,qe (λh=>h h39),<-hk];rfl))))
theorem jei(p:Ptc)(i:Nat)(s:Slt)(e:Int)(hi:i<p.slots.length)(hl:p.slots.length<=1000):C0 113 [ptv p,.i (i:Int),slv s,.i e] (.tup [ptv (withP p i (s,e)).1,.i (withP p i (s,e)).2]):=by
 have hcap:=jbK;have hml:(p.slots.map slv).length=p.slots.length:=by simp
 obtain⟨y,hy⟩:∃y,p.slots[i]?=some y:=⟨_,ze hi⟩
 have hyy:=jad slv hy;refine jar Tryz.func113 rfl Tryz.call113 rfl ?_;refine xX λb4=>?_;refine zBx λb6=>?_;refine zAl λb8=>?_;refine xC ?_ ?_<;>intro hc
 ·(
 have h11:¬e=0:=jaf hc;iterate 2 refine zW ?_
 refine zP (AP.up (jaj zKr rfl zRc jay) (d':=ptv zPtc) xUp) ?_;refine xP ?_
 unfold withP;rw[qf h11];rfl)
 ·(
 have h11:e=0:=jac hc;iterate 6 refine zW ?_
 refine xEn 133 37 496 (hb:=xLb) λv16 hv16=>?_;iterate 5 refine zW ?_
 refine jfX jct (by intro e;have h5:=congrArg List.length e;simp only[qu] at h5;omega) (λg cap hv=>?_);subst hv;iterate 6 refine zW ?_
 refine jaD (off:=0) rfl rfl jdZ jct rfl hyy zRc ?_;iterate 3 refine zW ?_
 rw[show D.agg [.i s.nom.node,.i s.nom.slot,.i s.nom.round,.i s.nom.seq,.i s.nom.t.th,.sl 1 (s.nom.t.nodes.map .i),.sl 3 (avs s.nom.t.inner),.v (.string s.nom.own),.sl 1 (s.nom.votes.map strv),.sl 1 (s.nom.accs.map strv),.sl 1 (s.nom.confs.map strv),.sl 7 (s.nom.heard.map nmv),.i s.mach.node,.i s.mach.slot,.i s.mach.seq,.i s.mach.t.th,.sl 1 (s.mach.t.nodes.map .i),.sl 3 (avs s.mach.t.inner),.i s.mach.phase,.i s.mach.bal.n,.v (.string s.mach.bal.v),.i s.mach.prep.n,.v (.string s.mach.prep.v),.i s.mach.prime.n,.v (.string s.mach.prime.v),.i s.mach.conf.n,.v (.string s.mach.conf.v),.i s.mach.low,.i s.mach.high,.v (.string s.mach.prop),.sl 15 (s.mach.heard.map ev),.i s.tm.n,.i s.tm.due,.i s.round,.i s.next,.b s.done,.v (.string s.value)]=slv s from rfl,<-List.map_set];refine zFz (.slice (some ⟨g,0,none⟩) _ cap) [4,8] ?_;refine xP ?_
 unfold withP;rw[qe (λh=>h h11)];rfl)
def okSp(q:Option Int)(s:Slt):Bool:=match q with | none=>true | some k=>decide (k<s.mach.slot)
def prevS(l:List Slt)(k:Nat):Option Int:=if k=0 then none else (l[k - 1]?).map λs=>s.mach.slot
theorem jlr(p:Ptc)(q:Option Int)(s:Slt)(r:List Slt):psGo p q (s::r)=((((checkS s&&decide (s.mach.node=p.node))&&same s.mach.t p.t)&&okSp q s)&&psGo p (some s.mach.slot) r):=by cases q<;>rfl
theorem jpx{l:List Slt}(h:l[k]?=some x):prevS l (k+1)=some x.mach.slot:=by
 unfold prevS;rw[qe zo,Nat.add_sub_cancel,h];rfl
theorem jxR{l:List Slt}{y:Slt}(hy:0<k->l[k - 1]?=some y):okSp (prevS l k) x=if (0:Int)<(k:Int) then decide (y.mach.slot<x.mach.slot) else true:=by
 unfold prevS
 by_cases h:k=0
 ·rw[qf h,qe zo];rfl
 ·rw[qe h,qf zo,hy zo];rfl
theorem jun{l:List Slt}(x:Slt)(h:k<=l.length):∃y,0<k->l[k - 1]?=some y:=by
 rcases Nat.eq_zero_or_pos k with h0 | h0
 ·exact⟨x,λh1=>by omega⟩
 ·exact⟨l[k - 1]'zo,λ_=>ze _⟩
def badP(p:Ptc):Bool:=decide (p.node<0)||(decide (p.node>9)||(!decide (validT p.t=0)||decide ((p.slots.length:Int)>8)))
theorem jgF(p:Ptc):checkP p=(!badP p&&psGo p none p.slots):=by
 have h:(((decide (p.node>=0)&&decide (p.node<=9))&&decide (validT p.t=0))&&decide (p.slots.length<=8))=!badP p:=by
  rw[Bool.eq_iff_iff];simp only[badP,qh,qo,Bool.not_eq_true',Bool.or_eq_false_iff,decide_eq_false_iff_not,Bool.not_eq_false',gt_iff_lt,ge_iff_le];omega
 unfold checkP;rw[h]
theorem ja6(p:Ptc)(hP:PI p):C0 101 [ptv p] (.b (checkP p)):=by
 refine xI Tryz.func101 Tryz.call101 λhcap=>?_;have hsz:=hP.sz;have hml:(p.slots.map slv).length=p.slots.length:=by simp
 have hpl:=hP.hl;refine xX λb1=>?_;iterate 10 refine zW ?_
 iterate 7 all_goals first | refine zW ?_ | refine xG ?_ ?_<;>intro hg
 all_goals first | (refine zY ?_;refine jaa zRc (jaI p.t zo) rfl rfl ?_) | refine zSk ?_
 iterate 5 all_goals first | refine zW ?_ | refine xG ?_ ?_<;>intro hg
 all_goals first | (refine zY ?_;(first | refine zLn λ_=>?_ | refine zW ?_)) | refine zSk ?_
 iterate 2 all_goals refine zW ?_
 all_goals (
 refine xC ?_ ?_<;>intro hc
 ·(
 first
 | (exact xQ hc)
 |(
 have h24:badP p=true:=by unfold badP;rw[<-hml];first | (simp only[*,Bool.or_true,Bool.true_or,Bool.or_false,Bool.false_or,Bool.not_true,Bool.not_false];done) | (simp[*];done) | grind
 refine xP ?_
 rw[jgF,h24];rfl))
 ·(
 first
 | (exact xQ hc)
 |(
 have h24:badP p=false:=by unfold badP;rw[<-hml];first | (simp only[*,Bool.or_true,Bool.true_or,Bool.or_false,Bool.false_or,Bool.not_true,Bool.not_false];done) | (simp[*];done) | grind
 refine xN λ_=>?_;iterate 4 refine zW ?_
 refine jah [1,26,27] [.box b1 _ _] (λ(k:Nat) r=>(28,.i (k:Int))::r) (λk r=>r) (λk=>k<=p.slots.length/\psGo p (prevS p.slots k) (p.slots.drop k)=psGo p none p.slots) (λk=>p.slots.length - k) (0) zRc ⟨by omega,rfl⟩ (zWk) ?_;intro k ⟨hk,hI⟩;refine xC ?_ ?_<;>intro hc
 ·(
 have hlt:=qc hc;obtain⟨x,hx,hd⟩:=jab (l:=p.slots) (k:=k) zo;have hx':=jad slv hx;obtain⟨y,hy⟩:=jun x hk;have hq:=jxR (x:=x) hy;refine xL λb4=>?_;iterate 5 refine zW ?_
 refine zDr [] ?_;refine zT 0 ?_;refine zOn 1 ?_;refine xA (jbG x (hP.hs x (qk hx))) ?_;refine zW ?_;refine zT 2 ?_;refine zT 3 ?_;refine jai 3 rfl (λhg=>?_) λhg=>?_
 rotate_left
 case' _ =>(
 refine zT 4 ?_;refine zT 5 ?_;refine zT 6 ?_;refine zT 7 ?_;refine zT 8 ?_;refine zT 9 ?_;refine zT 10 ?_;refine zT 11 ?_;refine jai 11 rfl (λhg=>?_) λhg=>?_
 rotate_left
 case' _ =>(
 refine zT 12 ?_;refine zT 13 ?_;refine zT 14 ?_;refine zT 15 ?_;refine zT 16 ?_;refine zOn 17 ?_;refine xA (jcd x.mach.t p.t) ?_;refine zW ?_;refine zT 18 ?_;refine zT 19 ?_;refine zT 20 ?_;refine jai 20 rfl (λhg=>?_) λhg=>?_
 rotate_left
 case' _ =>(
 refine zT 21 ?_;refine zT 22 ?_;refine zT 23 ?_;refine jai 23 rfl (λhg=>?_) λhg=>?_
 rotate_left
 case' _ =>(
 refine zK 24 ?_;refine zK 25 ?_;refine zK 26 ?_;refine zK 27 ?_;refine zK 28 ?_;refine zK 29 ?_;refine zK 30 ?_;refine zK 31 ?_;refine zK 32 ?_;refine zK 33 ?_;refine zK 34 ?_;refine zK 35 ?_;refine zT 36 ?_;refine zT 37 ?_
 refine zW ?_)
 rotate_right
 case' _ =>(
 refine zT 24 ?_;refine zT 25 ?_;refine zT 26 ?_;refine zT 27 ?_;refine jam 28 rfl zGd zKr zKr zKr (AP.ar (jap (k:=k - 1) rfl rfl rfl rfl zd (by have h9:decide ((k:Int)>0)=true:=(by first | with_reducible assumption | exact hg);have:=qc h9;omega) (jad slv (hy (by have h9:decide ((k:Int)>0)=true:=(by first | with_reducible assumption | exact hg);have:=qc h9;omega))))) rfl rfl ?_;refine zT 29 ?_;refine zT 30 ?_;refine zT 31 ?_;refine zT 32 ?_;refine zT 33 ?_;refine zT 34 ?_;refine zT 35 ?_;refine zT 36 ?_;refine zT 37 ?_
 refine zW ?_))
 rotate_right
 case' _ =>(
 refine zK 21 ?_;refine zK 22 ?_;refine zKu 23 ?_;refine zK 24 ?_;refine zK 25 ?_;refine zK 26 ?_;refine zK 27 ?_;refine zK 28 ?_;refine zK 29 ?_;refine zK 30 ?_;refine zK 31 ?_;refine zK 32 ?_;refine zK 33 ?_;refine zK 34 ?_;refine zK 35 ?_;refine zK 36 ?_;refine zT 37 ?_
 refine zW ?_))
 rotate_right
 case' _ =>(
 refine zK 12 ?_;refine zK 13 ?_;refine zK 14 ?_;refine zK 15 ?_;refine zK 16 ?_;refine zK 17 ?_;refine zK 18 ?_;refine zT 19 ?_;refine zT 20 ?_;refine zK 21 ?_;refine zK 22 ?_;refine zKu 23 ?_;refine zK 24 ?_;refine zK 25 ?_;refine zK 26 ?_;refine zK 27 ?_;refine zK 28 ?_;refine zK 29 ?_;refine zK 30 ?_;refine zK 31 ?_;refine zK 32 ?_;refine zK 33 ?_;refine zK 34 ?_;refine zK 35 ?_;refine zK 36 ?_;refine zT 37 ?_
 refine zW ?_))
 rotate_right
 case' _ =>(
 refine zK 4 ?_;refine zK 5 ?_;refine zK 6 ?_;refine zK 7 ?_;refine zK 8 ?_;refine zK 9 ?_;refine zT 10 ?_;refine zT 11 ?_;refine zK 12 ?_;refine zK 13 ?_;refine zK 14 ?_;refine zK 15 ?_;refine zK 16 ?_;refine zK 17 ?_;refine zK 18 ?_;refine zT 19 ?_;refine zT 20 ?_;refine zK 21 ?_;refine zK 22 ?_;refine zKu 23 ?_;refine zK 24 ?_;refine zK 25 ?_;refine zK 26 ?_;refine zK 27 ?_;refine zK 28 ?_;refine zK 29 ?_;refine zK 30 ?_;refine zK 31 ?_;refine zK 32 ?_;refine zK 33 ?_;refine zK 34 ?_;refine zK 35 ?_;refine zK 36 ?_;refine zT 37 ?_
 refine zW ?_)
 all_goals (
 refine xC ?_ ?_<;>intro hc
 ·(
 first
 | (exact xQ hc)
 |(
 have hq0:(((checkS x&&decide (x.mach.node=p.node))&&same x.mach.t p.t)&&okSp (prevS p.slots k) x)=false:=by rw[hq];first | (simp[*];done) | grind
 refine xP ?_;rw[hd,jlr,hq0,qy] at hI
 rw[jgF,h24,<-hI];rfl))
 ·(
 first
 | (exact xQ hc)
 |(
 have hq0:(((checkS x&&decide (x.mach.node=p.node))&&same x.mach.t p.t)&&okSp (prevS p.slots k) x)=true:=by rw[hq];first | (simp[*];done) | grind
 iterate 8 refine zW ?_
 rw[hd,jlr,hq0,qx,<-jpx hx] at hI
 refine⟨k+1,⟨by omega,hI⟩,by omega,zWk⟩))))
 ·(
 have hge:=qd hc;rw[jae zo] at hI;refine xP ?_
 rw[jgF,h24,<-hI];rfl))))
theorem jtJ(p:Ptc)(hP:PI p):C0 61 [ptv p] (ptv (stopP p)):=by
 refine xI Tryz.func61 Tryz.call61 λhcap=>?_;refine xX λb1=>?_;refine zAl λb2=>?_;refine xA (ja6 p hP) ?_;refine xC ?_ ?_<;>intro hc
 ·(
 have h5:checkP p=false:=jaw hc;refine xP ?_
 unfold stopP;rw[qf h5];rfl)
 ·(
 have h5:checkP p=true:=jav hc;refine xP ?_
 unfold stopP;rw[qe (by rw[h5];decide)];rfl)
theorem jpQ(p:Ptc)(hP:PI p)(number:Int)(own:Str)(now:Int):C0 59 [ptv p,.i number,.v (.string own),.i now] (.tup [ptv (beginP p number own now).1,.i (beginP p number own now).2]):=by
 refine xI Tryz.func59 Tryz.call59 λhcap=>?_;refine xX λb4=>?_;refine zAl λb8=>?_;refine xA (ja6 p hP) ?_;refine xC ?_ ?_<;>intro hc
 ·(
 have h10:checkP p=false:=jaw hc;iterate 2 refine zW ?_
 refine zP (AP.up (jaj zKr rfl zRc jay) (d':=ptv zPtc) xUp) ?_;refine xP ?_
 unfold beginP;rw[qf h10];rfl)
 ·(
 have h10:checkP p=true:=jav hc;have hl8:=(ja8 h10).2.2.1;refine xC ?_ ?_<;>intro hc
 ·(
 have h19:p.stopped=true:=hc;refine xP ?_
 unfold beginP;rw[qe (by rw[h10];decide),qf h19];rfl)
 ·(
 have h19:p.stopped=false:=hc;refine xA (jhR p hP hl8 number own now) ?_;refine xP ?_
 unfold beginP;rw[qe (by rw[h10];decide),qe (by rw[h19];decide)];rfl))
theorem jiJ(p:Ptc)(hP:PI p)(hl:p.slots.length<=8)(number:Int)(own:Str)(now:Int):C0 111 [ptv p,.i number,.v (.string own),.i now] (.tup [ptv (readyP p number own now).1,.i (atP (readyP p number own now).1 number:Nat),.i (readyP p number own now).2]):=by
 refine xI Tryz.func111 Tryz.call111 λhcap=>?_;refine xX λb4=>?_;refine zAl λb8=>?_;refine xB (jkb p number zo) ?_;rintro _ _ ⟨rfl,rfl⟩;obtain⟨k,hk⟩:∃x,x=atP p number:=⟨_,rfl⟩;obtain⟨g,hg0⟩:∃x,x=thereP p number:=⟨_,rfl⟩;rw[<-hk,<-hg0];have hkl:k<=p.slots.length:=hk ▸ je9 (ltSl number) p.slots;refine xC ?_ ?_<;>intro hc
 ·(
 have h22:thereP p number=true:=hg0 ▸ hc;have hr9:readyP p number own now=(p,0):=by unfold readyP;rw[qf h22]
 refine xP ?_
 rw[hr9,hk];rfl)
 ·(
 have h22:thereP p number=false:=hg0 ▸ hc;refine xB (jhR p hP hl number own now) ?_;rintro _ _ ⟨rfl,rfl⟩;have hbl:=jo9 (number:=number) (own:=own) (now:=now) hP hl;obtain⟨q,hq⟩:∃x,x=beginG p number own now:=⟨_,rfl⟩;rw[<-hq] at hbl ⊢;refine xA (jkb q.1 number zo) ?_;refine xP ?_
 rw[show readyP p number own now=q by unfold readyP;rw[qe (by rw[h22];decide),<-hq]];rfl)
theorem jjG(p:Ptc)(hP:PI p)(number:Int)(v:Str)(now:Int):C0 60 [ptv p,.i number,.v (.string v),.i now] (.tup [ptv (prefP p number v now).1,.i (prefP p number v now).2]):=by
 refine xI Tryz.func60 Tryz.call60 λhcap=>?_;refine xX λb4=>?_;refine zAl λb8=>?_;refine xA (ja6 p hP) ?_;refine xC ?_ ?_<;>intro hc
 ·(
 have h10:checkP p=false:=jaw hc;iterate 2 refine zW ?_
 refine zP (AP.up (jaj zKr rfl zRc jay) (d':=ptv zPtc) xUp) ?_;refine xP ?_
 unfold prefP;rw[qf h10];rfl)
 ·(
 have h10:checkP p=true:=jav hc;have hl8:=(ja8 h10).2.2.1;refine xC ?_ ?_<;>intro hc
 ·(
 have h19:p.stopped=true:=hc;refine xP ?_
 unfold prefP;rw[qe (by rw[h10];decide),qf h19];rfl)
 ·(
 have h19:p.stopped=false:=hc;refine xB (jiJ p hP hl8 number v now) ?_;rintro _ _ ⟨rfl,rfl⟩;obtain⟨q,hq⟩:∃x,x=readyP p number v now:=⟨_,rfl⟩;rw[<-hq];obtain⟨k,hk⟩:∃x,x=atP q.1 number:=⟨_,rfl⟩;rw[<-hk];refine xL λb10=>?_;refine xC ?_ ?_<;>intro hc
 ·(
 have h31:¬q.2=0:=jaf hc;iterate 2 refine zW ?_
 refine zP (AP.up (jaj zKr rfl zRc jay) (d':=ptv zPtc) xUp) ?_;refine xP ?_
 unfold prefP;rw[qe (by rw[h10];decide),qe (by rw[h19];decide),<-hq,qf h31];rfl)
 ·(
 have h31:q.2=0:=jac hc;have hqp:=jeA hP hl8 (hq ▸ h31);rw[<-hq] at hqp;have hat:=jgg hP.sz (hq ▸ h31);rw[<-hq,<-hk] at hat;obtain⟨s9,hs9⟩:=hat;have hs9':=jad slv hs9;have hks:=(List.getElem?_eq_some_iff.1 hs9).1;have hqs:=hqp.1.hs s9 (qk hs9);have hql:=hqp.1.hl;iterate 7 refine zW ?_
 refine zP (jap (k:=k) rfl rfl rfl rfl zd rfl hs9') ?_;refine xB (jjt s9 hqs v) ?_;rintro _ _ ⟨rfl,rfl⟩;obtain⟨x,hx⟩:∃z9,z9=prefS' s9 v:=⟨_,rfl⟩;rw[<-hx];refine xL λb13=>?_;refine xA (jei q.1 k x.1 x.2 hks zo) ?_;refine xP ?_
 unfold prefP;rw[qe (by rw[h10];decide),qe (by rw[h19];decide),<-hq,qe (λh=>h h31)];unfold onP;rw[<-hk,hs9];simp only;rw[<-hx];rfl)))
theorem jkF(p:Ptc)(hP:PI p)(l:Ltr)(hL:LB l)(now:Int):C0 104 [ptv p,ltv l,.i now] (.tup [ptv (hearP p l now).1,.i (hearP p l now).2]):=by
 refine xI Tryz.func104 Tryz.call104 λhcap=>?_;refine xX λb3=>?_;refine zBx λb4=>?_;refine zAl λb6=>?_;refine xA (ja6 p hP) ?_;refine xC ?_ ?_<;>intro hc
 ·(
 have h10:checkP p=false:=jaw hc;iterate 2 refine zW ?_
 refine zP (AP.up (jaj zKr rfl zRc jay) (d':=ptv zPtc) xUp) ?_;refine xP ?_
 unfold hearP;rw[qf h10];rfl)
 ·(
 have h10:checkP p=true:=jav hc;have hl8:=(ja8 h10).2.2.1;refine xC ?_ ?_<;>intro hc
 ·(
 have h19:p.stopped=true:=hc;refine xP ?_
 unfold hearP;rw[qe (by rw[h10];decide),qf h19];rfl)
 ·(
 have h19:p.stopped=false:=hc;iterate 9 refine zW ?_
 iterate 17 all_goals first | refine zW ?_ | refine xG ?_ ?_<;>intro hg
 all_goals (
 refine xC ?_ ?_<;>intro hc
 ·(
 first
 | (exact xQ hc)
 |(
 have h41:badL l=true:=by unfold badL;first | (simp_all;done) | grind
 iterate 2 refine zW ?_
 refine zP (AP.up (jaj zKr rfl zRc jay) (d':=ptv zPtc) xUp) ?_;refine xP ?_
 unfold hearP;rw[qe (by rw[h10];decide),qe (by rw[h19];decide),qf h41];rfl))
 ·(
 first
 | (exact xQ hc)
 |(
 have h41:badL l=false:=by unfold badL;first | (simp_all;done) | grind
 refine xB (jiJ p hP hl8 l.slot sZ now) ?_;rintro _ _ ⟨rfl,rfl⟩;obtain⟨q,hq⟩:∃x,x=readyP p l.slot sZ now:=⟨_,rfl⟩;rw[<-hq];obtain⟨k,hk⟩:∃x,x=atP q.1 l.slot:=⟨_,rfl⟩;rw[<-hk];refine xL λb8=>?_;refine xC ?_ ?_<;>intro hc
 ·(
 have h31:¬q.2=0:=jaf hc;iterate 2 refine zW ?_
 refine zP (AP.up (jaj zKr rfl zRc jay) (d':=ptv zPtc) xUp) ?_;refine xP ?_
 unfold hearP;rw[qe (by rw[h10];decide),qe (by rw[h19];decide),qe (by rw[h41];decide),<-hq,qf h31];rfl)
 ·(
 have h31:q.2=0:=jac hc;have hqp:=jeA hP hl8 (hq ▸ h31);rw[<-hq] at hqp;have hat:=jgg hP.sz (hq ▸ h31);rw[<-hq,<-hk] at hat;obtain⟨s9,hs9⟩:=hat;have hs9':=jad slv hs9;have hks:=(List.getElem?_eq_some_iff.1 hs9).1;have hqs:=hqp.1.hs s9 (qk hs9);have hql:=hqp.1.hl;refine xC ?_ ?_<;>intro hc
 ·(
 have h58:l.kind=1:=qc hc;refine zW ?_;refine zDr [] ?_;refine zT 0 ?_;refine zT 1 ?_;refine zT 2 ?_;refine jam 3 rfl zGd zKr zKr zKr (AP.ar (jap (k:=k) rfl rfl rfl rfl zd rfl hs9')) rfl rfl ?_;refine zT 4 ?_;refine zT 5 ?_;refine zT 6 ?_;refine zE2 7 11 ?_ ?_
 rotate_left
 case' _ =>(
 refine zAl λb11=>?_;refine zW ?_;refine zOn 7 ?_;refine xB (jd4 s9 hqs l.nom hL.nom) ?_;rintro _ _ ⟨rfl,rfl⟩;obtain⟨x,hx⟩:∃z9,z9=nomS s9 l.nom:=⟨_,rfl⟩;rw[<-hx];refine zW ?_;refine zT 8 ?_;refine zT 9 ?_;refine zT 10 ?_;refine zOn 12 ?_;iterate 2 refine zW ?_
 refine zT 13 ?_
 refine zW ?_)
 rotate_right
 case' _ =>(
 refine xB (jd4 s9 hqs l.nom hL.nom) ?_;rintro _ _ ⟨rfl,rfl⟩;obtain⟨x,hx⟩:∃z9,z9=nomS s9 l.nom:=⟨_,rfl⟩;rw[<-hx];refine zW ?_;refine zT 8 ?_;refine zT 9 ?_;refine zT 10 ?_;refine zOn 11 ?_;refine zAl λb11=>?_;refine zW ?_;refine zOn 12 ?_;iterate 2 refine zW ?_
 refine zT 13 ?_
 refine zW ?_)
 all_goals (
 refine xA (jei q.1 k x.1 x.2 hks zo) ?_;refine xP ?_
 unfold hearP;rw[qe (by rw[h10];decide),qe (by rw[h19];decide),qe (by rw[h41];decide),<-hq,qe (λh=>h h31)];unfold onP;rw[<-hk,hs9];simp only;rw[qf h58,<-hx];rfl))
 ·(
 have h58:¬l.kind=1:=qd hc;iterate 3 refine zW ?_
 refine zDr [] ?_;refine zT 0 ?_;refine zT 1 ?_;refine zT 2 ?_;refine jam 3 rfl zGd zKr zKr zKr (AP.ar (jap (k:=k) rfl rfl rfl rfl zd rfl hs9')) rfl rfl ?_;refine zT 4 ?_;refine zT 5 ?_;refine zT 6 ?_;refine zE2 7 11 ?_ ?_
 rotate_left
 case' _ =>(
 refine zAl λb13=>?_;refine zW ?_;refine zOn 7 ?_;refine xB (je5 s9 hqs l.env hL.env) ?_;rintro _ _ ⟨rfl,rfl⟩;obtain⟨x,hx⟩:∃z9,z9=balS s9 l.env:=⟨_,rfl⟩;rw[<-hx];refine zW ?_;refine zT 8 ?_;refine zT 9 ?_;refine zT 10 ?_;refine zOn 12 ?_;iterate 2 refine zW ?_
 refine zT 13 ?_
 refine zW ?_)
 rotate_right
 case' _ =>(
 refine xB (je5 s9 hqs l.env hL.env) ?_;rintro _ _ ⟨rfl,rfl⟩;obtain⟨x,hx⟩:∃z9,z9=balS s9 l.env:=⟨_,rfl⟩;rw[<-hx];refine zW ?_;refine zT 8 ?_;refine zT 9 ?_;refine zT 10 ?_;refine zOn 11 ?_;refine zAl λb13=>?_;refine zW ?_;refine zOn 12 ?_;iterate 2 refine zW ?_
 refine zT 13 ?_
 refine zW ?_)
 all_goals (
 refine xA (jei q.1 k x.1 x.2 hks zo) ?_;refine xP ?_
 unfold hearP;rw[qe (by rw[h10];decide),qe (by rw[h19];decide),qe (by rw[h41];decide),<-hq,qe (λh=>h h31)];unfold onP;rw[<-hk,hs9];simp only;rw[qe h58,<-hx];rfl))))))))
theorem jgd{s:Slt × Int}(h:¬(withP p i s).2=0):¬s.2=0/\(withP p i s).2=s.2:=by
 unfold withP at h ⊢;split at h
 ·rename_i h1;rw[qf h1];exact⟨h1,rfl⟩
 ·exact qp rfl h
theorem jf7{s:Slt × Int}(h:(withP p i s).2=0):s.2=0/\(withP p i s).1={ p with slots:=p.slots.set i s.1 }:=by
 unfold withP at h ⊢;split at h
 ·rename_i h1;exact qp h h1
 ·rename_i h1;rw[qe h1];exact⟨by simpa using h1,rfl⟩
theorem jyh{q r:List Slt}{s:Slt}(h:q.length=i):(q++s::r).set i x=(q++[x])++r:=by
 subst h;rw[List.set_append_right _ _ (Nat.le_refl _),Nat.sub_self,List.set_cons_zero,List.append_assoc];rfl
theorem jw7{q r:List Slt}{s:Slt}(h:q.length=i):(q++s::r)[i]?=some s:=by
 subst h;rw[List.getElem?_append_right (Nat.le_refl _),Nat.sub_self];rfl
theorem jhn(p:Ptc)(hP:PI p)(now:Int):C0 105 [ptv p,.i now] (.tup [ptv (tickP p now).1,.i (tickP p now).2]):=by
 refine xI Tryz.func105 Tryz.call105 λhcap=>?_;have hml:(p.slots.map slv).length=p.slots.length:=by simp
 have hpl:=hP.hl;refine xX λb2=>?_;refine zAl λb4=>?_;refine xA (ja6 p hP) ?_;refine xC ?_ ?_<;>intro hc
 ·(
 have h10:checkP p=false:=jaw hc;iterate 2 refine zW ?_
 refine zP (AP.up (jaj zKr rfl zRc jay) (d':=ptv zPtc) xUp) ?_;refine xP ?_
 unfold tickP;rw[qf h10];rfl)
 ·(
 have h10:checkP p=true:=jav hc;have hl8:=(ja8 h10).2.2.1;refine xC ?_ ?_<;>intro hc
 ·(
 have h19:p.stopped=true:=hc;refine xP ?_
 unfold tickP;rw[qe (by rw[h10];decide),qf h19];rfl)
 ·(
 have h19:p.stopped=false:=hc;refine xN λ_=>?_;iterate 4 refine zW ?_
 refine jag [1,2,4,19] [.box b4 _ _] (λ(i:Nat)(q:List Slt) r=>(20,.i (i:Int))::r) (λi q r=>.box b2 107 [.i p.node,.b p.stopped,.i p.t.th,.sl 1 (p.t.nodes.map .i),.sl 3 (avs p.t.inner),.sl 37 ((q++p.slots.drop i).map slv)]::r) (λi q=>(q.length=i/\i<=p.slots.length)/\tksGo now (p.slots.drop i) q=tksGo now p.slots []) (λi q=>p.slots.length - i) (0) ([]) zRc ⟨⟨rfl,by omega⟩,rfl⟩ (zWk) ?_;intro i q ⟨⟨hqi,hi⟩,hI⟩;refine xC ?_ ?_<;>intro hc
 ·(
 have hlt:=qc hc;obtain⟨s9,hs0,hd⟩:=jab (l:=p.slots) (k:=i) zo;have hqs:=hP.hs s9 (qk hs0);have hs9:(q++p.slots.drop i)[i]?=some s9:=by rw[hd];exact jw7 hqi
 iterate 15 refine zW ?_
 refine zP (jap (k:=i) rfl rfl rfl rfl zd rfl (jad slv hs9)) ?_;refine xB (jmT s9 hqs now) ?_;rintro _ _ ⟨rfl,rfl⟩;obtain⟨x,hx⟩:∃z9,z9=tickSl s9 now:=⟨_,rfl⟩;rw[<-hx];refine xL λb7=>?_;refine xB (jei { p with slots:=q++p.slots.drop i } i x.1 x.2 (by show i<(q++p.slots.drop i).length;rw[qm,List.length_drop];omega) (by show (q++p.slots.drop i).length<=1000;rw[qm,List.length_drop];omega)) ?_;rintro _ _ ⟨rfl,rfl⟩;obtain⟨y,hy⟩:∃z9,z9=withP { p with slots:=q++p.slots.drop i } i (x.1,x.2):=⟨_,rfl⟩;rw[<-hy];refine xL λb9=>?_;refine xC ?_ ?_<;>intro hc
 ·(
 have h42:¬y.2=0:=jaf hc;have hx0:=jgd (hy ▸ h42);rw[hd,tksGo,<-hx,qf hx0.1] at hI;rw[<-hy] at hx0;iterate 2 refine zW ?_
 refine zP (AP.up (jaj zKr rfl zRc jay) (d':=ptv zPtc) xUp) ?_;refine xP ?_
 rw[hx0.2];unfold tickP;rw[qe (by rw[h10];decide),qe (by rw[h19];decide),<-hI,qf hx0.1];rfl)
 ·(
 have h42:y.2=0:=jac hc;have hx1:=jf7 (hy ▸ h42);have hx0:x.2=0:=hx1.1;have hy1:y.1={ p with slots:=(q++[x.1])++p.slots.drop (i+1) }:=by rw[hy,hx1.2];show (⟨p.node,p.stopped,p.t,(q++p.slots.drop i).set i x.1⟩:Ptc)=_;rw[hd,jyh hqi]
 rw[hy1];iterate 13 refine zW ?_
 rw[hd,tksGo,<-hx,qe (λh=>h hx0)] at hI
 refine⟨i+1,q++[x.1],⟨⟨by simp;omega,by omega⟩,hI⟩,by omega,zWk⟩))
 ·(
 have hge:=qd hc;rw[jae zo,tksGo] at hI;have ht9:tksGo now p.slots []=(q,0):=hI.symm;have hdn:p.slots.drop i=[]:=jae zo;rw[hdn,List.append_nil];refine xP ?_
 unfold tickP;rw[qe (by rw[h10];decide),qe (by rw[h19];decide),ht9];rfl)))
theorem jlj(s:Slt):(lettersS s).length<=2:=by
 unfold lettersS ltrN ltrE;split
 ·simp
 ·(
 rw[qm]
 split<;>split<;>simp)
theorem jhM(p:Ptc)(hP:PI p):C0 106 [ptv p] (.sl 24 ((lettersP p).map ltv)):=by
 refine xI Tryz.func106 Tryz.call106 λhcap=>?_;have hml:(p.slots.map slv).length=p.slots.length:=by simp
 have hpl:=hP.hl;refine xX λb1=>?_;refine xA (ja6 p hP) ?_;iterate 2 refine zW ?_
 iterate 3 all_goals first | refine zW ?_ | refine xG ?_ ?_<;>intro hg
 all_goals (
 refine xC ?_ ?_<;>intro hc
 ·(
 first
 | (exact xQ hc)
 |(
 have h12:(!checkP p||p.stopped)=true:=by first | (simp_all;done) | grind
 iterate 5 refine zW ?_
 refine jhq 57 24 rfl ?_;refine zFz (.slice none 0 0) [2] ?_;refine xP ?_
 unfold lettersP;rw[qf h12];rfl))
 ·(
 first
 | (exact xQ hc)
 |(
 have h12:(!checkP p||p.stopped)=false:=by first | (simp_all;done) | grind
 refine xN λ_=>?_;iterate 4 refine zW ?_
 refine jax [14,15] [] (λ(i:Nat)(v:Value)(q:List Ltr) r=>(3,.v v)::(16,.i (i:Int))::r) (λi v q r=>.arr v 57 24 (q.map ltv)::r) (λi v q=>(i<=p.slots.length/\q.length<=2 * i)/\q++(p.slots.drop i).flatMap lettersS=p.slots.flatMap lettersS) (λi v q=>p.slots.length - i) (0) (.slice none 0 0) ([]) zRc ⟨⟨by omega,by simp⟩,by simp⟩ ((jaF 57 24 rfl).trans (zWk)) ?_;intro i v q ⟨⟨hi,hql⟩,hI⟩;have hqm:(q.map ltv).length=q.length:=by simp
 refine xC ?_ ?_<;>intro hc
 ·(
 have hlt:=qc hc;obtain⟨s9,hx,hd⟩:=jab (l:=p.slots) (k:=i) zo;have hx':=jad slv hx;have hqs:=hP.hs s9 (qk hx);have hl9:=jlj s9;have hlm:((lettersS s9).map ltv).length=(lettersS s9).length:=by simp
 refine xL λb5=>?_;refine xA (jhL s9 hqs) ?_;refine xEa 57 24 312 (hb:=xLb) λv23 hv23=>?_;iterate 9 refine zW ?_
 rw[hd,List.flatMap_cons,<-List.append_assoc] at hI;rw[<-List.map_append]
 refine⟨i+1,_,q++lettersS s9,⟨⟨by omega,by rw[qm];omega⟩,hI⟩,by omega,zWk⟩)
 ·(
 have hge:=qd hc;rw[jae zo,List.flatMap_nil,List.append_nil] at hI;refine zFz v [3] ?_;refine xP ?_
 unfold lettersP;rw[qe (by rw[h12];decide),<-hI];rfl))))
theorem jyW{number:Int}{g:Bool}{s9:Slt}(h10:checkP p=true)(hg0:g=thereP p number)(hk:k=atP p number)(h:¬(g=true/\s9.done=true))(hth:g=true->p.slots[k]?=some s9/\s9.mach.slot=number):decidedP p number=(noS,false):=by
 unfold decidedP;rw[qe (by rw[h10];decide)];cases hx:p.slots[atP p number]? with
 | none=>rfl
 | some s =>
  simp only
  by_cases hs:s.mach.slot=number
  ·have ht:thereP p number=true:=by unfold thereP;rw[hx];exact qg hs
   have h1:=hth (hg0.trans ht);rw[hk,hx] at h1;cases h1.1;rw[qe (λhh=>h ⟨hg0.trans ht,by simp only[qh] at hh;exact hh.2⟩)]
  ·rw[qe (by rw[qz hs];simp)]
theorem jhK(p:Ptc)(hP:PI p)(number:Int):C0 73 [ptv p,.i number] (.tup [.v (.string (decidedP p number).1),.b (decidedP p number).2]):=by
 have hcap:=jbK;have hml:(p.slots.map slv).length=p.slots.length:=by simp
 have hpl:=hP.hl;obtain⟨s9,hs0⟩:=jgB p.slots (atP p number) zSlt;refine jar Tryz.func73 rfl Tryz.call73 rfl ?_;refine xX λb2=>?_;refine xA (ja6 p hP) ?_;refine xC ?_ ?_<;>intro hc
 ·(
 have h10:checkP p=false:=jaw hc;refine xP ?_
 unfold decidedP;rw[qf h10];rfl)
 ·(
 have h10:checkP p=true:=jav hc;have hl8:=(ja8 h10).2.2.1;refine xB (jkb p number zo) ?_;rintro _ _ ⟨rfl,rfl⟩;obtain⟨k,hk⟩:∃x,x=atP p number:=⟨_,rfl⟩;obtain⟨g,hg0⟩:∃x,x=thereP p number:=⟨_,rfl⟩;rw[<-hk,<-hg0];have hkl:k<=p.slots.length:=hk ▸ je9 (ltSl number) p.slots;have hth:g=true->p.slots[k]?=some s9/\s9.mach.slot=number:=(λh=>by obtain⟨s,h1,h2⟩:=jiS (hg0 ▸ h:thereP p number=true);have h3:=hs0 (List.getElem?_eq_some_iff.1 h1).1;rw[h1] at h3;cases h3;rw[hk];exact⟨h1,h2⟩)
 iterate 11 refine zW ?_
 iterate 3 all_goals first | refine zW ?_ | refine xG ?_ ?_<;>intro hg
 all_goals first | (refine zY ?_;(refine zP (jap (k:=k) rfl rfl rfl rfl zd rfl (jad slv (hth (by first | with_reducible assumption | exact hg)).1)) ?_)) | refine zSk ?_
 iterate 3 all_goals refine zW ?_
 all_goals (
 refine xC ?_ ?_<;>intro hc
 ·(
 first
 | (exact xQ hc)
 |(
 have h25:g=true/\s9.done=true:=by first | exact⟨hg,hc⟩ | (simp_all;done) | grind
 have hd9:decidedP p number=(s9.value,true):=by unfold decidedP;rw[qe (by rw[h10];decide),<-hk,(hth h25.1).1];simp only;rw[qf (by rw[qg (hth h25.1).2,h25.2];rfl)]
 iterate 5 refine zW ?_
 refine zP (jap (k:=k) rfl rfl rfl rfl zd rfl (jad slv (hth (by first | with_reducible assumption | exact hg)).1)) ?_;refine xP ?_
 rw[hd9];rfl))
 ·(
 first
 | (exact xQ hc)
 |(
 have h25:¬(g=true/\s9.done=true):=by first | (simp_all;done) | grind
 have hd9:decidedP p number=(noS,false):=jyW h10 hg0 hk h25 hth;refine xP ?_
 rw[hd9];rfl))))
def pcv(p:Pcl):D:=.agg [.i p.due,.i p.src,.i p.dst,.i p.num,.i p.l.kind,.i p.l.slot,.i p.l.nom.node,.i p.l.nom.seq,.i p.l.nom.t.th,.sl 1 (p.l.nom.t.nodes.map .i),.sl 3 (avs p.l.nom.t.inner),.sl 1 (p.l.nom.votes.map strv),.sl 1 (p.l.nom.accs.map strv),.i p.l.env.node,.i p.l.env.slot,.i p.l.env.seq,.i p.l.env.t.th,.sl 1 (p.l.env.t.nodes.map .i),.sl 3 (avs p.l.env.t.inner),.i p.l.env.kind,.i p.l.env.bal.n,.v (.string p.l.env.bal.v),.i p.l.env.prep.n,.v (.string p.l.env.prep.v),.i p.l.env.prime.n,.v (.string p.l.env.prime.v),.i p.l.env.low,.i p.l.env.high]
def ntv(n:Ntw):D:=.agg [.sl 28 (n.pcs.map pcv),.i n.next,.sl 1 (n.parts.map .i),.sl 1 (n.dls.map .i)]
theorem jvr{n:Nat}(h:n<=62):IntKind.u64.wrap (n:Int)=(n:Int):=by
 have h2:(n:Int)<=62:=by omega
 have h3:(0:Int)<=(n:Int):=by omega
 show ((n:Int)) % (18446744073709551616:Int)=(n:Int);omega
theorem jhN{k:Int}(h:0<=k/\k<=9):∃q:Nat,k=(q:Int)/\q<=9:=⟨k.toNat,by omega,by omega⟩
theorem jsj{a b:Nat}(h:a<1024)(k:b<1024):a|||b<1024:=Nat.or_lt_two_pow (n:=10) h k
theorem jhv(a b:Pcl):C0 138 [pcv a,pcv b] (.b (befV a b)):=by
 refine xI Tryz.func138 Tryz.call138 λhcap=>?_;refine xX λb2=>?_;refine zBx λb3=>?_;refine xC ?_ ?_<;>intro hc
 ·(
 have h5:¬a.due=b.due:=jaf hc;refine xP ?_
 unfold befV;rw[qf h5];rfl)
 ·(
 have h5:a.due=b.due:=jac hc;refine xC ?_ ?_<;>intro hc
 ·(
 have h16:¬a.src=b.src:=jaf hc;refine xP ?_
 unfold befV;rw[qe (λh=>h h5),qf h16];rfl)
 ·(
 have h16:a.src=b.src:=jac hc;refine xC ?_ ?_<;>intro hc
 ·(
 have h27:¬a.dst=b.dst:=jaf hc;refine xP ?_
 unfold befV;rw[qe (λh=>h h5),qe (λh=>h h16),qf h27];rfl)
 ·(
 have h27:a.dst=b.dst:=jac hc;refine xP ?_
 unfold befV;rw[qe (λh=>h h5),qe (λh=>h h16),qe (λh=>h h27)];rfl)))
theorem jbk(n:Int):C0 109 [.i n] (.b (nodeN n)):=by
 refine xI Tryz.func109 Tryz.call109 λhcap=>?_;iterate 10 refine zW ?_
 iterate 4 all_goals first | refine zW ?_ | refine xG ?_ ?_<;>intro hg
 all_goals (
 refine xP ?_
 unfold nodeN;first | (simp_all[resD];done) | (simp_all[resD];omega) | grind[resD])
theorem jh6(l:List Int):C0 108 [.sl 1 (l.map .i)] (.b (partsV l)):=by
 refine xI Tryz.func108 Tryz.call108 λhcap=>?_;have hml:(l.map D.i).length=l.length:=by simp
 refine xN λ_=>?_;iterate 4 refine zW ?_
 refine jag [0,6,7] [] (λ(i:Nat)(a:Nat) r=>(3,.i (a:Int))::(8,.i (i:Int))::r) (λi a r=>r) (λi a=>i<=l.length/\a<1024/\partsGo (l.drop i) a=partsGo l 0) (λi a=>l.length - i) (0) (0) zRc ⟨by omega,by omega,rfl⟩ (zWk) ?_;intro i a ⟨hi,ha,hI⟩;refine xC ?_ ?_<;>intro hc
 ·(
 have hlt:=qc hc;obtain⟨z,hx,hd⟩:=jab (l:=l) (k:=i) zo;have hx':=jad D.i hx;iterate 17 refine zW ?_
 iterate 6 all_goals first | refine zW ?_ | refine xG ?_ ?_<;>intro hg
 all_goals first | (refine zY ?_;(obtain⟨m,rfl⟩:=qD (show 0<=z by have:=qd (show decide (z<1)=false by with_reducible assumption);omega);have hm10:m<1024:=(by have:=qd (show decide ((1023:Int)<(m:Int))=false by first | with_reducible assumption | exact hg);omega);refine zW ?_)) | refine zSk ?_
 iterate 2 all_goals refine zW ?_
 all_goals (
 refine xC ?_ ?_<;>intro hc
 ·(
 first
 | (exact xQ hc)
 |(
 rw[hd,partsGo] at hI;have hI2:partsGo l 0=false:=by rw[<-hI];exact qf (by first | exact .inl (qc hg) | exact .inr (.inl (qc hg)) | (refine .inr (.inr ?_);rw[qq];have:=jaf hc;omega))
 refine xP ?_
 unfold partsV;rw[hI2];rfl))
 ·(
 first
 | (exact xQ hc)
 |(
 have h23:¬((m:Int)<1\/(m:Int)>1023\/¬a&&&(m:Int).toNat=0):=by rw[qq];have h9:=jac hc;rintro(h | h | h);exact qd (show decide ((m:Int)<1)=false by with_reducible assumption) h;omega;exact h zo
 iterate 15 refine zW ?_
 rw[hd,partsGo,qe h23,qq] at hI
 refine⟨i+1,a|||m,⟨by omega,jsj ha hm10,hI⟩,by omega,zWk⟩))))
 ·(
 have hge:=qd hc;rw[jae zo,partsGo] at hI;refine xN λ_=>?_;refine xP ?_
 unfold partsV;rw[<-hI,hml];simp[resD];omega)
theorem jfA(s k:Int)(hk:0<=k/\k<=9):C0 172 [.i s,.i k] (.b (hasP s k)):=by
 have hcap:=jbK;obtain⟨q,rfl,hq⟩:=jhN hk
 by_cases ha:0<=s
 ·(
 by_cases hb:s<=1023
 ·(
 obtain⟨m,rfl⟩:=qD ha;have hm:m<1024:=by omega
 have hdiv:m / 2^q<=m:=Nat.div_le_self _ _;have mkA:=ha;refine jar Tryz.func172 rfl Tryz.call172 rfl ?_;iterate 10 refine zW ?_
 iterate 7 all_goals refine zW ?_
 all_goals (refine zY ?_;(rw[jvr (by omega:q<=62)];refine zP (jeQ rfl rfl zo) ?_))
 all_goals (refine zY ?_;refine zP (jcz (q:=1) rfl rfl rfl zo zo) ?_)
 iterate 3 all_goals refine zW ?_
 all_goals (
 refine xP ?_;unfold hasP
 have:=hdiv;rw[qq,qq,qg (p:=(m:Int)>=0) zo,qg (p:=(m:Int)<=1023) zo,<-Go.Tq.jnf];rfl))
 ·(
 have mkB:=hb;refine jar Tryz.func172 rfl Tryz.call172 rfl ?_;iterate 10 refine zW ?_
 iterate 7 all_goals refine zW ?_
 all_goals refine zSk ?_
 all_goals refine zSk ?_
 iterate 3 all_goals refine zW ?_
 all_goals (
 refine xP ?_;unfold hasP
 rw[qz (p:=s<=1023) mkB];first | (simp[resD];done) | (simp[resD];omega))))
 ·(
 have mkC:=ha;refine jar Tryz.func172 rfl Tryz.call172 rfl ?_;iterate 10 refine zW ?_
 iterate 7 all_goals refine zW ?_
 all_goals refine zSk ?_
 all_goals refine zSk ?_
 iterate 3 all_goals refine zW ?_
 all_goals (
 refine xP ?_;unfold hasP
 rw[qz (p:=s>=0) mkC];first | (simp[resD];done) | (simp[resD];omega)))
theorem jlN(n:Ntw)(k:Int)(hk:0<=k/\k<=9):C0 171 [ntv n,.i k] (.i (partV n k)):=by
 refine xI Tryz.func171 Tryz.call171 λhcap=>?_;have hml:(n.parts.map D.i).length=n.parts.length:=by simp
 refine xX λb2=>?_;refine xN λ_=>?_;iterate 4 refine zW ?_
 refine jah [1,8,9] [.box b2 _ _] (λ(i:Nat) r=>(10,.i (i:Int))::r) (λi r=>r) (λi=>i<=n.parts.length/\partGo k (n.parts.drop i) i=partV n k) (λi=>n.parts.length - i) (0) zRc ⟨by omega,rfl⟩ (zWk) ?_;intro i ⟨hi,hI⟩;refine xC ?_ ?_<;>intro hc
 ·(
 have hlt:=qc hc;obtain⟨z,hx,hd⟩:=jab (l:=n.parts) (k:=i) zo;have hx':=jad D.i hx;refine xA (jfA z k hk) ?_;refine xC ?_ ?_<;>intro hc
 ·(
 have h17:hasP z k=true:=hc;refine xP ?_;rw[hd,partGo,qf h17] at hI
 rw[<-hI];rfl)
 ·(
 have h17:hasP z k=false:=hc;iterate 8 refine zW ?_
 rw[hd,partGo,qe (by rw[h17];decide)] at hI
 refine⟨i+1,⟨by omega,hI⟩,by omega,zWk⟩))
 ·(
 have hge:=qd hc;rw[jae zo,partGo] at hI;refine xP ?_
 rw[<-hI];rfl)
theorem jig(n:Ntw)(a b:Int)(ha:0<=a/\a<=9)(hb:0<=b/\b<=9)(hd:n.dls.length=0\/n.dls.length=100):C0 145 [ntv n,.i a,.i b] (.i (delayV n a b)):=by
 have hcap:=jbK;have hml:(n.dls.map D.i).length=n.dls.length:=by simp
 obtain⟨p,rfl,hp⟩:=jhN ha;obtain⟨q,rfl,hq⟩:=jhN hb;obtain⟨z,hz⟩:=jgB n.dls (p * 10+q) 0;have hkk:(((p:Int) * 10+(q:Int))).toNat=p * 10+q:=by omega
 refine jar Tryz.func145 rfl Tryz.call145 rfl ?_;refine xX λb3=>?_;refine xN λ_=>?_;iterate 2 refine zW ?_
 iterate 6 all_goals first | refine zW ?_ | refine xG ?_ ?_<;>intro hg
 all_goals first | (refine zY ?_;(refine zP (jap (k:=p * 10+q) rfl rfl rfl rfl zd zo (jad D.i (hz (by have:=qd (show decide (((n.dls.map D.i).length:Int)=0)=false by first | with_reducible assumption | exact hg);omega)))) ?_)) | refine zSk ?_
 iterate 3 all_goals refine zW ?_
 all_goals (
 refine xC ?_ ?_<;>intro hc
 ·(
 first
 | (exact xQ hc)
 |(
 have h21:delayV n p q=1:=by first | (have h9:=qc (show decide (((n.dls.map D.i).length:Int)=0)=true by first | with_reducible assumption | exact hg);unfold delayV;rw[qf zo]) | (have h9:=qd (show decide (((n.dls.map D.i).length:Int)=0)=false by first | with_reducible assumption | exact hg);have h8:=qc hc;unfold delayV;rw[qe zo,hkk,hz zo];exact qf h8)
 refine xP ?_
 rw[h21];rfl))
 ·(
 first
 | (exact xQ hc)
 |(
 have h21:delayV n p q=z:=by have h9:=qd (show decide (((n.dls.map D.i).length:Int)=0)=false by first | with_reducible assumption | exact hg);have h8:=qd hc;unfold delayV;rw[qe zo,hkk,hz zo];exact qe h8
 iterate 10 refine zW ?_
 refine zP (jap (k:=p * 10+q) rfl rfl rfl rfl zd zo (jad D.i (hz (by have:=qd (show decide (((n.dls.map D.i).length:Int)=0)=false by first | with_reducible assumption | exact hg);omega)))) ?_;refine xP ?_
 rw[h21];rfl)))
def badNt(n:Ntw):Bool:=decide ((n.pcs.length:Int)>4000)||(decide (n.next<0)||(decide (n.next>1000000000)||(!partsV n.parts||(!decide ((n.dls.length:Int)=0)&&!decide ((n.dls.length:Int)=100)))))
theorem jl2(n:Ntw):headNt n=!badNt n:=by
 unfold headNt badNt;cases partsV n.parts
 ·simp
 ·(
 rw[Bool.eq_iff_iff];simp only[qh,Bool.and_true,qo,Bool.not_eq_true',Bool.or_eq_false_iff,decide_eq_false_iff_not,Bool.not_eq_false',gt_iff_lt,ge_iff_le,Bool.or_eq_true,Bool.and_eq_false_iff,Bool.not_true,Bool.false_or]
 omega)
def okPc(q:Option Pcl)(p:Pcl):Bool:=match q with | none=>true | some x=>befV x p
def prevP(l:List Pcl)(k:Nat):Option Pcl:=if k=0 then none else l[k - 1]?
theorem jhT(n:Ntw)(q:Option Pcl)(p:Pcl)(r:List Pcl):pclGo n q (p::r)=((pclOk n p&&okPc q p)&&pclGo n (some p) r):=by cases q<;>rfl
theorem jpl{x:Pcl}(h:l[k]?=some x):prevP l (k+1)=some x:=by
 unfold prevP;rw[qe zo,Nat.add_sub_cancel,h]
theorem jxG{x:Pcl}(hy:0<k->l[k - 1]?=some y):okPc (prevP l k) x=if (0:Int)<(k:Int) then befV y x else true:=by
 unfold prevP
 by_cases h:k=0
 ·rw[qf h,qe zo];rfl
 ·rw[qe h,qf zo,hy zo];rfl
theorem jnO{α:Type}{l:List α}(x:α)(h:k<=l.length):∃y,0<k->l[k - 1]?=some y:=by
 rcases Nat.eq_zero_or_pos k with h0 | h0
 ·exact⟨x,λh1=>by omega⟩
 ·exact⟨l[k - 1]'zo,λ_=>ze _⟩
theorem jsM(h:badNt n=true):checkNt n=false:=by unfold checkNt;rw[jl2,h];rfl
theorem jry(h:n.dls.all delOk=false):checkNt n=false:=by unfold checkNt;rw[h,qB];rfl
theorem jkO{c:Bool}(h1:badNt n=false)(h2:n.dls.all delOk=true)(h3:pclGo n none n.pcs=c):checkNt n=c:=by unfold checkNt;rw[jl2,h1,h2,h3];rfl
theorem jrQ{x:Pcl}{f:Pcl->Bool}(h:l[i]?=some x):(l.take (i+1)).filter f=(l.take i).filter f++(if f x=true then [x] else []):=by
 rw[List.take_add_one,h,List.filter_append]
 congr 1
 show List.filter f [x]=_;cases hf:f x<;>simp[hf]
theorem jwM(q:List Pcl)(x:Pcl):List.map pcv q++[pcv x]=(q++[x]).map pcv:=by rw[List.map_append];rfl
theorem jcH{a:Int}(h:nodeN a=true):0<=a/\a<=9:=by
 simp only[nodeN,qh,qo] at h;omega
theorem jbX(n:Ntw)(hN:NtI n):C0 100 [ntv n] (.b (checkNt n)):=by
 refine xI Tryz.func100 Tryz.call100 λhcap=>?_;have hml:(n.pcs.map pcv).length=n.pcs.length:=by simp
 have hdl:(n.dls.map D.i).length=n.dls.length:=by simp
 have hpl:=hN.hl;have hddl:=hN.dls;refine xX λb1=>?_;refine xN λ_=>?_;iterate 2 refine zW ?_
 iterate 12 all_goals first | refine zW ?_ | refine xG ?_ ?_<;>intro hg
 all_goals first | (refine zY ?_;refine jaa zRc (jh6 n.parts) rfl rfl ?_) | refine zSk ?_
 iterate 5 all_goals first | refine zW ?_ | refine xG ?_ ?_<;>intro hg
 all_goals first | (refine zY ?_;(first | refine zLn λ_=>?_ | refine zW ?_)) | refine zSk ?_
 iterate 4 all_goals first | refine zW ?_ | refine xG ?_ ?_<;>intro hg
 all_goals first | (refine zY ?_;(first | refine zLn λ_=>?_ | refine zW ?_)) | refine zSk ?_
 iterate 3 all_goals refine zW ?_
 all_goals (
 refine xC ?_ ?_<;>intro hc
 ·(
 first
 | (exact xQ hc)
 |(
 have h38:badNt n=true:=by unfold badNt;rw[<-hml,<-hdl];first | (simp only[*,Bool.or_true,Bool.true_or,Bool.or_false,Bool.false_or,Bool.and_true,qx,qB,qy,Bool.not_true,Bool.not_false];done) | (simp[*];done) | grind
 refine xP ?_
 rw[jsM h38];rfl))
 ·(
 first
 | (exact xQ hc)
 |(
 have h38:badNt n=false:=by unfold badNt;rw[<-hml,<-hdl];first | (simp only[*,Bool.or_true,Bool.true_or,Bool.or_false,Bool.false_or,Bool.and_true,qx,qB,qy,Bool.not_true,Bool.not_false];done) | (simp[*];done) | grind
 refine xN λ_=>?_;iterate 4 refine zW ?_
 refine jah [1,40,41] [.box b1 _ _] (λ(i:Nat) r=>(42,.i (i:Int))::r) (λi r=>r) (λi=>i<=n.dls.length/\(n.dls.drop i).all delOk=n.dls.all delOk) (λi=>n.dls.length - i) (0) zRc ⟨by omega,rfl⟩ (zWk) ?_;intro i ⟨hi,hI0⟩;refine xC ?_ ?_<;>intro hc
 ·(
 have hlt0:=qc hc;obtain⟨z,hz,hd0⟩:=jab (l:=n.dls) (k:=i) zo;have hz':=jad D.i hz;iterate 16 refine zW ?_
 iterate 3 all_goals first | refine zW ?_ | refine xG ?_ ?_<;>intro hg
 all_goals (
 refine xC ?_ ?_<;>intro hc
 ·(
 first
 | (exact xQ hc)
 |(
 have h51:delOk z=false:=by unfold delOk;first | (have h1:=qc hg;rw[qz zo];rfl) | (have h1:=qc hc;rw[qz (p:=z<=20) zo,qB])
 rw[hd0,List.all_cons,h51,qy] at hI0;refine xP ?_
 rw[jry hI0.symm];rfl))
 ·(
 first
 | (exact xQ hc)
 |(
 have h51:delOk z=true:=by have h1:=qd hg;have h2:=qd hc;unfold delOk;rw[qg zo,qg zo];rfl
 iterate 8 refine zW ?_
 rw[hd0,List.all_cons,h51,qx] at hI0
 refine⟨i+1,⟨by omega,hI0⟩,by omega,zWk⟩))))
 ·(
 have hge0:=qd hc;rw[jae zo,List.all_nil] at hI0;refine xN λ_=>?_;iterate 4 refine zW ?_
 refine jah [1,54,55] [.box b1 _ _] (λ(k:Nat) r=>(56,.i (k:Int))::r) (λk r=>r) (λk=>k<=n.pcs.length/\pclGo n (prevP n.pcs k) (n.pcs.drop k)=pclGo n none n.pcs) (λk=>n.pcs.length - k) (0) zRc ⟨by omega,rfl⟩ (zWk) ?_;intro k ⟨hk,hI⟩;refine xC ?_ ?_<;>intro hc
 ·(
 have hlt:=qc hc;obtain⟨x,hx,hd⟩:=jab (l:=n.pcs) (k:=k) zo;have hx':=jad pcv hx;obtain⟨y,hy⟩:=jnO x hk;have hq:=jxG (x:=x) hy;refine xL λb6=>?_;iterate 5 refine zW ?_
 refine zDr [] ?_;refine zT 0 ?_;refine zT 1 ?_;refine zOn 2 ?_;refine xA (jbk x.src) ?_;refine zW ?_;refine zT 3 ?_;refine zT 4 ?_;refine jai 4 rfl (λhg=>?_) λhg=>?_
 rotate_left
 case' _ =>(
 refine zT 5 ?_;refine zT 6 ?_;refine zOn 7 ?_;refine xA (jbk x.dst) ?_;refine zW ?_;refine zT 8 ?_;refine zT 9 ?_;refine zT 10 ?_;refine jai 10 rfl (λhg=>?_) λhg=>?_
 rotate_left
 case' _ =>(
 refine zT 11 ?_;refine zT 12 ?_;refine zT 13 ?_;refine zT 14 ?_;refine zT 15 ?_;refine zT 16 ?_;refine zT 17 ?_;refine jai 17 rfl (λhg=>?_) λhg=>?_
 rotate_left
 case' _ =>(
 refine zT 18 ?_;refine zT 19 ?_;refine zT 20 ?_;refine zT 21 ?_;refine zT 22 ?_;refine jai 22 rfl (λhg=>?_) λhg=>?_
 rotate_left
 case' _ =>(
 refine zT 23 ?_;refine zT 24 ?_;refine zT 25 ?_;refine zT 26 ?_;refine zT 27 ?_;refine jai 27 rfl (λhg=>?_) λhg=>?_
 rotate_left
 case' _ =>(
 refine zT 28 ?_;refine zT 29 ?_;refine zT 30 ?_;refine zT 31 ?_;refine zT 32 ?_;refine jai 32 rfl (λhg=>?_) λhg=>?_
 rotate_left
 case' _ =>(
 refine zT 33 ?_;refine zT 34 ?_;refine zT 35 ?_;refine zT 36 ?_;refine zT 37 ?_;refine zT 38 ?_;refine zT 39 ?_;refine jai 39 rfl (λhg=>?_) λhg=>?_
 rotate_left
 case' _ =>(
 refine zT 40 ?_;refine zT 41 ?_;refine zT 42 ?_;refine jai 42 rfl (λhg=>?_) λhg=>?_
 rotate_left
 case' _ =>(
 refine zK 43 ?_;refine zK 44 ?_;refine zK 45 ?_;refine zK 46 ?_;refine zK 47 ?_;refine zK 48 ?_;refine zK 49 ?_;refine zK 50 ?_;refine zK 51 ?_;refine zT 52 ?_;refine zT 53 ?_
 refine zW ?_)
 rotate_right
 case' _ =>(
 refine zT 43 ?_;refine zT 44 ?_;refine zT 45 ?_;refine zT 46 ?_;refine jam 47 rfl zGd zKr zKr zKr (AP.ar (jap (k:=k - 1) rfl rfl rfl rfl zd (by have h9:decide ((k:Int)>0)=true:=(by first | with_reducible assumption | exact hg);have:=qc h9;omega) (jad pcv (hy (by have h9:decide ((k:Int)>0)=true:=(by first | with_reducible assumption | exact hg);have:=qc h9;omega))))) rfl rfl ?_;refine zT 48 ?_;refine zT 49 ?_;refine zOn 50 ?_;refine xA (jhv y x) ?_;refine zW ?_;refine zT 51 ?_;refine zT 52 ?_;refine zT 53 ?_
 refine zW ?_))
 rotate_right
 case' _ =>(
 refine zK 40 ?_;refine zK 41 ?_;refine zKu 42 ?_;refine zK 43 ?_;refine zK 44 ?_;refine zK 45 ?_;refine zK 46 ?_;refine zK 47 ?_;refine zK 48 ?_;refine zK 49 ?_;refine zK 50 ?_;refine zK 51 ?_;refine zK 52 ?_;refine zT 53 ?_
 refine zW ?_))
 rotate_right
 case' _ =>(
 refine zK 33 ?_;refine zK 34 ?_;refine zK 35 ?_;refine zK 36 ?_;refine zK 37 ?_;refine zT 38 ?_;refine zT 39 ?_;refine zK 40 ?_;refine zK 41 ?_;refine zKu 42 ?_;refine zK 43 ?_;refine zK 44 ?_;refine zK 45 ?_;refine zK 46 ?_;refine zK 47 ?_;refine zK 48 ?_;refine zK 49 ?_;refine zK 50 ?_;refine zK 51 ?_;refine zK 52 ?_;refine zT 53 ?_
 refine zW ?_))
 rotate_right
 case' _ =>(
 refine zK 28 ?_;refine zK 29 ?_;refine zK 30 ?_;refine zT 31 ?_;refine zT 32 ?_;refine zK 33 ?_;refine zK 34 ?_;refine zK 35 ?_;refine zK 36 ?_;refine zK 37 ?_;refine zT 38 ?_;refine zT 39 ?_;refine zK 40 ?_;refine zK 41 ?_;refine zKu 42 ?_;refine zK 43 ?_;refine zK 44 ?_;refine zK 45 ?_;refine zK 46 ?_;refine zK 47 ?_;refine zK 48 ?_;refine zK 49 ?_;refine zK 50 ?_;refine zK 51 ?_;refine zK 52 ?_;refine zT 53 ?_
 refine zW ?_))
 rotate_right
 case' _ =>(
 refine zK 23 ?_;refine zK 24 ?_;refine zK 25 ?_;refine zT 26 ?_;refine zT 27 ?_;refine zK 28 ?_;refine zK 29 ?_;refine zK 30 ?_;refine zT 31 ?_;refine zT 32 ?_;refine zK 33 ?_;refine zK 34 ?_;refine zK 35 ?_;refine zK 36 ?_;refine zK 37 ?_;refine zT 38 ?_;refine zT 39 ?_;refine zK 40 ?_;refine zK 41 ?_;refine zKu 42 ?_;refine zK 43 ?_;refine zK 44 ?_;refine zK 45 ?_;refine zK 46 ?_;refine zK 47 ?_;refine zK 48 ?_;refine zK 49 ?_;refine zK 50 ?_;refine zK 51 ?_;refine zK 52 ?_;refine zT 53 ?_
 refine zW ?_))
 rotate_right
 case' _ =>(
 refine zK 18 ?_;refine zK 19 ?_;refine zK 20 ?_;refine zT 21 ?_;refine zT 22 ?_;refine zK 23 ?_;refine zK 24 ?_;refine zK 25 ?_;refine zT 26 ?_;refine zT 27 ?_;refine zK 28 ?_;refine zK 29 ?_;refine zK 30 ?_;refine zT 31 ?_;refine zT 32 ?_;refine zK 33 ?_;refine zK 34 ?_;refine zK 35 ?_;refine zK 36 ?_;refine zK 37 ?_;refine zT 38 ?_;refine zT 39 ?_;refine zK 40 ?_;refine zK 41 ?_;refine zKu 42 ?_;refine zK 43 ?_;refine zK 44 ?_;refine zK 45 ?_;refine zK 46 ?_;refine zK 47 ?_;refine zK 48 ?_;refine zK 49 ?_;refine zK 50 ?_;refine zK 51 ?_;refine zK 52 ?_;refine zT 53 ?_
 refine zW ?_))
 rotate_right
 case' _ =>(
 refine zK 11 ?_;refine zK 12 ?_;refine zK 13 ?_;refine zK 14 ?_;refine zK 15 ?_;refine zT 16 ?_;refine zT 17 ?_;refine zK 18 ?_;refine zK 19 ?_;refine zK 20 ?_;refine zT 21 ?_;refine zT 22 ?_;refine zK 23 ?_;refine zK 24 ?_;refine zK 25 ?_;refine zT 26 ?_;refine zT 27 ?_;refine zK 28 ?_;refine zK 29 ?_;refine zK 30 ?_;refine zT 31 ?_;refine zT 32 ?_;refine zK 33 ?_;refine zK 34 ?_;refine zK 35 ?_;refine zK 36 ?_;refine zK 37 ?_;refine zT 38 ?_;refine zT 39 ?_;refine zK 40 ?_;refine zK 41 ?_;refine zKu 42 ?_;refine zK 43 ?_;refine zK 44 ?_;refine zK 45 ?_;refine zK 46 ?_;refine zK 47 ?_;refine zK 48 ?_;refine zK 49 ?_;refine zK 50 ?_;refine zK 51 ?_;refine zK 52 ?_;refine zT 53 ?_
 refine zW ?_))
 rotate_right
 case' _ =>(
 refine zK 5 ?_;refine zK 6 ?_;refine zK 7 ?_;refine zK 8 ?_;refine zT 9 ?_;refine zT 10 ?_;refine zK 11 ?_;refine zK 12 ?_;refine zK 13 ?_;refine zK 14 ?_;refine zK 15 ?_;refine zT 16 ?_;refine zT 17 ?_;refine zK 18 ?_;refine zK 19 ?_;refine zK 20 ?_;refine zT 21 ?_;refine zT 22 ?_;refine zK 23 ?_;refine zK 24 ?_;refine zK 25 ?_;refine zT 26 ?_;refine zT 27 ?_;refine zK 28 ?_;refine zK 29 ?_;refine zK 30 ?_;refine zT 31 ?_;refine zT 32 ?_;refine zK 33 ?_;refine zK 34 ?_;refine zK 35 ?_;refine zK 36 ?_;refine zK 37 ?_;refine zT 38 ?_;refine zT 39 ?_;refine zK 40 ?_;refine zK 41 ?_;refine zKu 42 ?_;refine zK 43 ?_;refine zK 44 ?_;refine zK 45 ?_;refine zK 46 ?_;refine zK 47 ?_;refine zK 48 ?_;refine zK 49 ?_;refine zK 50 ?_;refine zK 51 ?_;refine zK 52 ?_;refine zT 53 ?_
 refine zW ?_)
 all_goals (
 refine xC ?_ ?_<;>intro hc
 ·(
 first
 | (exact xQ hc)
 |(
 have hq0:(pclOk n x&&okPc (prevP n.pcs k) x)=false:=by rw[hq];unfold pclOk;first | (simp[*];done) | grind
 refine xP ?_;rw[hd,jhT,hq0,qy] at hI
 rw[jkO h38 hI0.symm hI.symm];rfl))
 ·(
 first
 | (exact xQ hc)
 |(
 have hq0:(pclOk n x&&okPc (prevP n.pcs k) x)=true:=by rw[hq];unfold pclOk;first | (simp[*];done) | grind
 iterate 8 refine zW ?_
 rw[hd,jhT,hq0,qx,<-jpl hx] at hI
 refine⟨k+1,⟨by omega,hI⟩,by omega,zWk⟩))))
 ·(
 have hge:=qd hc;rw[jae zo] at hI;refine xP ?_
 rw[jkO h38 hI0.symm hI.symm];rfl)))))
theorem jqt(n:Ntw)(a b:Int):C0 140 [ntv n,.i a,.i b] (.b (apartV n a b)):=by
 refine xI Tryz.func140 Tryz.call140 λhcap=>?_;have hml:(n.parts.map D.i).length=n.parts.length:=by simp
 refine xX λb3=>?_;refine xA (jbk a) ?_;iterate 2 refine zW ?_
 all_goals refine xG ?_ ?_<;>intro hg
 all_goals first | (refine zY ?_;refine jaa zRc (jbk b) rfl rfl ?_) | refine zSk ?_
 iterate 2 all_goals refine zW ?_
 all_goals (
 refine xC ?_ ?_<;>intro hc
 ·(
 first
 | (exact xQ hc)
 |(
 have h18:nodeN a=false\/nodeN b=false:=by first | (simp_all;done) | grind
 refine xP ?_
 unfold apartV;rw[qf h18];rfl))
 ·(
 first
 | (exact xQ hc)
 |(
 have h18:¬(nodeN a=false\/nodeN b=false):=by first | (simp_all;done) | grind
 have ha:0<=a/\a<=9:=jcH (by cases h:nodeN a;exact qp (.inl h) h18;rfl);have hb:0<=b/\b<=9:=jcH (by cases h:nodeN b;exact qp (.inr h) h18;rfl);iterate 3 refine zW ?_
 refine zDr [] ?_;refine zT 0 ?_;refine zT 1 ?_;refine zT 3 ?_;refine zT 4 ?_;refine zOn 2 ?_;refine xA (jlN n a ha) ?_;refine zW ?_;refine zOn 5 ?_;refine xA (jlN n b hb) ?_;refine zW ?_;refine zT 6 ?_;refine zT 7 ?_;refine zW ?_
 all_goals (
 refine xN λ_=>?_;iterate 4 refine zW ?_
 refine jah [1,2,7,8,26,27] [.box b3 _ _] (λ(i:Nat) r=>(28,.i (i:Int))::r) (λi r=>r) (λi=>i<=n.parts.length/\(n.parts.drop i).any (λs=>hasP s a&&hasP s b)=n.parts.any (λs=>hasP s a&&hasP s b)) (λi=>n.parts.length - i) (0) zRc ⟨by omega,rfl⟩ (zWk) ?_;intro i ⟨hi,hI⟩;refine xC ?_ ?_<;>intro hc
 ·(
 have hlt:=qc hc;obtain⟨z,hx,hd⟩:=jab (l:=n.parts) (k:=i) zo;have hx':=jad D.i hx;refine xA (jfA z a ha) ?_;refine zW ?_
 iterate 2 all_goals first | refine zW ?_ | refine xG ?_ ?_<;>intro hg
 all_goals first | (refine zY ?_;refine jaa zRc (jfA z b hb) rfl rfl ?_) | refine zSk ?_
 all_goals refine zW ?_
 all_goals (
 refine xC ?_ ?_<;>intro hc
 ·(
 first
 | (exact xQ hc)
 |(
 have h39:(hasP z a&&hasP z b)=true:=by first | (simp_all;done) | grind
 rw[hd,List.any_cons,h39,Bool.true_or] at hI;refine xP ?_
 unfold apartV;rw[qe h18,qf hI.symm];rfl))
 ·(
 first
 | (exact xQ hc)
 |(
 have h39:(hasP z a&&hasP z b)=false:=by first | (simp_all;done) | grind
 iterate 8 refine zW ?_
 rw[hd,List.any_cons,h39,Bool.false_or] at hI
 refine⟨i+1,⟨by omega,hI⟩,by omega,zWk⟩))))
 ·(
 have hge:=qd hc;rw[jae zo,List.any_nil] at hI;iterate 10 refine zW ?_
 iterate 9 all_goals first | refine zW ?_ | refine xG ?_ ?_<;>intro hg
 all_goals (
 refine xP ?_
 unfold apartV;rw[qe h18,qe (by rw[<-hI];decide)];first | (simp only[resD, *,qx,qy,Bool.and_true,qB];done) | (simp_all[resD];done) | grind[resD]))))))
theorem ju2(n:Ntw)(hN:NtI n)(now:Int):C0 103 [ntv n,.i now] (.tup [.sl 28 ((dueV n now).1.map pcv),ntv (dueV n now).2]):=by
 refine xI Tryz.func103 Tryz.call103 λhcap=>?_;have hml:(n.pcs.map pcv).length=n.pcs.length:=by simp
 have hpl:=hN.hl;refine xX λb2=>?_;refine xL λb5=>?_;refine xA (jbX n hN) ?_;refine xC ?_ ?_<;>intro hc
 ·(
 have h11:checkNt n=false:=jaw hc;refine zW ?_;refine zDr [.box b5 _ _] ?_;refine zT 0 ?_;refine zT 1 ?_;refine zOn 2 ?_;iterate 3 refine zW ?_
 all_goals (
 refine zW ?_;refine jhq 163 28 rfl ?_;refine zFz (.slice none 0 0) [4,5] ?_;refine xP ?_
 unfold dueV;rw[qf h11];rfl))
 ·(
 have h11:checkNt n=true:=jav hc;iterate 14 refine zW ?_
 refine jax [1,2,5] [.box b2 _ _,.box b5 _ _] (λ(i:Nat)(v:Value)(q:List Pcl) r=>(6,.v v)::(7,.i (i:Int))::r) (λi v q r=>.arr v 163 28 (q.map pcv)::r) (λi v q=>(i<=n.pcs.length/\q.length<=i)/\posG (dueB now) (n.pcs.drop i)+i=dueK n now/\q=(n.pcs.take i).filter (λp=>!apartV n p.src p.dst)) (λi v q=>n.pcs.length - i) (0) (.slice none 0 0) ([]) zRc ⟨⟨by omega,by simp⟩,by simp[dueK],by simp⟩ ((jaF 163 28 rfl).trans (zWk)) ?_;intro i v q ⟨⟨hi,hql⟩,hI,hQ⟩;obtain⟨x,hx⟩:=jgB n.pcs i ⟨0,0,0,0,⟨0,0,zNmn,zEvp⟩⟩;have hqm:(q.map pcv).length=q.length:=by simp
 refine xN λ_=>?_;iterate 2 refine zW ?_
 iterate 3 all_goals first | refine zW ?_ | refine xG ?_ ?_<;>intro hg
 all_goals first | (refine zY ?_;(refine zP (jap (k:=i) rfl rfl rfl rfl zd rfl (jad pcv (hx (by have h9:decide ((i:Int)<((n.pcs.map pcv).length:Int))=true:=(by first | with_reducible assumption | exact hg | exact hc);have:=qc h9;simp only[qw] at this;omega)))) ?_)) | refine zSk ?_
 iterate 5 all_goals refine zW ?_
 all_goals (
 refine xC ?_ ?_<;>intro hc
 ·(
 first
 | (exact xQ hc)
 |(
 have hdb:dueB now x=true:=hc;iterate 9 refine zW ?_
 refine zP (jap (k:=i) rfl rfl rfl rfl zd rfl (jad pcv (hx (by have h9:decide ((i:Int)<((n.pcs.map pcv).length:Int))=true:=(by first | with_reducible assumption | exact hg | exact hc);have:=qc h9;simp only[qw] at this;omega)))) ?_;refine xL λb8=>?_;refine xA (jqt n x.src x.dst) ?_;refine xC ?_ ?_<;>intro hc
 rotate_left
 case' _ =>(
 have h39:apartV n x.src x.dst=true:=jav hc;have mk39f:True:=trivial
 refine zW ?_)
 rotate_right
 case' _ =>(
 have h39:apartV n x.src x.dst=false:=jaw hc;have mk39t:True:=trivial;iterate 3 refine zW ?_
 refine xLt 163 28 344 ?_;refine xEa 163 28 344 (hb:=xLb) λv43 hv43=>?_
 iterate 2 refine zW ?_)
 all_goals (
 iterate 8 refine zW ?_
 have hlt:i<n.pcs.length:=(by have h9:decide ((i:Int)<((n.pcs.map pcv).length:Int))=true:=(by first | with_reducible assumption | exact hg | exact hc);have:=qc h9;simp only[qw] at this;omega)
 rw[jfz (lt:=dueB now) (hx hlt) (show dueB now x=true by first | with_reducible assumption | exact hc)] at hI;have hfs:=jrQ (f:=λp=>!apartV n p.src p.dst) (hx hlt)
 first
 | (have:=mk39t;rw[qf (show (!apartV n x.src x.dst)=true by rw[h39];rfl),<-hQ] at hfs;rw[show D.agg [.i x.due,.i x.src,.i x.dst,.i x.num,.i x.l.kind,.i x.l.slot,.i x.l.nom.node,.i x.l.nom.seq,.i x.l.nom.t.th,.sl 1 (x.l.nom.t.nodes.map .i),.sl 3 (avs x.l.nom.t.inner),.sl 1 (x.l.nom.votes.map strv),.sl 1 (x.l.nom.accs.map strv),.i x.l.env.node,.i x.l.env.slot,.i x.l.env.seq,.i x.l.env.t.th,.sl 1 (x.l.env.t.nodes.map .i),.sl 3 (avs x.l.env.t.inner),.i x.l.env.kind,.i x.l.env.bal.n,.v (.string x.l.env.bal.v),.i x.l.env.prep.n,.v (.string x.l.env.prep.v),.i x.l.env.prime.n,.v (.string x.l.env.prime.v),.i x.l.env.low,.i x.l.env.high]=pcv x from rfl,jwM];refine⟨i+1,_,q++[x],⟨⟨by omega,by simp;omega⟩,by omega,hfs.symm⟩,by omega,zWk⟩)
 | (have:=mk39f;rw[qe (show ¬(!apartV n x.src x.dst)=true by rw[h39];decide),<-hQ,List.append_nil] at hfs;refine⟨i+1,v,q,⟨⟨by omega,by omega⟩,by omega,hfs.symm⟩,by omega,zWk⟩))))
 ·(
 first
 | (exact xQ hc)
 |(
 have hat:dueK n now=i:=by first | (have hge:=(show n.pcs.length<=i by have h9:decide ((i:Int)<((n.pcs.map pcv).length:Int))=false:=(by first | with_reducible assumption | exact hg | exact hc);have:=qd h9;simp only[qw] at this;omega);rw[jdy hge] at hI;omega) | (rw[jcN (lt:=dueB now) (hx (by have h9:decide ((i:Int)<((n.pcs.map pcv).length:Int))=true:=(by first | with_reducible assumption | exact hg | exact hc);have:=qc h9;simp only[qw] at this;omega)) (show dueB now x=false by first | with_reducible assumption | exact hc)] at hI;omega)
 iterate 11 refine zW ?_
 first | refine xEa 163 28 344 (hb:=xLb) λv50 hv50=>?_ | refine xEn 163 28 344 (hb:=xLb) λv50 hv50=>?_
 iterate 5 refine zW ?_
 rw[<-List.map_drop];refine zFz v50 [2,5,6] ?_;refine zFz v [2,5,6] ?_;refine zDr [.box b5 _ _] ?_;refine zT 0 ?_;refine zT 1 ?_;refine zT 2 ?_;refine zOn 3 ?_;iterate 3 refine zW ?_
 all_goals (
 refine xP ?_
 unfold dueV;rw[qe (by rw[h11];decide),hat,<-hQ];rfl)))))
theorem jt2:tmade Tryz.prog 3 (100 * 1)=some (List.replicate 100 (.int .i64 0)):=by kernel_rfl
theorem jeK{w:World}{O:Nat->Prop}:∀k:Nat,RepE w O 1 (List.replicate k (D.i 0)) (List.replicate k (.int .i64 0))
 | 0=>by simp[RepE]
 | k+1=>by
  rw[List.replicate_succ,List.replicate_succ];simp only[RepE];exact⟨.int .i64 0,_,rfl,rfl,λu hu=>by simp[Value.cells] at hu;rw[hu];rfl,rfl,jeK k⟩
theorem jt9{l:List Int}(h:l.all delOk=true):0<=(l[k]?).getD 0/\(l[k]?).getD 0<=20:=by
 cases hx:l[k]? with
 | none=>exact⟨by decide,by decide⟩
 | some x =>
  have:=List.all_eq_true.1 h x (qk hx);simp only[delOk,qh,qo] at this;simp only[Option.getD_some];omega
theorem jtK{a b:Int}(h:n.dls.all delOk=true):0<=delayV n a b/\delayV n a b<=20:=by
 have:=jt9 (k:=(a * 10+b).toNat) h;unfold delayV;split
 ·omega
 ·split<;>omega
theorem jrj(p:Pcl)(l:List Pcl):frontGo p l 0=0:=rfl
theorem jsp{p:Pcl}(hk:0<k)(hy:l[k - 1]?=some y)(h:befV p y=true):frontGo p l k=frontGo p l (k - 1):=by
 obtain⟨j,rfl⟩:∃j,k=j+1:=⟨k - 1,by omega⟩
 rw[Nat.add_sub_cancel] at hy;rw[frontGo,hy,Nat.add_sub_cancel];exact qf h
theorem jtf{p:Pcl}(hk:0<k)(hy:l[k - 1]?=some y)(h:befV p y=false):frontGo p l k=k:=by
 obtain⟨j,rfl⟩:∃j,k=j+1:=⟨k - 1,by omega⟩
 rw[Nat.add_sub_cancel] at hy;rw[frontGo,hy];exact qe (show ¬befV p y=true by rw[h];decide)
theorem jxP(l:List Int):(l.map D.i).take (List.replicate 100 (D.i 0)).length++(List.replicate 100 (D.i 0)).drop (l.map D.i).length=(padD l).map D.i:=by
 unfold padD;rw[List.length_replicate,qw,List.map_append,List.map_take,List.drop_replicate,List.map_replicate]
theorem jlw(n:Ntw)(hN:NtI n)(a b:Int)(l:Ltr)(now:Int):C0 107 [ntv n,.i a,.i b,ltv l,.i now] (.tup [ntv (sendV n a b l now).1,.i (sendV n a b l now).2]):=by
 refine xI Tryz.func107 Tryz.call107 λhcap=>?_;have hml:(n.pcs.map pcv).length=n.pcs.length:=by simp
 have hpl:=hN.hl;refine xX λb5=>?_;refine zBx λb8=>?_;refine zAl λb10=>?_;refine xA (jbX n hN) ?_;refine xC ?_ ?_<;>intro hc
 ·(
 have h15:checkNt n=false:=jaw hc;iterate 2 refine zW ?_
 refine zP (AP.up (jaj zKr rfl zRc jay) (d':=ntv zNtw) xUp) ?_;refine xP ?_
 unfold sendV;rw[qf h15];rfl)
 ·(
 have h15:checkNt n=true:=jav hc;have hcp:=jby h15;refine xA (jbk a) ?_;iterate 2 refine zW ?_
 all_goals refine xG ?_ ?_<;>intro hg
 all_goals first | (refine zY ?_;refine jaa zRc (jbk b) rfl rfl ?_) | refine zSk ?_
 iterate 8 all_goals first | refine zW ?_ | refine xG ?_ ?_<;>intro hg
 all_goals (
 refine xC ?_ ?_<;>intro hc
 ·(
 first
 | (exact xQ hc)
 |(
 have h20:(nodeN a=false\/nodeN b=false)\/a=b:=by first | (simp_all;done) | grind
 iterate 2 refine zW ?_
 refine zP (AP.up (jaj zKr rfl zRc jay) (d':=ntv zNtw) xUp) ?_;refine xP ?_
 unfold sendV;rw[qe (by rw[h15];decide),qf h20];rfl))
 ·(
 first
 | (exact xQ hc)
 |(
 have h20:¬((nodeN a=false\/nodeN b=false)\/a=b):=by first | (simp_all;done) | grind
 have ha:0<=a/\a<=9:=jcH (by cases h:nodeN a;exact qp (.inl (.inl h)) h20;rfl);have hb:0<=b/\b<=9:=jcH (by cases h:nodeN b;exact qp (.inl (.inr h)) h20;rfl);iterate 5 refine zW ?_
 iterate 4 all_goals first | refine zW ?_ | refine xG ?_ ?_<;>intro hg
 all_goals (
 refine xC ?_ ?_<;>intro hc
 ·(
 first
 | (exact xQ hc)
 |(
 have h35:now<0\/now>200:=by first | exact .inl (qc hg) | exact .inr (qc hc)
 iterate 2 refine zW ?_
 refine zP (AP.up (jaj zKr rfl zRc jay) (d':=ntv zNtw) xUp) ?_;refine xP ?_
 unfold sendV;rw[qe (by rw[h15];decide),qe h20,qf h35];rfl))
 ·(
 first
 | (exact xQ hc)
 |(
 have h35:¬(now<0\/now>200):=by rintro(h | h);exact qd hg h;exact qd hc h
 refine xN λ_=>?_;iterate 2 refine zW ?_
 iterate 5 all_goals first | refine zW ?_ | refine xG ?_ ?_<;>intro hg
 all_goals (
 refine xC ?_ ?_<;>intro hc
 ·(
 first
 | (exact xQ hc)
 |(
 have h43:n.pcs.length=4000\/n.next=1000000000:=by first | (have:=qc hg;exact .inl zo) | exact .inr (qc hc)
 iterate 2 refine zW ?_
 refine zP (AP.up (jaj zKr rfl zRc jay) (d':=ntv zNtw) xUp) ?_;refine xP ?_
 unfold sendV;rw[qe (by rw[h15];decide),qe h20,qe h35,qf h43];rfl))
 ·(
 first
 | (exact xQ hc)
 |(
 have h43:¬(n.pcs.length=4000\/n.next=1000000000):=by have h1:=qd hg;have h2:=qd hc;omega
 have hdb:=jtK (a:=a) (b:=b) hcp.2.2.2.2.1;iterate 4 refine zW ?_
 refine zDr [] ?_;refine zT 0 ?_;refine zT 1 ?_;refine zT 2 ?_;refine zT 3 ?_;refine zT 6 ?_;refine zT 7 ?_;refine zT 8 ?_;refine zT 9 ?_;refine zT 10 ?_;refine zE2 4 12 ?_ ?_
 rotate_left
 case' _ =>(
 refine zAl λb12=>?_;refine zW ?_;refine zOn 4 ?_;refine xA (jig n a b ha hb hcp.2.2.2.1) ?_;refine zW ?_;refine zT 5 ?_;refine zT 11 ?_;refine zOn 13 ?_
 iterate 3 refine zW ?_)
 rotate_right
 case' _ =>(
 refine xA (jig n a b ha hb hcp.2.2.2.1) ?_;refine zW ?_;refine zT 5 ?_;refine zT 11 ?_;refine zOn 12 ?_;refine zAl λb12=>?_;refine zW ?_;refine zOn 13 ?_
 iterate 3 refine zW ?_)
 all_goals (
 refine xN λ_=>?_;iterate 5 refine zW ?_
 refine jah [5,10,12] [.box b5 _ _,.box b10 _ _,.box b12 _ _] (λ(k:Nat) r=>(13,.i (k:Int))::r) (λk r=>r) (λk=>k<=n.pcs.length/\frontGo (newPc n a b l now) n.pcs k=frontP (newPc n a b l now) n.pcs) (λk=>k) (n.pcs.length) zRc ⟨by omega,rfl⟩ (by rw[hml];exact zWk) ?_;intro k ⟨hk,hI⟩;obtain⟨y,hy⟩:=jnO (l:=n.pcs) (newPc n a b l now) hk;iterate 2 refine zW ?_
 refine zDr [] ?_;refine zT 0 ?_;refine zT 1 ?_;refine zT 2 ?_;refine jai 2 rfl (λhg=>?_) λhg=>?_
 rotate_left
 case' _ =>(
 refine zK 3 ?_;refine zK 4 ?_;refine zK 5 ?_;refine zK 6 ?_;refine zK 7 ?_;refine zK 8 ?_;refine zK 9 ?_;refine zK 10 ?_;refine zT 11 ?_
 refine zW ?_)
 rotate_right
 case' _ =>(
 refine zT 3 ?_;refine zT 4 ?_;refine zT 5 ?_;refine zT 6 ?_;refine zT 7 ?_;refine jam 8 rfl zGd zKr zKr zKr (AP.ar (jap (k:=k - 1) rfl rfl rfl rfl zd (by have h9:decide ((k:Int)>0)=true:=(by first | with_reducible assumption | exact hg);have:=qc h9;omega) (jad pcv (hy (by have h9:decide ((k:Int)>0)=true:=(by first | with_reducible assumption | exact hg);have:=qc h9;omega))))) rfl rfl ?_;refine zT 9 ?_;refine zOn 10 ?_;refine xA (jhv (newPc n a b l now) y) ?_;refine zW ?_;refine zT 11 ?_
 refine zW ?_)
 all_goals (
 refine xC ?_ ?_<;>intro hc
 ·(
 first
 | (exact xQ hc)
 |(
 iterate 10 refine zW ?_
 have hk0:0<k:=(by have h9:decide ((k:Int)>0)=true:=(by first | with_reducible assumption | exact hg);have:=qc h9;omega)
 rw[jsp hk0 (hy hk0) (show befV (newPc n a b l now) y=true by first | with_reducible assumption | exact hc)] at hI;rw[show ((k:Int) - 1)=((k - 1:Nat):Int) by omega]
 refine⟨k - 1,⟨by omega,hI⟩,by omega,zWk⟩))
 ·(
 first
 | (exact xQ hc)
 |(
 have hfr:frontP (newPc n a b l now) n.pcs=k:=by first | (have h9:decide ((k:Int)>0)=false:=(by first | with_reducible assumption | exact hg | exact hc);have:=qd h9;have hk0:k=0:=zo;rw[<-hI,hk0,jrj]) | (have hk0:0<k:=(by have h9:decide ((k:Int)>0)=true:=(by first | with_reducible assumption | exact hg);have:=qc h9;omega);rw[<-hI,jtf hk0 (hy hk0) (show befV (newPc n a b l now) y=false by first | with_reducible assumption | exact hc)])
 refine xN λ_=>?_;refine zW ?_;rw[show (((n.pcs.map pcv).length:Int)+1)=((n.pcs.length+1:Nat):Int) by omega];refine jpu (e:=163) (sz:=28) (by_:=344) (N:=n.pcs.length+1) rfl rfl rfl rfl ⟨by omega,by omega⟩ rfl rfl (λg=>?_);iterate 4 refine zW ?_
 refine zDr [.arr (.slice (some ⟨g,0,none⟩) 0 _) _ _ _] ?_;refine zT 0 ?_;refine zT 1 ?_;refine zT 2 ?_;refine zT 3 ?_;refine zT 4 ?_;refine zT 6 ?_;refine zT 9 ?_;refine zT 10 ?_;refine zT 11 ?_;refine zT 12 ?_;refine zE2 5 7 ?_ ?_
 rotate_left
 case' _ =>(
 refine xLt 163 28 344 ?_;refine zW ?_;refine zOn 5 ?_;refine xEa 163 28 344 (hb:=xLb) λv93 hv93=>?_;refine zW ?_;refine zOn 8 ?_;refine xEa 163 28 344 (hb:=xLb) λv96 hv96=>?_;refine zW ?_;refine zOn 13 ?_;refine xEa 163 28 344 (hb:=xLb) λv101 hv101=>?_;refine zW ?_;refine zT 14 ?_
 refine zW ?_)
 rotate_right
 case' _ =>(
 refine xEa 163 28 344 (hb:=xLb) λv93 hv93=>?_;refine zW ?_;refine zOn 7 ?_;refine xLt 163 28 344 ?_;refine zW ?_;refine zOn 8 ?_;refine xEa 163 28 344 (hb:=xLb) λv96 hv96=>?_;refine zW ?_;refine zOn 13 ?_;refine xEa 163 28 344 (hb:=xLb) λv101 hv101=>?_;refine zW ?_;refine zT 14 ?_
 refine zW ?_)
 all_goals (
 iterate 18 refine zW ?_
 rw[List.nil_append,show D.agg [.i (now+delayV n a b),.i a,.i b,.i n.next,.i l.kind,.i l.slot,.i l.nom.node,.i l.nom.seq,.i l.nom.t.th,.sl 1 (l.nom.t.nodes.map .i),.sl 3 (avs l.nom.t.inner),.sl 1 (l.nom.votes.map strv),.sl 1 (l.nom.accs.map strv),.i l.env.node,.i l.env.slot,.i l.env.seq,.i l.env.t.th,.sl 1 (l.env.t.nodes.map .i),.sl 3 (avs l.env.t.inner),.i l.env.kind,.i l.env.bal.n,.v (.string l.env.bal.v),.i l.env.prep.n,.v (.string l.env.prep.v),.i l.env.prime.n,.v (.string l.env.prime.v),.i l.env.low,.i l.env.high]=pcv (newPc n a b l now) from rfl,jc5];refine zFz v101 [5,10] ?_;refine xP ?_
 unfold sendV;rw[qe (by rw[h15];decide),qe h20,qe h35,qe h43,hfr];rfl)))))))))))))))
theorem jm2(n:Ntw)(hN:NtI n)(l:List Int):C0 55 [ntv n,.sl 1 (l.map .i)] (.tup [ntv (partN n l).1,.i (partN n l).2]):=by
 refine xI Tryz.func55 Tryz.call55 λhcap=>?_;have hml:(l.map D.i).length=l.length:=by simp
 refine xX λb2=>?_;refine zAl λb4=>?_;refine xA (jbX n hN) ?_;refine xC ?_ ?_<;>intro hc
 ·(
 have h8:checkNt n=false:=jaw hc;iterate 2 refine zW ?_
 refine zP (AP.up (jaj zKr rfl zRc jay) (d':=ntv zNtw) xUp) ?_;refine xP ?_
 unfold partN;rw[qf h8];rfl)
 ·(
 have h8:checkNt n=true:=jav hc;refine xA (jh6 l) ?_;refine xC ?_ ?_<;>intro hc
 ·(
 have h12:partsV l=false:=jaw hc;iterate 2 refine zW ?_
 refine zP (AP.up (jaj zKr rfl zRc jay) (d':=ntv zNtw) xUp) ?_;refine xP ?_
 unfold partN;rw[qe (by rw[h8];decide),qf h12];rfl)
 ·(
 have h12:partsV l=true:=jav hc;have hpl:=jin h12;iterate 5 refine zW ?_
 refine xEn 3 1 8 (hb:=xLb) λv15 hv15=>?_;iterate 5 refine zW ?_
 refine zFz v15 [2,4] ?_;refine xP ?_
 unfold partN;rw[qe (by rw[h8];decide),qe (by rw[h12];decide)];rfl))
theorem jly(n:Ntw)(hN:NtI n)(a b k:Int):C0 56 [ntv n,.i a,.i b,.i k] (.tup [ntv (delayN n a b k).1,.i (delayN n a b k).2]):=by
 refine xI Tryz.func56 Tryz.call56 λhcap=>?_;refine xX λb4=>?_;refine zAl λb8=>?_;refine xA (jbX n hN) ?_;refine xC ?_ ?_<;>intro hc
 ·(
 have h11:checkNt n=false:=jaw hc;iterate 2 refine zW ?_
 refine zP (AP.up (jaj zKr rfl zRc jay) (d':=ntv zNtw) xUp) ?_;refine xP ?_
 unfold delayN;rw[qf h11];rfl)
 ·(
 have h11:checkNt n=true:=jav hc;refine xA (jbk a) ?_;iterate 2 refine zW ?_
 all_goals refine xG ?_ ?_<;>intro hg
 all_goals first | (refine zY ?_;refine jaa zRc (jbk b) rfl rfl ?_) | refine zSk ?_
 iterate 3 all_goals refine zW ?_
 all_goals (
 refine xC ?_ ?_<;>intro hc
 ·(
 first
 | (exact xQ hc)
 |(
 have h16:nodeN a=false\/nodeN b=false:=by first | (simp_all;done) | grind
 iterate 2 refine zW ?_
 refine zP (AP.up (jaj zKr rfl zRc jay) (d':=ntv zNtw) xUp) ?_;refine xP ?_
 unfold delayN;rw[qe (by rw[h11];decide),qf h16];rfl))
 ·(
 first
 | (exact xQ hc)
 |(
 have h16:¬(nodeN a=false\/nodeN b=false):=by first | (simp_all;done) | grind
 have ha:0<=a/\a<=9:=jcH (by cases h:nodeN a;exact qp (.inl h) h16;rfl);have hb:0<=b/\b<=9:=jcH (by cases h:nodeN b;exact qp (.inr h) h16;rfl);iterate 5 refine zW ?_
 iterate 4 all_goals first | refine zW ?_ | refine xG ?_ ?_<;>intro hg
 all_goals (
 refine xC ?_ ?_<;>intro hc
 ·(
 first
 | (exact xQ hc)
 |(
 have h26:k<0\/k>20:=by first | exact .inl (qc hg) | exact .inr (qc hc)
 iterate 2 refine zW ?_
 refine zP (AP.up (jaj zKr rfl zRc jay) (d':=ntv zNtw) xUp) ?_;refine xP ?_
 unfold delayN;rw[qe (by rw[h11];decide),qe h16,qf h26];rfl))
 ·(
 first
 | (exact xQ hc)
 |(
 have h26:¬(k<0\/k>20):=by rintro(h | h);exact qd hg h;exact qd hc h
 obtain⟨p,rfl,hp⟩:=jhN ha;obtain⟨q,rfl,hq⟩:=jhN hb;have hkk:(((p:Int) * 10+(q:Int))).toNat=p * 10+q:=by omega
 iterate 5 refine zW ?_
 refine jeY (N:=100) (l:=List.replicate 100 (D.i 0)) rfl rfl rfl rfl jt2 (by simp) (λw O=>jeK 100) ⟨by decide,by decide⟩ rfl rfl (λg=>?_);iterate 8 refine zW ?_
 refine jkQ rfl jct rfl rfl rfl rfl rfl ?_;rw[jxP];iterate 10 refine zW ?_
 rw[show ((p:Int) * 10+(q:Int))=((p * 10+q:Nat):Int) by omega];refine zP (jaU (k:=p * 10+q) rfl rfl rfl rfl rfl zo) ?_;refine zSt ?_ (by apply jAg;exact rfl;exact rfl;exact jiY;exact jct;exact rfl;(simp only[qw,joM];omega));iterate 10 refine zW ?_
 rw[<-List.map_set];refine zFz (.slice (some ⟨g,0,none⟩) 100 100) [4,8] ?_;refine xP ?_
 unfold delayN;rw[qe (by rw[h11];decide),qe h16,qe h26,hkk];rfl)))))))
def trv(l:List Trust):D:=.sl 3 (avs l)
def wv(w:Wld):D:=.agg [.i w.time,.sl 6 (w.nodes.map ptv),.i w.ill,.sl 28 (w.net.pcs.map pcv),.i w.net.next,.sl 1 (w.net.parts.map .i),.sl 1 (w.net.dls.map .i),.sl 1 (w.trs.map trv)]
def badW(w:Wld):Bool:=decide (w.time<0)||(decide (w.time>200)||(decide ((w.nodes.length:Int)<1)||(decide ((w.nodes.length:Int)>10)||(decide (w.ill<0)||(decide (w.ill>=((1 * 2^w.nodes.length:Nat):Int))||(!checkNt w.net||!decide ((w.trs.length:Int)=(w.nodes.length:Int))))))))
theorem jou(w:Wld):headW w=!badW w:=by
 unfold headW badW;cases checkNt w.net
 ·simp
 ·(
 rw[Nat.one_mul,Bool.eq_iff_iff];simp only[qh,Bool.and_true,qo,Bool.not_eq_true',Bool.or_eq_false_iff,decide_eq_false_iff_not,Bool.not_eq_false',gt_iff_lt,ge_iff_le,Bool.not_true,Bool.false_or]
 omega)
theorem juI(h:badW w=true):checkW w=false:=by unfold checkW;rw[jou,h];rfl
theorem ji7{c:Bool}(h:badW w=false)(h2:wnGo w.nodes w.trs 0=c):checkW w=c:=by unfold checkW;rw[jou,h,h2];rfl
theorem jud(l:List Trust)(k:Nat):List.take k (avs l)=avs (l.take k):=by rw[jcU,jcU,List.map_take]
theorem jtY(h:badW w=false):w.trs.length=w.nodes.length:=by
 simp only[badW,Bool.or_eq_false_iff,Bool.not_eq_false',qo] at h;omega
theorem jxo{q r:List Trust}{t:Trust}(h:(!hasTr q t&&decide (validT t=0))=true):trsGo q (t::r)=trsGo (q++[t]) r:=by rw[trsGo,h,qx]
theorem jyv{q r:List Trust}{t:Trust}(h:(!hasTr q t&&decide (validT t=0))=false):trsGo q (t::r)=false:=by rw[trsGo,h,qy]
theorem jqz{l:List Trust}{x:Trust}(h:l[i]?=some x):l.take (i+1)=l.take i++[x]:=by rw[List.take_add_one,h];rfl
theorem jcB(w:Wld)(k:Int)(hk:0<=k/\k<=9)(hi:0<=w.ill/\w.ill<1024):C0 58 [wv w,.i k] (.b (sickV w k)):=by
 have hcap:=jbK;obtain⟨q,rfl,hq⟩:=jhN hk;obtain⟨m,hm⟩:=qD hi.1;have hdiv:m / 2^q<=m:=Nat.div_le_self _ _;refine jar Tryz.func58 rfl Tryz.call58 rfl ?_;refine xX λb2=>?_;iterate 4 refine zW ?_
 rw[hm];iterate 5 refine zW ?_
 (rw[jvr (by omega:q<=62)];refine zP (jeQ rfl rfl zo) ?_)
 refine zP (jcz (q:=1) rfl rfl rfl zo zo) ?_;refine xP ?_;unfold sickV;rw[hm,qq,qq,<-Go.Tq.jnf];rfl
theorem jiW(w:Wld)(k:Int):C0 53 [wv w,.i k] (.b (thereW w k)):=by
 refine xI Tryz.func53 Tryz.call53 λhcap=>?_;have hml:(w.nodes.map ptv).length=w.nodes.length:=by simp
 refine xX λb2=>?_;iterate 8 refine zW ?_
 iterate 3 all_goals first | refine zW ?_ | refine xG ?_ ?_<;>intro hg
 all_goals first | (refine zY ?_;(first | refine zLn λ_=>?_ | refine zW ?_)) | refine zSk ?_
 iterate 3 all_goals refine zW ?_
 all_goals (
 refine xP ?_
 unfold thereW;rw[<-hml];first | (simp only[resD, *,qx,qy];done) | (simp_all[resD];done) | (simp_all[resD];omega))
theorem jiI(l:List Trust)(t:Trust):C0 102 [.sl 3 (avs l),av t] (.b (hasTr l t)):=by
 refine xI Tryz.func102 Tryz.call102 λhcap=>?_;have hml:=jaQ l;refine xX λb3=>?_;refine xN λ_=>?_;iterate 4 refine zW ?_
 refine jah [3,7,8] [.box b3 _ _] (λ(i:Nat) r=>(9,.i (i:Int))::r) (λi r=>r) (λi=>i<=l.length/\hasTr (l.drop i) t=hasTr l t) (λi=>l.length - i) (0) zRc ⟨by omega,rfl⟩ (zWk) ?_;intro i ⟨hi,hI⟩;refine xC ?_ ?_<;>intro hc
 ·(
 have hlt:=qc hc;obtain⟨y,hy,hd⟩:=jab (l:=l) (k:=i) zo;have hx':=jbo hy;rw[hd,hasTr,List.any_cons] at hI;refine xL λb6=>?_;refine xA (jcd y t) ?_;refine xC ?_ ?_<;>intro hc
 ·(
 rw[show same y t=true from hc,Bool.true_or] at hI;refine xP ?_
 rw[<-hI];rfl)
 ·(
 rw[show same y t=false from hc,Bool.false_or] at hI;iterate 8 refine zW ?_
 refine⟨i+1,⟨by omega,hI⟩,by omega,zWk⟩))
 ·(
 have hge:=qd hc;rw[jae zo] at hI;refine xP ?_
 rw[<-hI];rfl)
theorem jci(w:Wld)(p:Ptc)(i:Nat)(hn:p.node=(i:Int))(hi:i<w.nodes.length)(hl:w.nodes.length<=1000):C0 63 [wv w,ptv p] (wv (withW w p)):=by
 have hcap:=jbK;have hml:(w.nodes.map ptv).length=w.nodes.length:=by simp
 obtain⟨y,hy⟩:∃y,w.nodes[i]?=some y:=⟨_,ze hi⟩
 have hyy:=jad ptv hy;refine jar Tryz.func63 rfl Tryz.call63 rfl ?_;refine xX λb2=>?_;refine zBx λb3=>?_;refine zAl λb4=>?_;iterate 6 refine zW ?_
 refine xEn 107 6 96 (hb:=xLb) λv7 hv7=>?_;iterate 5 refine zW ?_
 rw[hn];refine jfX jct (by intro e;have h5:=congrArg List.length e;simp only[qu] at h5;omega) (λg cap hv=>?_);subst hv;iterate 7 refine zW ?_
 refine jaD (off:=0) rfl rfl jdZ jct rfl hyy zRc ?_;iterate 3 refine zW ?_
 rw[show D.agg [.i (i:Int),.b p.stopped,.i p.t.th,.sl 1 (p.t.nodes.map .i),.sl 3 (avs p.t.inner),.sl 37 (p.slots.map slv)]=ptv p by unfold ptv;rw[hn],<-List.map_set];refine zFz (.slice (some ⟨g,0,none⟩) _ cap) [2,4] ?_;refine xP ?_;unfold withW;rw[show p.node.toNat=i by omega];rfl
end Go.Proofs.YtgmpjpaekpefdaaGreat
