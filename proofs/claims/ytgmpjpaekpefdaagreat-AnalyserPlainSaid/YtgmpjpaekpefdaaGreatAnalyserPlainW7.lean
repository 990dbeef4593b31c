/- Walks: each says what one function of the program answers, for the arguments that its statement names. No condition beyond what each theorem says. -/
import Derived.Test.YtgmpjpaekpefdaaGreatAnalyserPlainW6
import Derived.Test.YtgmpjpaekpefdaaGreatProg
import Derived.KernelRfl
import Derived.Tactics
import Derived.Tactics2
import Derived.StillTactics
set_option linter.unusedVariables false
set_option linter.unusedSimpArgs false
set_option maxRecDepth 4000
set_option maxHeartbeats 16000000
namespace Go.Proofs.YtgmpjpaekpefdaaGreat
open Go Go.Av Go.Tq
variable {w c:Wld} {k i d:Nat} {now:Int} {y:Ptc} {n:Ntw} {l:List Pcl} {x p:Pcl} {r:Ptc × Int} {f:Ptc→Ptc × Int}
theorem jkD (s:Slt):(lettersS s).length≤2:=by
 unfold lettersS ltrN ltrE
 split
 ·simp
 ·(
 rw [qq]
 split<;>split<;>simp)
theorem jg5 (p:Ptc) (hP:PI p):C0 106 [ptv p] (.sl 24 ((lettersP p).map ltv)):=by
 refine xI Tryz.func106 Tryz.call106 fun hcap=>?_
 have hml:(p.slots.map slv).length=p.slots.length:=by simp
 have hpl:=hP.hl
 refine xX fun b1=>?_
 refine xA (ja0 p hP) ?_
 iterate 2 refine zW ?_
 iterate 3 all_goals first | refine zW ?_ | refine xG ?_ ?_<;>intro hg
 all_goals (
 refine xC ?_ ?_<;>intro hc
 ·(
 first
 | (exact xQ hc)
 |(
 have h12:(!checkP p||p.stopped)=true:=by first | (simp_all;done) | grind
 iterate 5 refine zW ?_
 refine jgO 57 24 rfl ?_
 refine zFz (.slice none 0 0) [2] ?_
 refine xP ?_
 unfold lettersP;rw [qf h12];rfl))
 ·(
 first
 | (exact xQ hc)
 |(
 have h12:(!checkP p||p.stopped)=false:=by first | (simp_all;done) | grind
 refine xN fun _=>?_
 iterate 4 refine zW ?_
 refine jaP [14,15] [] (fun (i:Nat) (v:Value) (q:List Ltr) r=>(3,.v v)::(16,.i (i:Int))::r) (fun i v q r=>.arr v 57 24 (q.map ltv)::r) (fun i v q=>(i≤p.slots.length∧q.length≤2 * i)∧q++(p.slots.drop i).flatMap lettersS=p.slots.flatMap lettersS) (fun i v q=>p.slots.length - i) (0) (.slice none 0 0) ([]) zRc ⟨⟨by omega,by simp⟩,by simp⟩ ((jaO 57 24 rfl).trans (zWk)) ?_
 intro i v q ⟨⟨hi,hql⟩,hI⟩
 have hqm:(q.map ltv).length=q.length:=by simp
 refine xC ?_ ?_<;>intro hc
 ·(
 have hlt:=qc hc
 obtain ⟨s9,hx,hd⟩:=jab (l:=p.slots) (k:=i) (by omega)
 have hx':=jad slv hx
 have hqs:=hP.hs s9 (qj hx)
 have hl9:=jkD s9
 have hlm:((lettersS s9).map ltv).length=(lettersS s9).length:=by simp
 refine xL fun b5=>?_
 refine xA (jg3 s9 hqs) ?_
 refine xEa 57 24 312 (hb:=xLb) fun v23 hv23=>?_
 iterate 9 refine zW ?_
 rw [hd,List.flatMap_cons,← List.append_assoc] at hI
 rw [← List.map_append]
 refine ⟨i+1,_,q++lettersS s9,⟨⟨by omega,by rw [qq];omega⟩,hI⟩,by omega,zWk⟩)
 ·(
 have hge:=qd hc
 rw [jac (by omega),List.flatMap_nil,List.append_nil] at hI
 refine zFz v [3] ?_
 refine xP ?_
 unfold lettersP;rw [qe (by rw [h12];decide),← hI];rfl))))
theorem jw6 {p:Ptc} {number:Int} {g:Bool} {s9:Slt} (h10:checkP p=true) (hg0:g=thereP p number) (hk:k=atP p number) (h:¬ (g=true∧s9.done=true)) (hth:g=true→p.slots[k]?=some s9∧s9.mach.slot=number):decidedP p number=(noS,false):=by
 unfold decidedP
 rw [qe (by rw [h10];decide)]
 cases hx:p.slots[atP p number]? with
 | none=>rfl
 | some s =>
  simp only
  by_cases hs:s.mach.slot=number
  ·have ht:thereP p number=true:=by unfold thereP;rw [hx];exact qg hs
   have h1:=hth (hg0.trans ht)
   rw [hk,hx] at h1
   cases h1.1
   rw [qe (fun hh=>h ⟨hg0.trans ht,by simp only [qh] at hh;exact hh.2⟩)]
  ·rw [qe (by rw [qx hs];simp)]
theorem jhb (p:Ptc) (hP:PI p) (number:Int):C0 73 [ptv p,.i number] (.tup [.v (.string (decidedP p number).1),.b (decidedP p number).2]):=by
 have hcap:=jbu
 have hml:(p.slots.map slv).length=p.slots.length:=by simp
 have hpl:=hP.hl
 obtain ⟨s9,hs0⟩:=jgt p.slots (atP p number) zSlt
 refine jar Tryz.func73 rfl Tryz.call73 rfl ?_
 refine xX fun b2=>?_
 refine xA (ja0 p hP) ?_
 refine xC ?_ ?_<;>intro hc
 ·(
 have h10:checkP p=false:=jau hc
 refine xP ?_
 unfold decidedP;rw [qf h10];rfl)
 ·(
 have h10:checkP p=true:=jat hc
 have hl8:=(jaZ h10).2.2.1
 refine xB (jil p number (by omega)) ?_;rintro _ _ ⟨rfl,rfl⟩;obtain ⟨k,hk⟩:∃ x,x=atP p number:=⟨_,rfl⟩;obtain ⟨g,hg0⟩:∃ x,x=thereP p number:=⟨_,rfl⟩;rw [← hk,← hg0];have hkl:k≤p.slots.length:=hk ▸ jeY (ltSl number) p.slots;have hth:g=true→p.slots[k]?=some s9∧s9.mach.slot=number:=(fun h=>by obtain ⟨s,h1,h2⟩:=jhV (hg0 ▸ h:thereP p number=true);have h3:=hs0 (List.getElem?_eq_some_iff.1 h1).1;rw [h1] at h3;cases h3;rw [hk];exact ⟨h1,h2⟩)
 iterate 11 refine zW ?_
 iterate 3 all_goals first | refine zW ?_ | refine xG ?_ ?_<;>intro hg
 all_goals first | (refine zY ?_;(refine zP (jam (k:=k) rfl rfl rfl rfl (by decide) rfl (jad slv (hth (by first | with_reducible assumption | exact hg)).1)) ?_)) | refine zSk ?_
 iterate 3 all_goals refine zW ?_
 all_goals (
 refine xC ?_ ?_<;>intro hc
 ·(
 first
 | (exact xQ hc)
 |(
 have h25:g=true∧s9.done=true:=by first | exact ⟨hg,hc⟩ | (simp_all;done) | grind
 have hd9:decidedP p number=(s9.value,true):=by unfold decidedP;rw [qe (by rw [h10];decide),← hk,(hth h25.1).1];simp only;rw [qf (by rw [qg (hth h25.1).2,h25.2];rfl)]
 iterate 5 refine zW ?_
 refine zP (jam (k:=k) rfl rfl rfl rfl (by decide) rfl (jad slv (hth (by first | with_reducible assumption | exact hg)).1)) ?_
 refine xP ?_
 rw [hd9];rfl))
 ·(
 first
 | (exact xQ hc)
 |(
 have h25:¬ (g=true∧s9.done=true):=by first | (simp_all;done) | grind
 have hd9:decidedP p number=(noS,false):=jw6 h10 hg0 hk h25 hth
 refine xP ?_
 rw [hd9];rfl))))
def pcv (p:Pcl):D:=.agg [.i p.due,.i p.src,.i p.dst,.i p.num,.i p.l.kind,.i p.l.slot,.i p.l.nom.node,.i p.l.nom.seq,.i p.l.nom.t.th,.sl 1 (p.l.nom.t.nodes.map .i),.sl 3 (avs p.l.nom.t.inner),.sl 1 (p.l.nom.votes.map strv),.sl 1 (p.l.nom.accs.map strv),.i p.l.env.node,.i p.l.env.slot,.i p.l.env.seq,.i p.l.env.t.th,.sl 1 (p.l.env.t.nodes.map .i),.sl 3 (avs p.l.env.t.inner),.i p.l.env.kind,.i p.l.env.bal.n,.v (.string p.l.env.bal.v),.i p.l.env.prep.n,.v (.string p.l.env.prep.v),.i p.l.env.prime.n,.v (.string p.l.env.prime.v),.i p.l.env.low,.i p.l.env.high]
def ntv (n:Ntw):D:=.agg [.sl 28 (n.pcs.map pcv),.i n.next,.sl 1 (n.parts.map .i),.sl 1 (n.dls.map .i)]
theorem jsr {n:Nat} (h:n≤62):IntKind.u64.wrap (n:Int)=(n:Int):=by
 have h2:(n:Int)≤62:=by omega
 have h3:(0:Int)≤(n:Int):=by omega
 show ((n:Int)) % (18446744073709551616:Int)=(n:Int)
 omega
theorem jg6 {k:Int} (h:0≤k∧k≤9):∃ q:Nat,k=(q:Int)∧q≤9:=⟨k.toNat,by omega,by omega⟩
theorem jq6 {a b:Nat} (h:a<1024) (k:b<1024):a|||b<1024:=Nat.or_lt_two_pow (n:=10) h k
theorem jgx (a b:Pcl):C0 138 [pcv a,pcv b] (.b (befV a b)):=by
 refine xI Tryz.func138 Tryz.call138 fun hcap=>?_
 refine xX fun b2=>?_
 refine zBx fun b3=>?_
 refine xC ?_ ?_<;>intro hc
 ·(
 have h5:¬ a.due=b.due:=jaf hc
 refine xP ?_
 unfold befV;rw [qf h5];rfl)
 ·(
 have h5:a.due=b.due:=jae hc
 refine xC ?_ ?_<;>intro hc
 ·(
 have h16:¬ a.src=b.src:=jaf hc
 refine xP ?_
 unfold befV;rw [qe (fun h=>h h5),qf h16];rfl)
 ·(
 have h16:a.src=b.src:=jae hc
 refine xC ?_ ?_<;>intro hc
 ·(
 have h27:¬ a.dst=b.dst:=jaf hc
 refine xP ?_
 unfold befV;rw [qe (fun h=>h h5),qe (fun h=>h h16),qf h27];rfl)
 ·(
 have h27:a.dst=b.dst:=jae hc
 refine xP ?_
 unfold befV;rw [qe (fun h=>h h5),qe (fun h=>h h16),qe (fun h=>h h27)];rfl)))
theorem jbf (n:Int):C0 109 [.i n] (.b (nodeN n)):=by
 refine xI Tryz.func109 Tryz.call109 fun hcap=>?_
 iterate 10 refine zW ?_
 iterate 4 all_goals first | refine zW ?_ | refine xG ?_ ?_<;>intro hg
 all_goals (
 refine xP ?_
 unfold nodeN;first | (simp_all [resD];done) | (simp_all [resD];omega) | grind [resD])
theorem jhR (l:List Int):C0 108 [.sl 1 (l.map .i)] (.b (partsV l)):=by
 refine xI Tryz.func108 Tryz.call108 fun hcap=>?_
 have hml:(l.map D.i).length=l.length:=by simp
 refine xN fun _=>?_
 iterate 4 refine zW ?_
 refine jag [0,6,7] [] (fun (i:Nat) (a:Nat) r=>(3,.i (a:Int))::(8,.i (i:Int))::r) (fun i a r=>r) (fun i a=>i≤l.length∧a<1024∧partsGo (l.drop i) a=partsGo l 0) (fun i a=>l.length - i) (0) (0) zRc ⟨by omega,by omega,rfl⟩ (zWk) ?_
 intro i a ⟨hi,ha,hI⟩
 refine xC ?_ ?_<;>intro hc
 ·(
 have hlt:=qc hc
 obtain ⟨z,hx,hd⟩:=jab (l:=l) (k:=i) (by omega)
 have hx':=jad D.i hx
 iterate 17 refine zW ?_
 iterate 6 all_goals first | refine zW ?_ | refine xG ?_ ?_<;>intro hg
 all_goals first | (refine zY ?_;(obtain ⟨m,rfl⟩:=qz (show 0≤z by have:=qd (show decide (z<1)=false by with_reducible assumption);omega);have hm10:m<1024:=(by have:=qd (show decide ((1023:Int)<(m:Int))=false by first | with_reducible assumption | exact hg);omega);refine zW ?_)) | refine zSk ?_
 iterate 2 all_goals refine zW ?_
 all_goals (
 refine xC ?_ ?_<;>intro hc
 ·(
 first
 | (exact xQ hc)
 |(
 rw [hd,partsGo] at hI
 have hI2:partsGo l 0=false:=by rw [← hI];exact qf (by first | exact .inl (qc hg) | exact .inr (.inl (qc hg)) | (refine .inr (.inr ?_);rw [qr];have:=jaf hc;omega))
 refine xP ?_
 unfold partsV;rw [hI2];rfl))
 ·(
 first
 | (exact xQ hc)
 |(
 have h23:¬ ((m:Int)<1∨(m:Int)>1023∨¬ a&&&(m:Int).toNat=0):=by rw [qr];have h9:=jae hc;rintro (h | h | h);exact qd (show decide ((m:Int)<1)=false by with_reducible assumption) h;omega;exact h (by omega)
 iterate 15 refine zW ?_
 rw [hd,partsGo,qe h23,qr] at hI
 refine ⟨i+1,a|||m,⟨by omega,jq6 ha hm10,hI⟩,by omega,zWk⟩))))
 ·(
 have hge:=qd hc
 rw [jac (by omega),partsGo] at hI
 refine xN fun _=>?_
 refine xP ?_
 unfold partsV;rw [← hI,hml];simp [resD];omega)
theorem jeQ (s k:Int) (hk:0≤k∧k≤9):C0 172 [.i s,.i k] (.b (hasP s k)):=by
 have hcap:=jbu
 obtain ⟨q,rfl,hq⟩:=jg6 hk
 by_cases ha:0≤s
 ·(
 by_cases hb:s≤1023
 ·(
 obtain ⟨m,rfl⟩:=qz ha
 have hm:m<1024:=by omega
 have hdiv:m / 2^q≤m:=Nat.div_le_self _ _
 have mkA:=ha
 refine jar Tryz.func172 rfl Tryz.call172 rfl ?_
 iterate 10 refine zW ?_
 iterate 7 all_goals refine zW ?_
 all_goals (refine zY ?_;(rw [jsr (by omega:q≤62)];refine zP (jff rfl rfl (by omega)) ?_))
 all_goals (refine zY ?_;refine zP (jcH (q:=1) rfl rfl rfl (by omega) (by omega)) ?_)
 iterate 3 all_goals refine zW ?_
 all_goals (
 refine xP ?_
 unfold hasP
 have:=hdiv;rw [qr,qr,qg (p:=(m:Int)≥0) (by omega),qg (p:=(m:Int)≤1023) (by omega),← Go.Tq.jm0];rfl))
 ·(
 have mkB:=hb
 refine jar Tryz.func172 rfl Tryz.call172 rfl ?_
 iterate 10 refine zW ?_
 iterate 7 all_goals refine zW ?_
 all_goals refine zSk ?_
 all_goals refine zSk ?_
 iterate 3 all_goals refine zW ?_
 all_goals (
 refine xP ?_
 unfold hasP
 rw [qx (p:=s≤1023) mkB];first | (simp [resD];done) | (simp [resD];omega))))
 ·(
 have mkC:=ha
 refine jar Tryz.func172 rfl Tryz.call172 rfl ?_
 iterate 10 refine zW ?_
 iterate 7 all_goals refine zW ?_
 all_goals refine zSk ?_
 all_goals refine zSk ?_
 iterate 3 all_goals refine zW ?_
 all_goals (
 refine xP ?_
 unfold hasP
 rw [qx (p:=s≥0) mkC];first | (simp [resD];done) | (simp [resD];omega)))
theorem jkW (n:Ntw) (k:Int) (hk:0≤k∧k≤9):C0 171 [ntv n,.i k] (.i (partV n k)):=by
 refine xI Tryz.func171 Tryz.call171 fun hcap=>?_
 have hml:(n.parts.map D.i).length=n.parts.length:=by simp
 refine xX fun b2=>?_
 refine xN fun _=>?_
 iterate 4 refine zW ?_
 refine jaj [1,8,9] [.box b2 _ _] (fun (i:Nat) r=>(10,.i (i:Int))::r) (fun i r=>r) (fun i=>i≤n.parts.length∧partGo k (n.parts.drop i) i=partV n k) (fun i=>n.parts.length - i) (0) zRc ⟨by omega,rfl⟩ (zWk) ?_
 intro i ⟨hi,hI⟩
 refine xC ?_ ?_<;>intro hc
 ·(
 have hlt:=qc hc
 obtain ⟨z,hx,hd⟩:=jab (l:=n.parts) (k:=i) (by omega)
 have hx':=jad D.i hx
 refine xA (jeQ z k hk) ?_
 refine xC ?_ ?_<;>intro hc
 ·(
 have h17:hasP z k=true:=hc
 refine xP ?_
 rw [hd,partGo,qf h17] at hI
 rw [← hI];rfl)
 ·(
 have h17:hasP z k=false:=hc
 iterate 8 refine zW ?_
 rw [hd,partGo,qe (by rw [h17];decide)] at hI
 refine ⟨i+1,⟨by omega,hI⟩,by omega,zWk⟩))
 ·(
 have hge:=qd hc
 rw [jac (by omega),partGo] at hI
 refine xP ?_
 rw [← hI];rfl)
theorem jid (n:Ntw) (a b:Int) (ha:0≤a∧a≤9) (hb:0≤b∧b≤9) (hd:n.dls.length=0∨n.dls.length=100):C0 145 [ntv n,.i a,.i b] (.i (delayV n a b)):=by
 have hcap:=jbu
 have hml:(n.dls.map D.i).length=n.dls.length:=by simp
 obtain ⟨p,rfl,hp⟩:=jg6 ha
 obtain ⟨q,rfl,hq⟩:=jg6 hb
 obtain ⟨z,hz⟩:=jgt n.dls (p * 10+q) 0
 have hkk:(((p:Int) * 10+(q:Int))).toNat=p * 10+q:=by omega
 refine jar Tryz.func145 rfl Tryz.call145 rfl ?_
 refine xX fun b3=>?_
 refine xN fun _=>?_
 iterate 2 refine zW ?_
 iterate 6 all_goals first | refine zW ?_ | refine xG ?_ ?_<;>intro hg
 all_goals first | (refine zY ?_;(refine zP (jam (k:=p * 10+q) rfl rfl rfl rfl (by decide) (by omega) (jad D.i (hz (by have:=qd (show decide (((n.dls.map D.i).length:Int)=0)=false by first | with_reducible assumption | exact hg);omega)))) ?_)) | refine zSk ?_
 iterate 3 all_goals refine zW ?_
 all_goals (
 refine xC ?_ ?_<;>intro hc
 ·(
 first
 | (exact xQ hc)
 |(
 have h21:delayV n p q=1:=by first | (have h9:=qc (show decide (((n.dls.map D.i).length:Int)=0)=true by first | with_reducible assumption | exact hg);unfold delayV;rw [qf (by omega)]) | (have h9:=qd (show decide (((n.dls.map D.i).length:Int)=0)=false by first | with_reducible assumption | exact hg);have h8:=qc hc;unfold delayV;rw [qe (by omega),hkk,hz (by omega)];exact qf h8)
 refine xP ?_
 rw [h21];rfl))
 ·(
 first
 | (exact xQ hc)
 |(
 have h21:delayV n p q=z:=by have h9:=qd (show decide (((n.dls.map D.i).length:Int)=0)=false by first | with_reducible assumption | exact hg);have h8:=qd hc;unfold delayV;rw [qe (by omega),hkk,hz (by omega)];exact qe h8
 iterate 10 refine zW ?_
 refine zP (jam (k:=p * 10+q) rfl rfl rfl rfl (by decide) (by omega) (jad D.i (hz (by have:=qd (show decide (((n.dls.map D.i).length:Int)=0)=false by first | with_reducible assumption | exact hg);omega)))) ?_
 refine xP ?_
 rw [h21];rfl)))
def badNt (n:Ntw):Bool:=decide ((n.pcs.length:Int)>4000)||(decide (n.next<0)||(decide (n.next>1000000000)||(!partsV n.parts||(!decide ((n.dls.length:Int)=0)&&!decide ((n.dls.length:Int)=100)))))
theorem jke (n:Ntw):headNt n=!badNt n:=by
 unfold headNt badNt
 cases partsV n.parts
 ·simp
 ·(
 rw [Bool.eq_iff_iff]
 simp only [qh,Bool.and_true,qm,Bool.not_eq_true',Bool.or_eq_false_iff,decide_eq_false_iff_not,Bool.not_eq_false',gt_iff_lt,ge_iff_le,Bool.or_eq_true,Bool.and_eq_false_iff,Bool.not_true,Bool.false_or]
 omega)
def okPc (q:Option Pcl) (p:Pcl):Bool:=match q with | none=>true | some x=>befV x p
def prevP (l:List Pcl) (k:Nat):Option Pcl:=if k=0 then none else l[k - 1]?
theorem jhT (n:Ntw) (q:Option Pcl) (p:Pcl) (r:List Pcl):pclGo n q (p::r)=((pclOk n p&&okPc q p)&&pclGo n (some p) r):=by cases q<;>rfl
theorem jou (h:l[k]?=some x):prevP l (k+1)=some x:=by
 unfold prevP
 rw [qe (by omega),Nat.add_sub_cancel,h]
theorem jvh {y:Pcl} (hy:0<k→l[k - 1]?=some y):okPc (prevP l k) x=if (0:Int)<(k:Int) then befV y x else true:=by
 unfold prevP
 by_cases h:k=0
 ·rw [qf h,qe (by omega)];rfl
 ·rw [qe h,qf (by omega),hy (by omega)];rfl
theorem jmY {α:Type} {l:List α} (x:α) (h:k≤l.length):∃ y,0<k→l[k - 1]?=some y:=by
 rcases Nat.eq_zero_or_pos k with h0 | h0
 ·exact ⟨x,fun h1=>by omega⟩
 ·exact ⟨l[k - 1]'(by omega),fun _=>List.getElem?_eq_getElem _⟩
theorem jrM (h:badNt n=true):checkNt n=false:=by unfold checkNt;rw [jke,h];rfl
theorem jrf (h:n.dls.all delOk=false):checkNt n=false:=by unfold checkNt;rw [h,qw];rfl
theorem jjy {c:Bool} (h1:badNt n=false) (h2:n.dls.all delOk=true) (h3:pclGo n none n.pcs=c):checkNt n=c:=by unfold checkNt;rw [jke,h1,h2,h3];rfl
theorem jrB {f:Pcl→Bool} (h:l[i]?=some x):(l.take (i+1)).filter f=(l.take i).filter f++(if f x=true then [x] else []):=by
 rw [List.take_add_one,h,List.filter_append]
 congr 1
 show List.filter f [x]=_
 cases hf:f x<;>simp [hf]
theorem jvv (q:List Pcl) (x:Pcl):List.map pcv q++[pcv x]=(q++[x]).map pcv:=by rw [List.map_append];rfl
theorem jcn {a:Int} (h:nodeN a=true):0≤a∧a≤9:=by
 simp only [nodeN,qh,qm] at h;omega
theorem jbG (n:Ntw) (hN:NtI n):C0 100 [ntv n] (.b (checkNt n)):=by
 refine xI Tryz.func100 Tryz.call100 fun hcap=>?_
 have hml:(n.pcs.map pcv).length=n.pcs.length:=by simp
 have hdl:(n.dls.map D.i).length=n.dls.length:=by simp
 have hpl:=hN.hl
 have hddl:=hN.dls
 refine xX fun b1=>?_
 refine xN fun _=>?_
 iterate 2 refine zW ?_
 iterate 12 all_goals first | refine zW ?_ | refine xG ?_ ?_<;>intro hg
 all_goals first | (refine zY ?_;refine jaa zRc (jhR n.parts) rfl rfl ?_) | refine zSk ?_
 iterate 5 all_goals first | refine zW ?_ | refine xG ?_ ?_<;>intro hg
 all_goals first | (refine zY ?_;(first | refine zLn fun _=>?_ | refine zW ?_)) | refine zSk ?_
 iterate 4 all_goals first | refine zW ?_ | refine xG ?_ ?_<;>intro hg
 all_goals first | (refine zY ?_;(first | refine zLn fun _=>?_ | refine zW ?_)) | refine zSk ?_
 iterate 3 all_goals refine zW ?_
 all_goals (
 refine xC ?_ ?_<;>intro hc
 ·(
 first
 | (exact xQ hc)
 |(
 have h38:badNt n=true:=by unfold badNt;rw [← hml,← hdl];first | (simp only [*,Bool.or_true,Bool.true_or,Bool.or_false,Bool.false_or,Bool.and_true,qs,qw,qv,Bool.not_true,Bool.not_false];done) | (simp [*];done) | grind
 refine xP ?_
 rw [jrM h38];rfl))
 ·(
 first
 | (exact xQ hc)
 |(
 have h38:badNt n=false:=by unfold badNt;rw [← hml,← hdl];first | (simp only [*,Bool.or_true,Bool.true_or,Bool.or_false,Bool.false_or,Bool.and_true,qs,qw,qv,Bool.not_true,Bool.not_false];done) | (simp [*];done) | grind
 refine xN fun _=>?_
 iterate 4 refine zW ?_
 refine jaj [1,40,41] [.box b1 _ _] (fun (i:Nat) r=>(42,.i (i:Int))::r) (fun i r=>r) (fun i=>i≤n.dls.length∧(n.dls.drop i).all delOk=n.dls.all delOk) (fun i=>n.dls.length - i) (0) zRc ⟨by omega,rfl⟩ (zWk) ?_
 intro i ⟨hi,hI0⟩
 refine xC ?_ ?_<;>intro hc
 ·(
 have hlt0:=qc hc
 obtain ⟨z,hz,hd0⟩:=jab (l:=n.dls) (k:=i) (by omega)
 have hz':=jad D.i hz
 iterate 16 refine zW ?_
 iterate 3 all_goals first | refine zW ?_ | refine xG ?_ ?_<;>intro hg
 all_goals (
 refine xC ?_ ?_<;>intro hc
 ·(
 first
 | (exact xQ hc)
 |(
 have h51:delOk z=false:=by unfold delOk;first | (have h1:=qc hg;rw [qx (by omega)];rfl) | (have h1:=qc hc;rw [qx (p:=z≤20) (by omega),qw])
 rw [hd0,List.all_cons,h51,qv] at hI0
 refine xP ?_
 rw [jrf hI0.symm];rfl))
 ·(
 first
 | (exact xQ hc)
 |(
 have h51:delOk z=true:=by have h1:=qd hg;have h2:=qd hc;unfold delOk;rw [qg (by omega),qg (by omega)];rfl
 iterate 8 refine zW ?_
 rw [hd0,List.all_cons,h51,qs] at hI0
 refine ⟨i+1,⟨by omega,hI0⟩,by omega,zWk⟩))))
 ·(
 have hge0:=qd hc
 rw [jac (by omega),List.all_nil] at hI0
 refine xN fun _=>?_
 iterate 4 refine zW ?_
 refine jaj [1,54,55] [.box b1 _ _] (fun (k:Nat) r=>(56,.i (k:Int))::r) (fun k r=>r) (fun k=>k≤n.pcs.length∧pclGo n (prevP n.pcs k) (n.pcs.drop k)=pclGo n none n.pcs) (fun k=>n.pcs.length - k) (0) zRc ⟨by omega,rfl⟩ (zWk) ?_
 intro k ⟨hk,hI⟩
 refine xC ?_ ?_<;>intro hc
 ·(
 have hlt:=qc hc
 obtain ⟨x,hx,hd⟩:=jab (l:=n.pcs) (k:=k) (by omega)
 have hx':=jad pcv hx
 obtain ⟨y,hy⟩:=jmY x hk
 have hq:=jvh (x:=x) hy
 refine xL fun b6=>?_
 iterate 5 refine zW ?_
 refine zDr [] ?_
 refine zT 0 ?_;refine zT 1 ?_;refine zOn 2 ?_
 refine xA (jbf x.src) ?_
 refine zW ?_
 refine zT 3 ?_;refine zT 4 ?_
 refine jai 4 rfl (fun hg=>?_) fun hg=>?_
 rotate_left
 case' _ =>(
 refine zT 5 ?_;refine zT 6 ?_;refine zOn 7 ?_
 refine xA (jbf x.dst) ?_
 refine zW ?_
 refine zT 8 ?_;refine zT 9 ?_;refine zT 10 ?_
 refine jai 10 rfl (fun hg=>?_) fun hg=>?_
 rotate_left
 case' _ =>(
 refine zT 11 ?_;refine zT 12 ?_;refine zT 13 ?_;refine zT 14 ?_;refine zT 15 ?_;refine zT 16 ?_;refine zT 17 ?_
 refine jai 17 rfl (fun hg=>?_) fun hg=>?_
 rotate_left
 case' _ =>(
 refine zT 18 ?_;refine zT 19 ?_;refine zT 20 ?_;refine zT 21 ?_;refine zT 22 ?_
 refine jai 22 rfl (fun hg=>?_) fun hg=>?_
 rotate_left
 case' _ =>(
 refine zT 23 ?_;refine zT 24 ?_;refine zT 25 ?_;refine zT 26 ?_;refine zT 27 ?_
 refine jai 27 rfl (fun hg=>?_) fun hg=>?_
 rotate_left
 case' _ =>(
 refine zT 28 ?_;refine zT 29 ?_;refine zT 30 ?_;refine zT 31 ?_;refine zT 32 ?_
 refine jai 32 rfl (fun hg=>?_) fun hg=>?_
 rotate_left
 case' _ =>(
 refine zT 33 ?_;refine zT 34 ?_;refine zT 35 ?_;refine zT 36 ?_;refine zT 37 ?_;refine zT 38 ?_;refine zT 39 ?_
 refine jai 39 rfl (fun hg=>?_) fun hg=>?_
 rotate_left
 case' _ =>(
 refine zT 40 ?_;refine zT 41 ?_;refine zT 42 ?_
 refine jai 42 rfl (fun hg=>?_) fun hg=>?_
 rotate_left
 case' _ =>(
 refine zK 43 ?_;refine zK 44 ?_;refine zK 45 ?_;refine zK 46 ?_;refine zK 47 ?_;refine zK 48 ?_;refine zK 49 ?_;refine zK 50 ?_;refine zK 51 ?_;refine zT 52 ?_;refine zT 53 ?_
 refine zW ?_)
 rotate_right
 case' _ =>(
 refine zT 43 ?_;refine zT 44 ?_;refine zT 45 ?_;refine zT 46 ?_
 refine jan 47 rfl zGd zKr zKr zKr (AP.ar (jam (k:=k - 1) rfl rfl rfl rfl (by decide) (by have h9:decide ((k:Int)>0)=true:=(by first | with_reducible assumption | exact hg);have:=qc h9;omega) (jad pcv (hy (by have h9:decide ((k:Int)>0)=true:=(by first | with_reducible assumption | exact hg);have:=qc h9;omega))))) rfl rfl ?_
 refine zT 48 ?_;refine zT 49 ?_;refine zOn 50 ?_
 refine xA (jgx y x) ?_
 refine zW ?_
 refine zT 51 ?_;refine zT 52 ?_;refine zT 53 ?_
 refine zW ?_))
 rotate_right
 case' _ =>(
 refine zK 40 ?_;refine zK 41 ?_;refine zKu 42 ?_;refine zK 43 ?_;refine zK 44 ?_;refine zK 45 ?_;refine zK 46 ?_;refine zK 47 ?_;refine zK 48 ?_;refine zK 49 ?_;refine zK 50 ?_;refine zK 51 ?_;refine zK 52 ?_;refine zT 53 ?_
 refine zW ?_))
 rotate_right
 case' _ =>(
 refine zK 33 ?_;refine zK 34 ?_;refine zK 35 ?_;refine zK 36 ?_;refine zK 37 ?_;refine zT 38 ?_;refine zT 39 ?_;refine zK 40 ?_;refine zK 41 ?_;refine zKu 42 ?_;refine zK 43 ?_;refine zK 44 ?_;refine zK 45 ?_;refine zK 46 ?_;refine zK 47 ?_;refine zK 48 ?_;refine zK 49 ?_;refine zK 50 ?_;refine zK 51 ?_;refine zK 52 ?_;refine zT 53 ?_
 refine zW ?_))
 rotate_right
 case' _ =>(
 refine zK 28 ?_;refine zK 29 ?_;refine zK 30 ?_;refine zT 31 ?_;refine zT 32 ?_;refine zK 33 ?_;refine zK 34 ?_;refine zK 35 ?_;refine zK 36 ?_;refine zK 37 ?_;refine zT 38 ?_;refine zT 39 ?_;refine zK 40 ?_;refine zK 41 ?_;refine zKu 42 ?_;refine zK 43 ?_;refine zK 44 ?_;refine zK 45 ?_;refine zK 46 ?_;refine zK 47 ?_;refine zK 48 ?_;refine zK 49 ?_;refine zK 50 ?_;refine zK 51 ?_;refine zK 52 ?_;refine zT 53 ?_
 refine zW ?_))
 rotate_right
 case' _ =>(
 refine zK 23 ?_;refine zK 24 ?_;refine zK 25 ?_;refine zT 26 ?_;refine zT 27 ?_;refine zK 28 ?_;refine zK 29 ?_;refine zK 30 ?_;refine zT 31 ?_;refine zT 32 ?_;refine zK 33 ?_;refine zK 34 ?_;refine zK 35 ?_;refine zK 36 ?_;refine zK 37 ?_;refine zT 38 ?_;refine zT 39 ?_;refine zK 40 ?_;refine zK 41 ?_;refine zKu 42 ?_;refine zK 43 ?_;refine zK 44 ?_;refine zK 45 ?_;refine zK 46 ?_;refine zK 47 ?_;refine zK 48 ?_;refine zK 49 ?_;refine zK 50 ?_;refine zK 51 ?_;refine zK 52 ?_;refine zT 53 ?_
 refine zW ?_))
 rotate_right
 case' _ =>(
 refine zK 18 ?_;refine zK 19 ?_;refine zK 20 ?_;refine zT 21 ?_;refine zT 22 ?_;refine zK 23 ?_;refine zK 24 ?_;refine zK 25 ?_;refine zT 26 ?_;refine zT 27 ?_;refine zK 28 ?_;refine zK 29 ?_;refine zK 30 ?_;refine zT 31 ?_;refine zT 32 ?_;refine zK 33 ?_;refine zK 34 ?_;refine zK 35 ?_;refine zK 36 ?_;refine zK 37 ?_;refine zT 38 ?_;refine zT 39 ?_;refine zK 40 ?_;refine zK 41 ?_;refine zKu 42 ?_;refine zK 43 ?_;refine zK 44 ?_;refine zK 45 ?_;refine zK 46 ?_;refine zK 47 ?_;refine zK 48 ?_;refine zK 49 ?_;refine zK 50 ?_;refine zK 51 ?_;refine zK 52 ?_;refine zT 53 ?_
 refine zW ?_))
 rotate_right
 case' _ =>(
 refine zK 11 ?_;refine zK 12 ?_;refine zK 13 ?_;refine zK 14 ?_;refine zK 15 ?_;refine zT 16 ?_;refine zT 17 ?_;refine zK 18 ?_;refine zK 19 ?_;refine zK 20 ?_;refine zT 21 ?_;refine zT 22 ?_;refine zK 23 ?_;refine zK 24 ?_;refine zK 25 ?_;refine zT 26 ?_;refine zT 27 ?_;refine zK 28 ?_;refine zK 29 ?_;refine zK 30 ?_;refine zT 31 ?_;refine zT 32 ?_;refine zK 33 ?_;refine zK 34 ?_;refine zK 35 ?_;refine zK 36 ?_;refine zK 37 ?_;refine zT 38 ?_;refine zT 39 ?_;refine zK 40 ?_;refine zK 41 ?_;refine zKu 42 ?_;refine zK 43 ?_;refine zK 44 ?_;refine zK 45 ?_;refine zK 46 ?_;refine zK 47 ?_;refine zK 48 ?_;refine zK 49 ?_;refine zK 50 ?_;refine zK 51 ?_;refine zK 52 ?_;refine zT 53 ?_
 refine zW ?_))
 rotate_right
 case' _ =>(
 refine zK 5 ?_;refine zK 6 ?_;refine zK 7 ?_;refine zK 8 ?_;refine zT 9 ?_;refine zT 10 ?_;refine zK 11 ?_;refine zK 12 ?_;refine zK 13 ?_;refine zK 14 ?_;refine zK 15 ?_;refine zT 16 ?_;refine zT 17 ?_;refine zK 18 ?_;refine zK 19 ?_;refine zK 20 ?_;refine zT 21 ?_;refine zT 22 ?_;refine zK 23 ?_;refine zK 24 ?_;refine zK 25 ?_;refine zT 26 ?_;refine zT 27 ?_;refine zK 28 ?_;refine zK 29 ?_;refine zK 30 ?_;refine zT 31 ?_;refine zT 32 ?_;refine zK 33 ?_;refine zK 34 ?_;refine zK 35 ?_;refine zK 36 ?_;refine zK 37 ?_;refine zT 38 ?_;refine zT 39 ?_;refine zK 40 ?_;refine zK 41 ?_;refine zKu 42 ?_;refine zK 43 ?_;refine zK 44 ?_;refine zK 45 ?_;refine zK 46 ?_;refine zK 47 ?_;refine zK 48 ?_;refine zK 49 ?_;refine zK 50 ?_;refine zK 51 ?_;refine zK 52 ?_;refine zT 53 ?_
 refine zW ?_)
 all_goals (
 refine xC ?_ ?_<;>intro hc
 ·(
 first
 | (exact xQ hc)
 |(
 have hq0:(pclOk n x&&okPc (prevP n.pcs k) x)=false:=by rw [hq];unfold pclOk;first | (simp [*];done) | grind
 refine xP ?_
 rw [hd,jhT,hq0,qv] at hI
 rw [jjy h38 hI0.symm hI.symm];rfl))
 ·(
 first
 | (exact xQ hc)
 |(
 have hq0:(pclOk n x&&okPc (prevP n.pcs k) x)=true:=by rw [hq];unfold pclOk;first | (simp [*];done) | grind
 iterate 8 refine zW ?_
 rw [hd,jhT,hq0,qs,← jou hx] at hI
 refine ⟨k+1,⟨by omega,hI⟩,by omega,zWk⟩))))
 ·(
 have hge:=qd hc
 rw [jac (by omega)] at hI
 refine xP ?_
 rw [jjy h38 hI0.symm hI.symm];rfl)))))
theorem jov (n:Ntw) (a b:Int):C0 140 [ntv n,.i a,.i b] (.b (apartV n a b)):=by
 refine xI Tryz.func140 Tryz.call140 fun hcap=>?_
 have hml:(n.parts.map D.i).length=n.parts.length:=by simp
 refine xX fun b3=>?_
 refine xA (jbf a) ?_
 iterate 2 refine zW ?_
 all_goals refine xG ?_ ?_<;>intro hg
 all_goals first | (refine zY ?_;refine jaa zRc (jbf b) rfl rfl ?_) | refine zSk ?_
 iterate 2 all_goals refine zW ?_
 all_goals (
 refine xC ?_ ?_<;>intro hc
 ·(
 first
 | (exact xQ hc)
 |(
 have h18:nodeN a=false∨nodeN b=false:=by first | (simp_all;done) | grind
 refine xP ?_
 unfold apartV;rw [qf h18];rfl))
 ·(
 first
 | (exact xQ hc)
 |(
 have h18:¬ (nodeN a=false∨nodeN b=false):=by first | (simp_all;done) | grind
 have ha:0≤a∧a≤9:=jcn (by cases h:nodeN a;exact qo (.inl h) h18;rfl)
 have hb:0≤b∧b≤9:=jcn (by cases h:nodeN b;exact qo (.inr h) h18;rfl)
 iterate 3 refine zW ?_
 refine zDr [] ?_
 refine zT 0 ?_;refine zT 1 ?_;refine zT 3 ?_;refine zT 4 ?_;refine zOn 2 ?_
 refine xA (jkW n a ha) ?_
 refine zW ?_
 refine zOn 5 ?_
 refine xA (jkW n b hb) ?_
 refine zW ?_
 refine zT 6 ?_;refine zT 7 ?_
 refine zW ?_
 all_goals (
 refine xN fun _=>?_
 iterate 4 refine zW ?_
 refine jaj [1,2,7,8,26,27] [.box b3 _ _] (fun (i:Nat) r=>(28,.i (i:Int))::r) (fun i r=>r) (fun i=>i≤n.parts.length∧(n.parts.drop i).any (fun s=>hasP s a&&hasP s b)=n.parts.any (fun s=>hasP s a&&hasP s b)) (fun i=>n.parts.length - i) (0) zRc ⟨by omega,rfl⟩ (zWk) ?_
 intro i ⟨hi,hI⟩
 refine xC ?_ ?_<;>intro hc
 ·(
 have hlt:=qc hc
 obtain ⟨z,hx,hd⟩:=jab (l:=n.parts) (k:=i) (by omega)
 have hx':=jad D.i hx
 refine xA (jeQ z a ha) ?_
 refine zW ?_
 iterate 2 all_goals first | refine zW ?_ | refine xG ?_ ?_<;>intro hg
 all_goals first | (refine zY ?_;refine jaa zRc (jeQ z b hb) rfl rfl ?_) | refine zSk ?_
 all_goals refine zW ?_
 all_goals (
 refine xC ?_ ?_<;>intro hc
 ·(
 first
 | (exact xQ hc)
 |(
 have h39:(hasP z a&&hasP z b)=true:=by first | (simp_all;done) | grind
 rw [hd,List.any_cons,h39,Bool.true_or] at hI
 refine xP ?_
 unfold apartV;rw [qe h18,qf hI.symm];rfl))
 ·(
 first
 | (exact xQ hc)
 |(
 have h39:(hasP z a&&hasP z b)=false:=by first | (simp_all;done) | grind
 iterate 8 refine zW ?_
 rw [hd,List.any_cons,h39,Bool.false_or] at hI
 refine ⟨i+1,⟨by omega,hI⟩,by omega,zWk⟩))))
 ·(
 have hge:=qd hc
 rw [jac (by omega),List.any_nil] at hI
 iterate 10 refine zW ?_
 iterate 9 all_goals first | refine zW ?_ | refine xG ?_ ?_<;>intro hg
 all_goals (
 refine xP ?_
 unfold apartV;rw [qe h18,qe (by rw [← hI];decide)];first | (simp only [resD, *,qs,qv,Bool.and_true,qw];done) | (simp_all [resD];done) | grind [resD]))))))
theorem jsy (n:Ntw) (hN:NtI n) (now:Int):C0 103 [ntv n,.i now] (.tup [.sl 28 ((dueV n now).1.map pcv),ntv (dueV n now).2]):=by
 refine xI Tryz.func103 Tryz.call103 fun hcap=>?_
 have hml:(n.pcs.map pcv).length=n.pcs.length:=by simp
 have hpl:=hN.hl
 refine xX fun b2=>?_
 refine xL fun b5=>?_
 refine xA (jbG n hN) ?_
 refine xC ?_ ?_<;>intro hc
 ·(
 have h11:checkNt n=false:=jau hc
 refine zW ?_
 refine zDr [.box b5 _ _] ?_
 refine zT 0 ?_;refine zT 1 ?_;refine zOn 2 ?_
 iterate 3 refine zW ?_
 all_goals (
 refine zW ?_
 refine jgO 163 28 rfl ?_
 refine zFz (.slice none 0 0) [4,5] ?_
 refine xP ?_
 unfold dueV;rw [qf h11];rfl))
 ·(
 have h11:checkNt n=true:=jat hc
 iterate 14 refine zW ?_
 refine jaP [1,2,5] [.box b2 _ _,.box b5 _ _] (fun (i:Nat) (v:Value) (q:List Pcl) r=>(6,.v v)::(7,.i (i:Int))::r) (fun i v q r=>.arr v 163 28 (q.map pcv)::r) (fun i v q=>(i≤n.pcs.length∧q.length≤i)∧posG (dueB now) (n.pcs.drop i)+i=dueK n now∧q=(n.pcs.take i).filter (fun p=>!apartV n p.src p.dst)) (fun i v q=>n.pcs.length - i) (0) (.slice none 0 0) ([]) zRc ⟨⟨by omega,by simp⟩,by simp [dueK],by simp⟩ ((jaO 163 28 rfl).trans (zWk)) ?_
 intro i v q ⟨⟨hi,hql⟩,hI,hQ⟩
 obtain ⟨x,hx⟩:=jgt n.pcs i ⟨0,0,0,0,⟨0,0,zNmn,zEvp⟩⟩
 have hqm:(q.map pcv).length=q.length:=by simp
 refine xN fun _=>?_
 iterate 2 refine zW ?_
 iterate 3 all_goals first | refine zW ?_ | refine xG ?_ ?_<;>intro hg
 all_goals first | (refine zY ?_;(refine zP (jam (k:=i) rfl rfl rfl rfl (by decide) rfl (jad pcv (hx (by have h9:decide ((i:Int)<((n.pcs.map pcv).length:Int))=true:=(by first | with_reducible assumption | exact hg | exact hc);have:=qc h9;simp only [qu] at this;omega)))) ?_)) | refine zSk ?_
 iterate 5 all_goals refine zW ?_
 all_goals (
 refine xC ?_ ?_<;>intro hc
 ·(
 first
 | (exact xQ hc)
 |(
 have hdb:dueB now x=true:=hc
 iterate 9 refine zW ?_
 refine zP (jam (k:=i) rfl rfl rfl rfl (by decide) rfl (jad pcv (hx (by have h9:decide ((i:Int)<((n.pcs.map pcv).length:Int))=true:=(by first | with_reducible assumption | exact hg | exact hc);have:=qc h9;simp only [qu] at this;omega)))) ?_
 refine xL fun b8=>?_
 refine xA (jov n x.src x.dst) ?_
 refine xC ?_ ?_<;>intro hc
 rotate_left
 case' _ =>(
 have h39:apartV n x.src x.dst=true:=jat hc
 have mk39f:True:=trivial
 refine zW ?_)
 rotate_right
 case' _ =>(
 have h39:apartV n x.src x.dst=false:=jau hc
 have mk39t:True:=trivial
 iterate 3 refine zW ?_
 refine xLt 163 28 344 ?_
 refine xEa 163 28 344 (hb:=xLb) fun v43 hv43=>?_
 iterate 2 refine zW ?_)
 all_goals (
 iterate 8 refine zW ?_
 have hlt:i<n.pcs.length:=(by have h9:decide ((i:Int)<((n.pcs.map pcv).length:Int))=true:=(by first | with_reducible assumption | exact hg | exact hc);have:=qc h9;simp only [qu] at this;omega)
 rw [jeT (lt:=dueB now) (hx hlt) (show dueB now x=true by first | with_reducible assumption | exact hc)] at hI
 have hfs:=jrB (f:=fun p=>!apartV n p.src p.dst) (hx hlt)
 first
 | (have:=mk39t;rw [qf (show (!apartV n x.src x.dst)=true by rw [h39];rfl),← hQ] at hfs;rw [show D.agg [.i x.due,.i x.src,.i x.dst,.i x.num,.i x.l.kind,.i x.l.slot,.i x.l.nom.node,.i x.l.nom.seq,.i x.l.nom.t.th,.sl 1 (x.l.nom.t.nodes.map .i),.sl 3 (avs x.l.nom.t.inner),.sl 1 (x.l.nom.votes.map strv),.sl 1 (x.l.nom.accs.map strv),.i x.l.env.node,.i x.l.env.slot,.i x.l.env.seq,.i x.l.env.t.th,.sl 1 (x.l.env.t.nodes.map .i),.sl 3 (avs x.l.env.t.inner),.i x.l.env.kind,.i x.l.env.bal.n,.v (.string x.l.env.bal.v),.i x.l.env.prep.n,.v (.string x.l.env.prep.v),.i x.l.env.prime.n,.v (.string x.l.env.prime.v),.i x.l.env.low,.i x.l.env.high]=pcv x from rfl,jvv];refine ⟨i+1,_,q++[x],⟨⟨by omega,by simp;omega⟩,by omega,hfs.symm⟩,by omega,zWk⟩)
 | (have:=mk39f;rw [qe (show ¬ (!apartV n x.src x.dst)=true by rw [h39];decide),← hQ,List.append_nil] at hfs;refine ⟨i+1,v,q,⟨⟨by omega,by omega⟩,by omega,hfs.symm⟩,by omega,zWk⟩))))
 ·(
 first
 | (exact xQ hc)
 |(
 have hat:dueK n now=i:=by first | (have hge:=(show n.pcs.length≤i by have h9:decide ((i:Int)<((n.pcs.map pcv).length:Int))=false:=(by first | with_reducible assumption | exact hg | exact hc);have:=qd h9;simp only [qu] at this;omega);rw [jdd hge] at hI;omega) | (rw [jcp (lt:=dueB now) (hx (by have h9:decide ((i:Int)<((n.pcs.map pcv).length:Int))=true:=(by first | with_reducible assumption | exact hg | exact hc);have:=qc h9;simp only [qu] at this;omega)) (show dueB now x=false by first | with_reducible assumption | exact hc)] at hI;omega)
 iterate 11 refine zW ?_
 first | refine xEa 163 28 344 (hb:=xLb) fun v50 hv50=>?_ | refine xEn 163 28 344 (hb:=xLb) fun v50 hv50=>?_
 iterate 5 refine zW ?_
 rw [← List.map_drop]
 refine zFz v50 [2,5,6] ?_
 refine zFz v [2,5,6] ?_
 refine zDr [.box b5 _ _] ?_
 refine zT 0 ?_;refine zT 1 ?_;refine zT 2 ?_;refine zOn 3 ?_
 iterate 3 refine zW ?_
 all_goals (
 refine xP ?_
 unfold dueV;rw [qe (by rw [h11];decide),hat,← hQ];rfl)))))
theorem jtT:tmade Tryz.prog 3 (100 * 1)=some (List.replicate 100 (.int .i64 0)):=by kernel_rfl
theorem jez {w:World} {O:Nat→Prop}:∀ k:Nat,RepE w O 1 (List.replicate k (D.i 0)) (List.replicate k (.int .i64 0))
 | 0=>by simp [RepE]
 | k+1=>by
  rw [List.replicate_succ,List.replicate_succ]
  simp only [RepE]
  exact ⟨.int .i64 0,_,rfl,rfl,fun u hu=>by simp [Value.cells] at hu;rw [hu];rfl,rfl,jez k⟩
theorem jty {l:List Int} (h:l.all delOk=true):0≤(l[k]?).getD 0∧(l[k]?).getD 0≤20:=by
 cases hx:l[k]? with
 | none=>exact ⟨by decide,by decide⟩
 | some x =>
  have:=List.all_eq_true.1 h x (qj hx)
  simp only [delOk,qh,qm] at this
  simp only [Option.getD_some]
  omega
theorem jqJ {a b:Int} (h:n.dls.all delOk=true):0≤delayV n a b∧delayV n a b≤20:=by
 have:=jty (k:=(a * 10+b).toNat) h
 unfold delayV
 split
 ·omega
 ·split<;>omega
theorem jrQ (p:Pcl) (l:List Pcl):frontGo p l 0=0:=rfl
theorem jsi {y:Pcl} (hk:0<k) (hy:l[k - 1]?=some y) (h:befV p y=true):frontGo p l k=frontGo p l (k - 1):=by
 obtain ⟨j,rfl⟩:∃ j,k=j+1:=⟨k - 1,by omega⟩
 rw [Nat.add_sub_cancel] at hy
 rw [frontGo,hy,Nat.add_sub_cancel]
 exact qf h
theorem jr8 {y:Pcl} (hk:0<k) (hy:l[k - 1]?=some y) (h:befV p y=false):frontGo p l k=k:=by
 obtain ⟨j,rfl⟩:∃ j,k=j+1:=⟨k - 1,by omega⟩
 rw [Nat.add_sub_cancel] at hy
 rw [frontGo,hy]
 exact qe (show ¬ befV p y=true by rw [h];decide)
theorem jvH (l:List Int):(l.map D.i).take (List.replicate 100 (D.i 0)).length++(List.replicate 100 (D.i 0)).drop (l.map D.i).length=(padD l).map D.i:=by
 unfold padD
 rw [List.length_replicate,qu,List.map_append,List.map_take,List.drop_replicate,List.map_replicate]
theorem jkV (n:Ntw) (hN:NtI n) (a b:Int) (l:Ltr) (now:Int):C0 107 [ntv n,.i a,.i b,ltv l,.i now] (.tup [ntv (sendV n a b l now).1,.i (sendV n a b l now).2]):=by
 refine xI Tryz.func107 Tryz.call107 fun hcap=>?_
 have hml:(n.pcs.map pcv).length=n.pcs.length:=by simp
 have hpl:=hN.hl
 refine xX fun b5=>?_
 refine zBx fun b8=>?_
 refine zAl fun b10=>?_
 refine xA (jbG n hN) ?_
 refine xC ?_ ?_<;>intro hc
 ·(
 have h15:checkNt n=false:=jau hc
 iterate 2 refine zW ?_
 refine zP (AP.up (jah zKr rfl zRc jav) (d':=ntv zNtw) xUp) ?_
 refine xP ?_
 unfold sendV;rw [qf h15];rfl)
 ·(
 have h15:checkNt n=true:=jat hc
 have hcp:=jbj h15
 refine xA (jbf a) ?_
 iterate 2 refine zW ?_
 all_goals refine xG ?_ ?_<;>intro hg
 all_goals first | (refine zY ?_;refine jaa zRc (jbf b) rfl rfl ?_) | refine zSk ?_
 iterate 8 all_goals first | refine zW ?_ | refine xG ?_ ?_<;>intro hg
 all_goals (
 refine xC ?_ ?_<;>intro hc
 ·(
 first
 | (exact xQ hc)
 |(
 have h20:(nodeN a=false∨nodeN b=false)∨a=b:=by first | (simp_all;done) | grind
 iterate 2 refine zW ?_
 refine zP (AP.up (jah zKr rfl zRc jav) (d':=ntv zNtw) xUp) ?_
 refine xP ?_
 unfold sendV;rw [qe (by rw [h15];decide),qf h20];rfl))
 ·(
 first
 | (exact xQ hc)
 |(
 have h20:¬ ((nodeN a=false∨nodeN b=false)∨a=b):=by first | (simp_all;done) | grind
 have ha:0≤a∧a≤9:=jcn (by cases h:nodeN a;exact qo (.inl (.inl h)) h20;rfl)
 have hb:0≤b∧b≤9:=jcn (by cases h:nodeN b;exact qo (.inl (.inr h)) h20;rfl)
 iterate 5 refine zW ?_
 iterate 4 all_goals first | refine zW ?_ | refine xG ?_ ?_<;>intro hg
 all_goals (
 refine xC ?_ ?_<;>intro hc
 ·(
 first
 | (exact xQ hc)
 |(
 have h35:now<0∨now>200:=by first | exact .inl (qc hg) | exact .inr (qc hc)
 iterate 2 refine zW ?_
 refine zP (AP.up (jah zKr rfl zRc jav) (d':=ntv zNtw) xUp) ?_
 refine xP ?_
 unfold sendV;rw [qe (by rw [h15];decide),qe h20,qf h35];rfl))
 ·(
 first
 | (exact xQ hc)
 |(
 have h35:¬ (now<0∨now>200):=by rintro (h | h);exact qd hg h;exact qd hc h
 refine xN fun _=>?_
 iterate 2 refine zW ?_
 iterate 5 all_goals first | refine zW ?_ | refine xG ?_ ?_<;>intro hg
 all_goals (
 refine xC ?_ ?_<;>intro hc
 ·(
 first
 | (exact xQ hc)
 |(
 have h43:n.pcs.length=4000∨n.next=1000000000:=by first | (have:=qc hg;exact .inl (by omega)) | exact .inr (qc hc)
 iterate 2 refine zW ?_
 refine zP (AP.up (jah zKr rfl zRc jav) (d':=ntv zNtw) xUp) ?_
 refine xP ?_
 unfold sendV;rw [qe (by rw [h15];decide),qe h20,qe h35,qf h43];rfl))
 ·(
 first
 | (exact xQ hc)
 |(
 have h43:¬ (n.pcs.length=4000∨n.next=1000000000):=by have h1:=qd hg;have h2:=qd hc;omega
 have hdb:=jqJ (a:=a) (b:=b) hcp.2.2.2.2.1
 iterate 4 refine zW ?_
 refine zDr [] ?_
 refine zT 0 ?_;refine zT 1 ?_;refine zT 2 ?_;refine zT 3 ?_;refine zT 6 ?_;refine zT 7 ?_;refine zT 8 ?_;refine zT 9 ?_;refine zT 10 ?_
 refine zE2 4 12 ?_ ?_
 rotate_left
 case' _ =>(
 refine zAl fun b12=>?_
 refine zW ?_
 refine zOn 4 ?_
 refine xA (jid n a b ha hb hcp.2.2.2.1) ?_
 refine zW ?_
 refine zT 5 ?_;refine zT 11 ?_;refine zOn 13 ?_
 iterate 3 refine zW ?_)
 rotate_right
 case' _ =>(
 refine xA (jid n a b ha hb hcp.2.2.2.1) ?_
 refine zW ?_
 refine zT 5 ?_;refine zT 11 ?_;refine zOn 12 ?_
 refine zAl fun b12=>?_
 refine zW ?_
 refine zOn 13 ?_
 iterate 3 refine zW ?_)
 all_goals (
 refine xN fun _=>?_
 iterate 5 refine zW ?_
 refine jaj [5,10,12] [.box b5 _ _,.box b10 _ _,.box b12 _ _] (fun (k:Nat) r=>(13,.i (k:Int))::r) (fun k r=>r) (fun k=>k≤n.pcs.length∧frontGo (newPc n a b l now) n.pcs k=frontP (newPc n a b l now) n.pcs) (fun k=>k) (n.pcs.length) zRc ⟨by omega,rfl⟩ (by rw [hml];exact zWk) ?_
 intro k ⟨hk,hI⟩
 obtain ⟨y,hy⟩:=jmY (l:=n.pcs) (newPc n a b l now) hk
 iterate 2 refine zW ?_
 refine zDr [] ?_
 refine zT 0 ?_;refine zT 1 ?_;refine zT 2 ?_
 refine jai 2 rfl (fun hg=>?_) fun hg=>?_
 rotate_left
 case' _ =>(
 refine zK 3 ?_;refine zK 4 ?_;refine zK 5 ?_;refine zK 6 ?_;refine zK 7 ?_;refine zK 8 ?_;refine zK 9 ?_;refine zK 10 ?_;refine zT 11 ?_
 refine zW ?_)
 rotate_right
 case' _ =>(
 refine zT 3 ?_;refine zT 4 ?_;refine zT 5 ?_;refine zT 6 ?_;refine zT 7 ?_
 refine jan 8 rfl zGd zKr zKr zKr (AP.ar (jam (k:=k - 1) rfl rfl rfl rfl (by decide) (by have h9:decide ((k:Int)>0)=true:=(by first | with_reducible assumption | exact hg);have:=qc h9;omega) (jad pcv (hy (by have h9:decide ((k:Int)>0)=true:=(by first | with_reducible assumption | exact hg);have:=qc h9;omega))))) rfl rfl ?_
 refine zT 9 ?_;refine zOn 10 ?_
 refine xA (jgx (newPc n a b l now) y) ?_
 refine zW ?_
 refine zT 11 ?_
 refine zW ?_)
 all_goals (
 refine xC ?_ ?_<;>intro hc
 ·(
 first
 | (exact xQ hc)
 |(
 iterate 10 refine zW ?_
 have hk0:0<k:=(by have h9:decide ((k:Int)>0)=true:=(by first | with_reducible assumption | exact hg);have:=qc h9;omega)
 rw [jsi hk0 (hy hk0) (show befV (newPc n a b l now) y=true by first | with_reducible assumption | exact hc)] at hI
 rw [show ((k:Int) - 1)=((k - 1:Nat):Int) by omega]
 refine ⟨k - 1,⟨by omega,hI⟩,by omega,zWk⟩))
 ·(
 first
 | (exact xQ hc)
 |(
 have hfr:frontP (newPc n a b l now) n.pcs=k:=by first | (have h9:decide ((k:Int)>0)=false:=(by first | with_reducible assumption | exact hg | exact hc);have:=qd h9;have hk0:k=0:=(by omega);rw [← hI,hk0,jrQ]) | (have hk0:0<k:=(by have h9:decide ((k:Int)>0)=true:=(by first | with_reducible assumption | exact hg);have:=qc h9;omega);rw [← hI,jr8 hk0 (hy hk0) (show befV (newPc n a b l now) y=false by first | with_reducible assumption | exact hc)])
 refine xN fun _=>?_
 refine zW ?_
 rw [show (((n.pcs.map pcv).length:Int)+1)=((n.pcs.length+1:Nat):Int) by omega];refine jpa (e:=163) (sz:=28) (by_:=344) (N:=n.pcs.length+1) rfl rfl rfl rfl ⟨by omega,by omega⟩ rfl rfl (fun g=>?_)
 iterate 4 refine zW ?_
 refine zDr [.arr (.slice (some ⟨g,0,none⟩) 0 _) _ _ _] ?_
 refine zT 0 ?_;refine zT 1 ?_;refine zT 2 ?_;refine zT 3 ?_;refine zT 4 ?_;refine zT 6 ?_;refine zT 9 ?_;refine zT 10 ?_;refine zT 11 ?_;refine zT 12 ?_
 refine zE2 5 7 ?_ ?_
 rotate_left
 case' _ =>(
 refine xLt 163 28 344 ?_
 refine zW ?_
 refine zOn 5 ?_
 refine xEa 163 28 344 (hb:=xLb) fun v93 hv93=>?_
 refine zW ?_
 refine zOn 8 ?_
 refine xEa 163 28 344 (hb:=xLb) fun v96 hv96=>?_
 refine zW ?_
 refine zOn 13 ?_
 refine xEa 163 28 344 (hb:=xLb) fun v101 hv101=>?_
 refine zW ?_
 refine zT 14 ?_
 refine zW ?_)
 rotate_right
 case' _ =>(
 refine xEa 163 28 344 (hb:=xLb) fun v93 hv93=>?_
 refine zW ?_
 refine zOn 7 ?_
 refine xLt 163 28 344 ?_
 refine zW ?_
 refine zOn 8 ?_
 refine xEa 163 28 344 (hb:=xLb) fun v96 hv96=>?_
 refine zW ?_
 refine zOn 13 ?_
 refine xEa 163 28 344 (hb:=xLb) fun v101 hv101=>?_
 refine zW ?_
 refine zT 14 ?_
 refine zW ?_)
 all_goals (
 iterate 18 refine zW ?_
 rw [List.nil_append,show D.agg [.i (now+delayV n a b),.i a,.i b,.i n.next,.i l.kind,.i l.slot,.i l.nom.node,.i l.nom.seq,.i l.nom.t.th,.sl 1 (l.nom.t.nodes.map .i),.sl 3 (avs l.nom.t.inner),.sl 1 (l.nom.votes.map strv),.sl 1 (l.nom.accs.map strv),.i l.env.node,.i l.env.slot,.i l.env.seq,.i l.env.t.th,.sl 1 (l.env.t.nodes.map .i),.sl 3 (avs l.env.t.inner),.i l.env.kind,.i l.env.bal.n,.v (.string l.env.bal.v),.i l.env.prep.n,.v (.string l.env.prep.v),.i l.env.prime.n,.v (.string l.env.prime.v),.i l.env.low,.i l.env.high]=pcv (newPc n a b l now) from rfl,jcF]
 refine zFz v101 [5,10] ?_
 refine xP ?_
 unfold sendV;rw [qe (by rw [h15];decide),qe h20,qe h35,qe h43,hfr];rfl)))))))))))))))
theorem jlf (n:Ntw) (hN:NtI n) (l:List Int):C0 55 [ntv n,.sl 1 (l.map .i)] (.tup [ntv (partN n l).1,.i (partN n l).2]):=by
 refine xI Tryz.func55 Tryz.call55 fun hcap=>?_
 have hml:(l.map D.i).length=l.length:=by simp
 refine xX fun b2=>?_
 refine zAl fun b4=>?_
 refine xA (jbG n hN) ?_
 refine xC ?_ ?_<;>intro hc
 ·(
 have h8:checkNt n=false:=jau hc
 iterate 2 refine zW ?_
 refine zP (AP.up (jah zKr rfl zRc jav) (d':=ntv zNtw) xUp) ?_
 refine xP ?_
 unfold partN;rw [qf h8];rfl)
 ·(
 have h8:checkNt n=true:=jat hc
 refine xA (jhR l) ?_
 refine xC ?_ ?_<;>intro hc
 ·(
 have h12:partsV l=false:=jau hc
 iterate 2 refine zW ?_
 refine zP (AP.up (jah zKr rfl zRc jav) (d':=ntv zNtw) xUp) ?_
 refine xP ?_
 unfold partN;rw [qe (by rw [h8];decide),qf h12];rfl)
 ·(
 have h12:partsV l=true:=jat hc
 have hpl:=jhO h12
 iterate 5 refine zW ?_
 refine xEn 3 1 8 (hb:=xLb) fun v15 hv15=>?_
 iterate 5 refine zW ?_
 refine zFz v15 [2,4] ?_
 refine xP ?_
 unfold partN;rw [qe (by rw [h8];decide),qe (by rw [h12];decide)];rfl))
theorem jjs (n:Ntw) (hN:NtI n) (a b k:Int):C0 56 [ntv n,.i a,.i b,.i k] (.tup [ntv (delayN n a b k).1,.i (delayN n a b k).2]):=by
 refine xI Tryz.func56 Tryz.call56 fun hcap=>?_
 refine xX fun b4=>?_
 refine zAl fun b8=>?_
 refine xA (jbG n hN) ?_
 refine xC ?_ ?_<;>intro hc
 ·(
 have h11:checkNt n=false:=jau hc
 iterate 2 refine zW ?_
 refine zP (AP.up (jah zKr rfl zRc jav) (d':=ntv zNtw) xUp) ?_
 refine xP ?_
 unfold delayN;rw [qf h11];rfl)
 ·(
 have h11:checkNt n=true:=jat hc
 refine xA (jbf a) ?_
 iterate 2 refine zW ?_
 all_goals refine xG ?_ ?_<;>intro hg
 all_goals first | (refine zY ?_;refine jaa zRc (jbf b) rfl rfl ?_) | refine zSk ?_
 iterate 3 all_goals refine zW ?_
 all_goals (
 refine xC ?_ ?_<;>intro hc
 ·(
 first
 | (exact xQ hc)
 |(
 have h16:nodeN a=false∨nodeN b=false:=by first | (simp_all;done) | grind
 iterate 2 refine zW ?_
 refine zP (AP.up (jah zKr rfl zRc jav) (d':=ntv zNtw) xUp) ?_
 refine xP ?_
 unfold delayN;rw [qe (by rw [h11];decide),qf h16];rfl))
 ·(
 first
 | (exact xQ hc)
 |(
 have h16:¬ (nodeN a=false∨nodeN b=false):=by first | (simp_all;done) | grind
 have ha:0≤a∧a≤9:=jcn (by cases h:nodeN a;exact qo (.inl h) h16;rfl)
 have hb:0≤b∧b≤9:=jcn (by cases h:nodeN b;exact qo (.inr h) h16;rfl)
 iterate 5 refine zW ?_
 iterate 4 all_goals first | refine zW ?_ | refine xG ?_ ?_<;>intro hg
 all_goals (
 refine xC ?_ ?_<;>intro hc
 ·(
 first
 | (exact xQ hc)
 |(
 have h26:k<0∨k>20:=by first | exact .inl (qc hg) | exact .inr (qc hc)
 iterate 2 refine zW ?_
 refine zP (AP.up (jah zKr rfl zRc jav) (d':=ntv zNtw) xUp) ?_
 refine xP ?_
 unfold delayN;rw [qe (by rw [h11];decide),qe h16,qf h26];rfl))
 ·(
 first
 | (exact xQ hc)
 |(
 have h26:¬ (k<0∨k>20):=by rintro (h | h);exact qd hg h;exact qd hc h
 obtain ⟨p,rfl,hp⟩:=jg6 ha
 obtain ⟨q,rfl,hq⟩:=jg6 hb
 have hkk:(((p:Int) * 10+(q:Int))).toNat=p * 10+q:=by omega
 iterate 5 refine zW ?_
 refine jer (N:=100) (l:=List.replicate 100 (D.i 0)) rfl rfl rfl rfl jtT (by simp) (fun w O=>jez 100) ⟨by decide,by decide⟩ rfl rfl (fun g=>?_)
 iterate 8 refine zW ?_
 refine jk8 rfl jct rfl rfl rfl rfl rfl ?_;rw [jvH]
 iterate 10 refine zW ?_
 rw [show ((p:Int) * 10+(q:Int))=((p * 10+q:Nat):Int) by omega];refine zP (jaW (k:=p * 10+q) rfl rfl rfl rfl rfl (by omega)) ?_
 refine zSt ?_ (by apply jyy;exact rfl;exact rfl;exact ji1;exact jct;exact rfl;(simp only [qu,jnz];omega))
 iterate 10 refine zW ?_
 rw [← List.map_set]
 refine zFz (.slice (some ⟨g,0,none⟩) 100 100) [4,8] ?_
 refine xP ?_
 unfold delayN;rw [qe (by rw [h11];decide),qe h16,qe h26,hkk];rfl)))))))
def trv (l:List Trust):D:=.sl 3 (avs l)
def wv (w:Wld):D:=.agg [.i w.time,.sl 6 (w.nodes.map ptv),.i w.ill,.sl 28 (w.net.pcs.map pcv),.i w.net.next,.sl 1 (w.net.parts.map .i),.sl 1 (w.net.dls.map .i),.sl 1 (w.trs.map trv)]
def badW (w:Wld):Bool:=decide (w.time<0)||(decide (w.time>200)||(decide ((w.nodes.length:Int)<1)||(decide ((w.nodes.length:Int)>10)||(decide (w.ill<0)||(decide (w.ill≥((1 * 2^w.nodes.length:Nat):Int))||(!checkNt w.net||!decide ((w.trs.length:Int)=(w.nodes.length:Int))))))))
theorem jm9 (w:Wld):headW w=!badW w:=by
 unfold headW badW
 cases checkNt w.net
 ·simp
 ·(
 rw [Nat.one_mul,Bool.eq_iff_iff]
 simp only [qh,Bool.and_true,qm,Bool.not_eq_true',Bool.or_eq_false_iff,decide_eq_false_iff_not,Bool.not_eq_false',gt_iff_lt,ge_iff_le,Bool.not_true,Bool.false_or]
 omega)
theorem jsG (h:badW w=true):checkW w=false:=by unfold checkW;rw [jm9,h];rfl
theorem jit {c:Bool} (h:badW w=false) (h2:wnGo w.nodes w.trs 0=c):checkW w=c:=by unfold checkW;rw [jm9,h,h2];rfl
theorem jsM (l:List Trust) (k:Nat):List.take k (avs l)=avs (l.take k):=by rw [jf7,jf7,List.map_take]
theorem jtj (h:badW w=false):w.trs.length=w.nodes.length:=by
 simp only [badW,Bool.or_eq_false_iff,Bool.not_eq_false',qm] at h
 omega
theorem jvK {q r:List Trust} {t:Trust} (h:(!hasTr q t&&decide (validT t=0))=true):trsGo q (t::r)=trsGo (q++[t]) r:=by rw [trsGo,h,qs]
theorem ju2 {q r:List Trust} {t:Trust} (h:(!hasTr q t&&decide (validT t=0))=false):trsGo q (t::r)=false:=by rw [trsGo,h,qv]
theorem jpl {l:List Trust} {x:Trust} (h:l[i]?=some x):l.take (i+1)=l.take i++[x]:=by rw [List.take_add_one,h];rfl
theorem jci (w:Wld) (k:Int) (hk:0≤k∧k≤9) (hi:0≤w.ill∧w.ill<1024):C0 58 [wv w,.i k] (.b (sickV w k)):=by
 have hcap:=jbu
 obtain ⟨q,rfl,hq⟩:=jg6 hk
 obtain ⟨m,hm⟩:=qz hi.1
 have hdiv:m / 2^q≤m:=Nat.div_le_self _ _
 refine jar Tryz.func58 rfl Tryz.call58 rfl ?_
 refine xX fun b2=>?_
 iterate 4 refine zW ?_
 rw [hm]
 iterate 5 refine zW ?_
 (rw [jsr (by omega:q≤62)];refine zP (jff rfl rfl (by omega)) ?_)
 refine zP (jcH (q:=1) rfl rfl rfl (by omega) (by omega)) ?_
 refine xP ?_
 unfold sickV;rw [hm,qr,qr,← Go.Tq.jm0];rfl
theorem jhW (w:Wld) (k:Int):C0 53 [wv w,.i k] (.b (thereW w k)):=by
 refine xI Tryz.func53 Tryz.call53 fun hcap=>?_
 have hml:(w.nodes.map ptv).length=w.nodes.length:=by simp
 refine xX fun b2=>?_
 iterate 8 refine zW ?_
 iterate 3 all_goals first | refine zW ?_ | refine xG ?_ ?_<;>intro hg
 all_goals first | (refine zY ?_;(first | refine zLn fun _=>?_ | refine zW ?_)) | refine zSk ?_
 iterate 3 all_goals refine zW ?_
 all_goals (
 refine xP ?_
 unfold thereW;rw [← hml];first | (simp only [resD, *,qs,qv];done) | (simp_all [resD];done) | (simp_all [resD];omega))
theorem jh9 (l:List Trust) (t:Trust):C0 102 [.sl 3 (avs l),av t] (.b (hasTr l t)):=by
 refine xI Tryz.func102 Tryz.call102 fun hcap=>?_
 have hml:=jaT l
 refine xX fun b3=>?_
 refine xN fun _=>?_
 iterate 4 refine zW ?_
 refine jaj [3,7,8] [.box b3 _ _] (fun (i:Nat) r=>(9,.i (i:Int))::r) (fun i r=>r) (fun i=>i≤l.length∧hasTr (l.drop i) t=hasTr l t) (fun i=>l.length - i) (0) zRc ⟨by omega,rfl⟩ (zWk) ?_
 intro i ⟨hi,hI⟩
 refine xC ?_ ?_<;>intro hc
 ·(
 have hlt:=qc hc
 obtain ⟨y,hy,hd⟩:=jab (l:=l) (k:=i) (by omega)
 have hx':=jbk hy
 rw [hd,hasTr,List.any_cons] at hI
 refine xL fun b6=>?_
 refine xA (jb1 y t) ?_
 refine xC ?_ ?_<;>intro hc
 ·(
 rw [show same y t=true from hc,Bool.true_or] at hI
 refine xP ?_
 rw [← hI];rfl)
 ·(
 rw [show same y t=false from hc,Bool.false_or] at hI
 iterate 8 refine zW ?_
 refine ⟨i+1,⟨by omega,hI⟩,by omega,zWk⟩))
 ·(
 have hge:=qd hc
 rw [jac (by omega)] at hI
 refine xP ?_
 rw [← hI];rfl)
theorem jbU (w:Wld) (p:Ptc) (i:Nat) (hn:p.node=(i:Int)) (hi:i<w.nodes.length) (hl:w.nodes.length≤1000):C0 63 [wv w,ptv p] (wv (withW w p)):=by
 have hcap:=jbu
 have hml:(w.nodes.map ptv).length=w.nodes.length:=by simp
 obtain ⟨y,hy⟩:∃ y,w.nodes[i]?=some y:=⟨_,List.getElem?_eq_getElem hi⟩
 have hyy:=jad ptv hy
 refine jar Tryz.func63 rfl Tryz.call63 rfl ?_
 refine xX fun b2=>?_
 refine zBx fun b3=>?_
 refine zAl fun b4=>?_
 iterate 6 refine zW ?_
 refine xEn 107 6 96 (hb:=xLb) fun v7 hv7=>?_
 iterate 5 refine zW ?_
 rw [hn]
 refine jfh jct (by intro e;have h5:=congrArg List.length e;simp only [qt] at h5;omega) (fun g cap hv=>?_)
 subst hv
 iterate 7 refine zW ?_
 refine jaI (off:=0) rfl rfl jem jct rfl hyy zRc ?_
 iterate 3 refine zW ?_
 rw [show D.agg [.i (i:Int),.b p.stopped,.i p.t.th,.sl 1 (p.t.nodes.map .i),.sl 3 (avs p.t.inner),.sl 37 (p.slots.map slv)]=ptv p by unfold ptv;rw [hn],← List.map_set]
 refine zFz (.slice (some ⟨g,0,none⟩) _ cap) [2,4] ?_
 refine xP ?_
 unfold withW;rw [show p.node.toNat=i by omega];rfl
theorem jfm (w:Wld) (hW:WI w):C0 52 [wv w] (.b (checkW w)):=by
 refine xI Tryz.func52 Tryz.call52 fun hcap=>?_
 have hml:(w.nodes.map ptv).length=w.nodes.length:=by simp
 have htl:(w.trs.map trv).length=w.trs.length:=by simp
 have hwl:=hW.len
 have hpw:=jb3 hwl
 refine xX fun b1=>?_
 refine xN fun _=>?_
 iterate 10 refine zW ?_
 iterate 22 all_goals first | refine zW ?_ | refine xG ?_ ?_<;>intro hg
 all_goals first | (refine zY ?_;(rw [jsr (by omega:(w.nodes.map ptv).length≤62)];refine zP (jbg (p:=1) rfl rfl rfl (by omega) (by rw [hml];omega)) ?_)) | refine zSk ?_
 iterate 5 all_goals first | refine zW ?_ | refine xG ?_ ?_<;>intro hg
 all_goals first | (refine zY ?_;refine jaa zRc (jbG w.net hW.net) rfl rfl ?_) | refine zSk ?_
 iterate 5 all_goals first | refine zW ?_ | refine xG ?_ ?_<;>intro hg
 all_goals first | (refine zY ?_;(first | refine zLn fun _=>?_ | refine zW ?_)) | refine zSk ?_
 iterate 3 all_goals refine zW ?_
 all_goals (
 refine xC ?_ ?_<;>intro hc
 ·(
 first
 | (exact xQ hc)
 |(
 have h52:badW w=true:=by unfold badW;rw [← hml,← htl];first | (simp only [*,Bool.or_true,Bool.true_or,Bool.or_false,Bool.false_or,Bool.and_true,qs,qw,qv,Bool.not_true,Bool.not_false];done) | (simp [*];done) | grind
 refine xP ?_
 rw [jsG h52];rfl))
 ·(
 first
 | (exact xQ hc)
 |(
 have h52:badW w=false:=by unfold badW;rw [← hml,← htl];first | (simp only [*,Bool.or_true,Bool.true_or,Bool.or_false,Bool.false_or,Bool.and_true,qs,qw,qv,Bool.not_true,Bool.not_false];done) | (simp [*];done) | grind
 refine xN fun _=>?_
 iterate 4 refine zW ?_
 have htn:=jtj h52
 refine jaj [1,54,55] [.box b1 _ _] (fun (k:Nat) r=>(56,.i (k:Int))::r) (fun k r=>r) (fun k=>k≤w.nodes.length∧wnGo (w.nodes.drop k) (w.trs.drop k) k=wnGo w.nodes w.trs 0) (fun k=>w.nodes.length - k) (0) zRc ⟨by omega,rfl⟩ (zWk) ?_
 intro k ⟨hk,hI⟩
 refine xC ?_ ?_<;>intro hc
 ·(
 have hlt:=qc hc
 obtain ⟨x,hx,hd⟩:=jab (l:=w.nodes) (k:=k) (by omega)
 have hx':=jad ptv hx
 obtain ⟨q,hq,hdq⟩:=jab (l:=w.trs) (k:=k) (by omega)
 have hq':=jad trv hq
 have hqs:=(hW.trs q (qj hq)).2
 have hqm:=jaT q
 refine xL fun b5=>?_
 iterate 6 refine zW ?_
 refine zDr [] ?_
 refine zT 0 ?_;refine zT 1 ?_;refine zT 2 ?_;refine zT 3 ?_;refine zT 4 ?_
 refine jai 4 rfl (fun hg=>?_) fun hg=>?_
 rotate_left
 case' _ =>(
 refine zT 5 ?_;refine zOn 6 ?_
 refine xA (ja0 x (hW.nd k x hx).2) ?_
 refine zW ?_
 refine zT 7 ?_;refine zT 8 ?_;refine zT 9 ?_
 refine jai 9 rfl (fun hg=>?_) fun hg=>?_
 rotate_left
 case' _ =>(
 refine zT 10 ?_;refine zT 11 ?_;refine zT 12 ?_
 refine jan 13 rfl zGd zKr zKr zKr (AP.ar (jam (k:=k) rfl rfl rfl rfl (by decide) rfl hq')) rfl rfl ?_
 refine zT 14 ?_;refine zT 15 ?_;refine zT 16 ?_;refine zT 17 ?_;refine zT 18 ?_
 refine jai 18 rfl (fun hg=>?_) fun hg=>?_
 rotate_left
 case' _ =>(
 refine zT 19 ?_;refine zT 20 ?_;refine zT 21 ?_
 refine jan 22 rfl zGd zKr zKr zKr (AP.ar (jam (k:=k) rfl rfl rfl rfl (by decide) rfl hq')) rfl rfl ?_
 refine zT 23 ?_;refine zT 24 ?_;refine zT 25 ?_;refine zOn 26 ?_
 refine xA (jh9 q x.t) ?_
 refine zW ?_
 refine zT 27 ?_;refine zT 28 ?_
 refine zW ?_)
 rotate_right
 case' _ =>(
 refine zK 19 ?_;refine zK 20 ?_;refine zK 21 ?_;refine zK 22 ?_;refine zK 23 ?_;refine zK 24 ?_;refine zK 25 ?_;refine zK 26 ?_;refine zK 27 ?_;refine zT 28 ?_
 refine zW ?_))
 rotate_right
 case' _ =>(
 refine zK 10 ?_;refine zK 11 ?_;refine zK 12 ?_;refine zK 13 ?_;refine zK 14 ?_;refine zK 15 ?_;refine zK 16 ?_;refine zT 17 ?_;refine zT 18 ?_;refine zK 19 ?_;refine zK 20 ?_;refine zK 21 ?_;refine zK 22 ?_;refine zK 23 ?_;refine zK 24 ?_;refine zK 25 ?_;refine zK 26 ?_;refine zK 27 ?_;refine zT 28 ?_
 refine zW ?_))
 rotate_right
 case' _ =>(
 refine zK 5 ?_;refine zK 6 ?_;refine zK 7 ?_;refine zT 8 ?_;refine zT 9 ?_;refine zK 10 ?_;refine zK 11 ?_;refine zK 12 ?_;refine zK 13 ?_;refine zK 14 ?_;refine zK 15 ?_;refine zK 16 ?_;refine zT 17 ?_;refine zT 18 ?_;refine zK 19 ?_;refine zK 20 ?_;refine zK 21 ?_;refine zK 22 ?_;refine zK 23 ?_;refine zK 24 ?_;refine zK 25 ?_;refine zK 26 ?_;refine zK 27 ?_;refine zT 28 ?_
 refine zW ?_)
 all_goals (
 refine xC ?_ ?_<;>intro hc
 ·(
 first
 | (exact xQ hc)
 |(
 have h89:((((decide (x.node=(k:Int))&&checkP x)&&decide (q.length≤4))&&hasTr q x.t)=false):=by first | (simp_all;done) | (simp_all;omega) | grind
 refine xP ?_
 rw [hd,hdq,wnGo,h89,qv,qv] at hI
 rw [jit h52 hI.symm];rfl))
 ·(
 first
 | (exact xQ hc)
 |(
 have h89:((((decide (x.node=(k:Int))&&checkP x)&&decide (q.length≤4))&&hasTr q x.t)=true):=by first | (simp_all;done) | (simp_all;omega) | grind
 iterate 7 refine zW ?_
 refine zP (jam (k:=k) rfl rfl rfl rfl (by decide) rfl hq') ?_
 refine xN fun _=>?_
 iterate 4 refine zW ?_
 refine jaj [1,4,54,55,56,94,95] [.box b1 _ _] (fun (i:Nat) r=>(96,.i (i:Int))::r) (fun i r=>r) (fun i=>i≤q.length∧trsGo (q.take i) (q.drop i)=trsGo [] q) (fun i=>q.length - i) (0) zRc ⟨by omega,by simp⟩ (zWk) ?_
 intro i ⟨hi,hI2⟩
 refine xC ?_ ?_<;>intro hc
 ·(
 have hlt2:=qc hc
 obtain ⟨y,hy,hd2⟩:=jab (l:=q) (k:=i) (by omega)
 have hy':=jbk hy
 refine xL fun b7=>?_
 iterate 5 refine zW ?_
 refine zDr [] ?_
 refine zT 0 ?_;refine zT 1 ?_;refine zT 2 ?_
 refine jan 3 rfl zGd zKr zKr zKr (AP.ar (jam (k:=k) rfl rfl rfl rfl (by decide) rfl hq')) rfl rfl ?_
 refine zT 4 ?_;refine zT 5 ?_
 refine jan 6 rfl zGd zKr zKr zKr (AP.ar (jdI rfl rfl rfl rfl rfl (by rw [jaT];omega))) rfl rfl ?_
 refine zT 7 ?_;refine zOn 8 ?_
 (rw [jsM];refine jaa zRc (jh9 (q.take i) y) rfl rfl ?_)
 refine zW ?_
 refine zT 9 ?_
 refine jai 9 rfl (fun hg=>?_) fun hg=>?_
 rotate_left
 case' _ =>(
 refine zT 10 ?_;refine zOn 11 ?_
 refine xA (jaN y (by have:=hqs y (qj hy);omega)) ?_
 refine zW ?_
 refine zT 12 ?_;refine zT 13 ?_
 refine zW ?_)
 rotate_right
 case' _ =>(
 refine zK 10 ?_;refine zK 11 ?_;refine zK 12 ?_;refine zT 13 ?_
 refine zW ?_)
 all_goals (
 refine xC ?_ ?_<;>intro hc
 ·(
 first
 | (exact xQ hc)
 |(
 have h114:(!hasTr (q.take i) y&&decide (validT y=0))=false:=by first | (simp_all;done) | grind
 refine xP ?_
 rw [hd2,ju2 h114] at hI2
 rw [hd,hdq,wnGo,h89,qs,← hI2,qv] at hI
 rw [jit h52 hI.symm];rfl))
 ·(
 first
 | (exact xQ hc)
 |(
 have h114:(!hasTr (q.take i) y&&decide (validT y=0))=true:=by first | (simp_all;done) | grind
 iterate 8 refine zW ?_
 rw [hd2,jvK h114,← jpl hy] at hI2
 refine ⟨i+1,⟨by omega,hI2⟩,by omega,zWk⟩))))
 ·(
 have hge2:=qd hc
 rw [jac (by omega),trsGo] at hI2
 iterate 11 refine zW ?_
 rw [hd,hdq,wnGo,h89,qs,← hI2,qs] at hI
 refine ⟨k+1,⟨by omega,hI⟩,by omega,zWk⟩)))))
 ·(
 have hge:=qd hc
 rw [jac (by omega),jac (by omega)] at hI
 refine xP ?_
 rw [wnGo] at hI
 rw [jit h52 hI.symm];rfl))))
theorem jfi (m:Mem):∀ (l:List Mem) (i:Nat),newPtcs (l++[m]) i=newPtcs l i++[⟨((i+l.length:Nat):Int),false,m.t,[]⟩]
 | [],i=>rfl
 | x::r,i=>by
  rw [List.cons_append,newPtcs,newPtcs,jfi m r (i+1),qk,List.cons_append,show i+1+r.length=i+(r.length+1) by omega]
theorem jgr:∀ (l:List Mem) (i:Nat),(newPtcs l i).length=l.length
 | [],i=>rfl
 | x::r,i=>by rw [newPtcs,qk,jgr r,qk]
theorem jh6 {α:Type} {l:List α} {x:α} (h:l[i]?=some x):l.take (i+1)=l.take i++[x]:=by rw [List.take_add_one,h];rfl
theorem jj1 {c:List Mem} {m:Mem} (h:c[k]?=some m):newPtcs (c.take (k+1)) 0=newPtcs (c.take k) 0++[⟨(k:Int),false,m.t,[]⟩]:=by
 have hk:=(List.getElem?_eq_some_iff.1 h).1
 rw [jh6 h,jfi,List.length_take,Nat.min_eq_left (by omega),Nat.zero_add]
theorem js8 {n x:Nat} (h:(List.range n)[k]?=some x):x=k:=by
 rw [List.getElem?_range (by have:=(List.getElem?_eq_some_iff.1 h).1;simpa using this)] at h
 exact (Option.some.inj h).symm
theorem jbn {n:Nat} (h:k<n):(List.range n).drop k=k::(List.range n).drop (k+1):=by
 obtain ⟨x,hx,hd⟩:=jab (l:=List.range n) (k:=k) (by rw [List.length_range];exact h)
 rw [hd,js8 hx]
theorem jfR {n:Nat} (h:n≤k):(List.range n).drop k=[]:=jac (by rw [List.length_range];exact h)
theorem jqp (h:(decide (p.dst≥w.nodes.length)||sickV w p.dst)=true):inW now w p=w:=qf h
theorem jp9 (h:(decide (p.dst≥w.nodes.length)||sickV w p.dst)=false) (hd:p.dst=(d:Int)) (hy:w.nodes[d]?=some y):inW now w p=if (hearP y p.l now).2=0 then withW w (hearP y p.l now).1 else w:=by
 unfold inW
 rw [qe (by rw [h];decide),show p.dst.toNat=d by omega,hy]
theorem jqR (h:sickV w i=true):tkW now w i=w:=qf h
theorem jrp (h:sickV w i=false) (hy:w.nodes[i]?=some y):tkW now w i=if (tickP y now).2=0 then withW w (tickP y now).1 else w:=by
 unfold tkW
 rw [qe (by rw [h];decide),hy]
theorem jvX (h:sickV w i=true):outN now w n i=n:=qf h
theorem jv7 (h:sickV w i=false) (hy:w.nodes[i]?=some y):outN now w n i=(lettersP y).foldl (outL now w.nodes.length i) n:=by
 unfold outN
 rw [qe (by rw [h];decide),hy]
theorem jl9 (hW:WI c) (hy:c.nodes[d]?=some y) (hl:LB x.l) (hr:r=hearP y x.l now) (h0:r.2=0):WI (withW c r.1)∧r.1.node=(d:Int):=by
 subst hr
 have h1:=hW.nd d y hy
 have h2:=jdY h1.2 hl h0
 exact ⟨jcI hW hy h2.1 h2.2,h2.2.trans h1.1⟩
theorem jle (hW:WI c) (hy:c.nodes[d]?=some y) (hr:r=tickP y now) (h0:r.2=0):WI (withW c r.1)∧r.1.node=(d:Int):=by
 subst hr
 have h1:=hW.nd d y hy
 have h2:=jdW h1.2 h0
 exact ⟨jcI hW hy h2.1 h2.2,h2.2.trans h1.1⟩
theorem jdT (c:Wld) (p:Ptc):(withW c p).nodes.length=c.nodes.length:=by unfold withW;simp
theorem joo (c:List Mem) (hlen:1≤c.length∧c.length≤10) (hs:∀ m∈c,sizeT m.t≤100000) (hv:validC c=0) (hdc:∀ m∈c,m.decl=true) (ill:Int) (hi:0≤ill∧ill<(2^c.length:Nat)):C0 13 [cv c,.i ill] (.tup [wv ⟨0,newPtcs c 0,ill,zNtw,c.map (fun m=>[m.t])⟩,.i 0]):=by
 refine xI Tryz.func13 Tryz.call13 fun hcap=>?_
 have hml:(c.map mv).length=c.length:=by simp
 have hpw:=jb3 hlen.2
 refine xX fun b2=>?_
 refine zAl fun b4=>?_
 refine xA (jlP c (fun m hm=>by have:=hs m hm;omega)) ?_
 iterate 9 refine zW ?_
 refine jaE rfl (by simp [hv]) ?_
 refine xN fun _=>?_
 refine xN fun _=>?_
 iterate 4 refine zW ?_
 refine jaj [1,2,4,7,23,24] [.box b2 _ _,.box b4 _ _] (fun (k:Nat) r=>(25,.i (k:Int))::r) (fun k r=>r) (fun k=>k≤c.length) (fun k=>c.length - k) (0) zRc (by omega) (zWk) ?_
 intro k hk
 refine xC ?_ ?_<;>intro hc
 ·(
 have hlt:=qc hc
 obtain ⟨x,hx,hd⟩:=jab (l:=c) (k:=k) (by omega)
 have hx':=jad mv hx
 refine xL fun b9=>?_
 iterate 10 refine zW ?_
 refine jaE rfl (by rw [hdc x (qj hx)];rfl) ?_
 iterate 8 refine zW ?_
 refine ⟨k+1,by omega,by omega,zWk⟩)
 ·(
 have hge:=qd hc
 iterate 11 refine zW ?_
 iterate 7 all_goals refine zW ?_
 all_goals (refine zY ?_;(rw [jsr (by omega:(c.map mv).length≤62),hml];refine zP (jbg (p:=1) rfl rfl rfl (by omega) (by omega)) ?_))
 iterate 2 all_goals refine zW ?_
 all_goals (
 iterate 2 refine zW ?_
 refine jaE rfl jg9 ?_
 iterate 5 refine zW ?_
 refine zP (AP.up (jah zKr rfl zRc jav) (d':=.agg [.i 0,.v (.slice none 0 0),.i ill,.sl 28 [],.i 0,.sl 1 [],.sl 1 [],.v (.slice none 0 0)]) xUp) ?_
 refine zAl fun b10=>?_
 refine xN fun _=>?_
 iterate 4 refine zW ?_
 refine jaP [4,10,51,52] [.box b4 _ _] (fun (k:Nat) (v:Value) (u:Value) r=>(53,.i (k:Int))::r) (fun k v u r=>.box b10 40 [.i 0,.v v,.i ill,.sl 28 [],.i 0,.sl 1 [],.sl 1 [],.v u]::.arr v 107 6 ((newPtcs (c.take k) 0).map ptv)::.arr u 46 1 ((c.take k).map (fun m=>trv [m.t]))::r) (fun k v u=>k≤c.length) (fun k v u=>c.length - k) (0) (.slice none 0 0) (.slice none 0 0) zRc (by omega) ((jaO 107 6 rfl).trans ((jaO 46 1 rfl).trans (zWk))) ?_
 intro k v u hk
 have hqm:(newPtcs (c.take k) 0).length=k:=by rw [jgr,List.length_take];omega
 have hqn:((c.take k).map (fun m=>trv [m.t])).length=k:=by simp;omega
 refine xC ?_ ?_<;>intro hc
 ·(
 have hlt:=qc hc
 obtain ⟨x,hx,hd⟩:=jab (l:=c) (k:=k) (by omega)
 have hx':=jad mv hx
 refine xL fun b12=>?_
 iterate 11 refine zW ?_
 refine zP (AP.up (jah zKr rfl zRc jav) (d':=ptv ⟨(k:Int),false,x.t,[]⟩) xUp) ?_
 refine xLt 107 6 96 ?_
 refine xEa 107 6 96 (hb:=xLb) fun v65 hv65=>?_
 iterate 9 refine zW ?_
 refine xLt 48 3 56 ?_
 refine xLt 46 1 24 ?_
 refine xEa 46 1 24 (hb:=xLb) fun v73 hv73=>?_
 iterate 10 refine zW ?_
 rw [show D.sl 3 [D.agg [.i x.t.th,.sl 1 (x.t.nodes.map .i),.sl 3 (avs x.t.inner)]]=trv [x.t] by unfold trv;rw [← jwt];rfl,show List.map ptv (newPtcs (c.take k) 0)++[ptv ⟨(k:Int),false,x.t,[]⟩]=List.map ptv (newPtcs (c.take (k+1)) 0) by rw [jj1 hx,List.map_append];rfl,show (c.take k).map (fun m=>trv [m.t])++[trv [x.t]]=(c.take (k+1)).map (fun m=>trv [m.t]) by rw [jh6 hx,List.map_append];rfl]
 refine ⟨k+1,_,_,by omega,by omega,zWk⟩)
 ·(
 have hge:=qd hc
 rw [qA (show c.length≤k by omega),show c.map (fun m=>trv [m.t])=(c.map fun m=>[m.t]).map trv by rw [List.map_map];rfl]
 iterate 6 refine zW ?_
 refine zFz v [4,10] ?_
 refine zFz u [4,10] ?_
 refine xP ?_
 rfl)))
theorem jlV (w:Wld) (hW:WI w):C0 54 [wv w] (.tup [wv (tickW w).1,.i (tickW w).2]):=by
 refine xI Tryz.func54 Tryz.call54 fun hcap=>?_
 have hml:(w.nodes.map ptv).length=w.nodes.length:=by simp
 have hwl:=hW.len
 have hwt:=hW.time
 refine xX fun b1=>?_
 refine zAl fun b2=>?_
 refine xC ?_ ?_<;>intro hc
 ·(
 have h22:w.time≥200:=qc hc
 iterate 2 refine zW ?_
 refine zP (AP.up (jah zKr rfl zRc jav) (d':=wv zWld) xUp) ?_
 refine xP ?_
 unfold tickW;rw [qf h22];rfl)
 ·(
 have h22:¬ w.time≥200:=qd hc
 refine xB (jsy w.net hW.net (w.time+1)) ?_;rintro _ _ ⟨rfl,rfl⟩;have hPl:=(jf8 (now:=w.time+1) hW.net).2;have hPn:=jiU (n:=w.net) (now:=w.time+1);obtain ⟨P,hP⟩:∃ z9,z9=(dueV w.net (w.time+1)).1:=⟨_,rfl⟩;obtain ⟨N0,hN0⟩:∃ z9,z9=(dueV w.net (w.time+1)).2:=⟨_,rfl⟩;rw [← hP] at hPl hPn ⊢;rw [← hN0]
 refine xL fun b5=>?_
 refine xN fun _=>?_
 iterate 4 refine zW ?_
 have hA:tickA w={ w with time:=w.time+1,net:=N0 }:=by unfold tickA;rw [← hN0]
 have hPm:(P.map pcv).length=P.length:=by simp
 refine jag [1,2,38,39] [.box b2 _ _] (fun (i:Nat) (c:Wld) r=>(40,.i (i:Int))::r) (fun i c r=>.box b1 40 [.i c.time,.sl 6 (c.nodes.map ptv),.i c.ill,.sl 28 (c.net.pcs.map pcv),.i c.net.next,.sl 1 (c.net.parts.map .i),.sl 1 (c.net.dls.map .i),.sl 1 (c.trs.map trv)]::r) (fun i c=>i≤P.length∧WI c∧(c.time=w.time+1∧c.nodes.length=w.nodes.length)∧(P.drop i).foldl (inW (w.time+1)) c=tickB w) (fun i c=>P.length - i) (0) ({ w with time:=w.time+1,net:=N0 }) zRc ⟨by omega,hA ▸ jfo hW (by omega),⟨rfl,rfl⟩,by rw [List.drop_zero,← hA,hP];rfl⟩ (zWk) ?_
 intro i c ⟨hi,hWc,⟨hct,hcl⟩,hI⟩
 have hcm:(c.nodes.map ptv).length=c.nodes.length:=by simp
 refine xC ?_ ?_<;>intro hc
 ·(
 have hlt:=qc hc
 obtain ⟨x,hx,hd⟩:=jab (l:=P) (k:=i) (by omega)
 have hx':=jad pcv hx
 have hxn:=hPn x (qj hx)
 have hxl:=hPl x (qj hx)
 refine xL fun b7=>?_
 refine xN fun _=>?_
 iterate 2 refine zW ?_
 iterate 3 all_goals first | refine zW ?_ | refine xG ?_ ?_<;>intro hg
 all_goals first | (refine zY ?_;refine jaa zRc (jci c x.dst hxn.1 hWc.ill) rfl rfl ?_) | refine zSk ?_
 all_goals refine zW ?_
 all_goals (
 refine xC ?_ ?_<;>intro hc
 ·(
 first
 | (exact xQ hc)
 |(
 have h55:(decide (x.dst≥c.nodes.length)||sickV c x.dst)=true:=by rw [← hcm];first | (simp_all;done) | grind
 have mk55t:True:=trivial
 iterate 9 refine zW ?_
 rw [hd,List.foldl_cons] at hI
 rw [jqp h55] at hI;refine ⟨i+1,c,⟨by omega,hWc,⟨hct,hcl⟩,hI⟩,by omega,zWk⟩))
 ·(
 first
 | (exact xQ hc)
 |(
 have h55:(decide (x.dst≥c.nodes.length)||sickV c x.dst)=false:=by rw [← hcm];first | (simp_all;done) | grind
 have hdl:x.dst<c.nodes.length:=by simp only [Bool.or_eq_false_iff,decide_eq_false_iff_not] at h55;omega
 obtain ⟨d,hdd,hd9⟩:=jg6 hxn.1
 obtain ⟨y,hy⟩:∃ y,c.nodes[d]?=some y:=⟨_,List.getElem?_eq_getElem (by omega)⟩
 iterate 3 refine zW ?_
 refine zDr [] ?_
 refine zT 0 ?_;refine zT 1 ?_;refine zT 2 ?_;refine zT 3 ?_
 refine jan 4 rfl zGd zKr zKr zKr (AP.ar (jam (k:=d) rfl rfl rfl rfl (by decide) hdd (jad ptv hy))) rfl rfl ?_
 refine zT 5 ?_;refine zT 6 ?_;refine zT 7 ?_;refine zT 8 ?_;refine zT 9 ?_
 refine zE2 10 14 ?_ ?_
 rotate_left
 case' _ =>(
 refine zAl fun b8=>?_
 refine zW ?_
 refine zOn 10 ?_
 refine xB (jks y (hWc.nd d y hy).2 x.l hxl c.time) ?_;rintro _ _ ⟨rfl,rfl⟩;obtain ⟨r,hr⟩:∃ z9,z9=hearP y x.l c.time:=⟨_,rfl⟩;rw [← hr]
 refine zW ?_
 refine zT 11 ?_;refine zT 12 ?_;refine zT 13 ?_;refine zOn 15 ?_
 iterate 2 refine zW ?_
 refine zT 16 ?_
 refine zW ?_)
 rotate_right
 case' _ =>(
 refine xB (jks y (hWc.nd d y hy).2 x.l hxl c.time) ?_;rintro _ _ ⟨rfl,rfl⟩;obtain ⟨r,hr⟩:∃ z9,z9=hearP y x.l c.time:=⟨_,rfl⟩;rw [← hr]
 refine zW ?_
 refine zT 11 ?_;refine zT 12 ?_;refine zT 13 ?_;refine zOn 14 ?_
 refine zAl fun b8=>?_
 refine zW ?_
 refine zOn 15 ?_
 iterate 2 refine zW ?_
 refine zT 16 ?_
 refine zW ?_)
 all_goals (
 refine xC ?_ ?_<;>intro hc
 ·(
 have h71:r.2=0:=qc hc
 have mk71t:True:=trivial
 refine xA (jbU c r.1 d (jl9 hWc hy hxl hr h71).2 (by omega) (by omega)) ?_
 iterate 9 refine zW ?_
 rw [hd,List.foldl_cons] at hI
 first
 | (have:=mk55t;rw [jqp h55] at hI;refine ⟨i+1,c,⟨by omega,hWc,⟨hct,hcl⟩,hI⟩,by omega,zWk⟩)
 | (have:=mk71t;rw [jp9 h55 hdd hy,← hct,← hr,qf h71] at hI;refine ⟨i+1,withW c r.1,⟨by omega,(jl9 hWc hy hxl hr h71).1,⟨hct,(jdT c r.1).trans hcl⟩,by rw [← hct];exact hI⟩,by omega,zWk⟩))
 ·(
 have h71:¬ r.2=0:=qd hc
 have mk71f:True:=trivial
 iterate 8 refine zW ?_
 rw [hd,List.foldl_cons] at hI
 first
 | (have:=mk55t;rw [jqp h55] at hI;refine ⟨i+1,c,⟨by omega,hWc,⟨hct,hcl⟩,hI⟩,by omega,zWk⟩)
 | (have:=mk71t;rw [jp9 h55 hdd hy,← hct,← hr,qf h71] at hI;refine ⟨i+1,withW c r.1,⟨by omega,(jl9 hWc hy hxl hr h71).1,⟨hct,(jdT c r.1).trans hcl⟩,by rw [← hct];exact hI⟩,by omega,zWk⟩)
 | (have:=mk71f;rw [jp9 h55 hdd hy,← hct,← hr,qe h71] at hI;refine ⟨i+1,c,⟨by omega,hWc,⟨hct,hcl⟩,by rw [← hct];exact hI⟩,by omega,zWk⟩)))))))
 ·(
 have hge:=qd hc
 rw [jac (by omega)] at hI
 refine xN fun _=>?_
 iterate 4 refine zW ?_
 have hcB:c=tickB w:=hI
 have hcm2:(c.nodes.map ptv).length=w.nodes.length:=by rw [qu];exact hcl
 refine jag [1,2,78] [.box b2 _ _] (fun (i:Nat) (c2:Wld) r=>(79,.i (i:Int))::r) (fun i c2 r=>.box b1 40 [.i c2.time,.sl 6 (c2.nodes.map ptv),.i c2.ill,.sl 28 (c2.net.pcs.map pcv),.i c2.net.next,.sl 1 (c2.net.parts.map .i),.sl 1 (c2.net.dls.map .i),.sl 1 (c2.trs.map trv)]::r) (fun i c2=>i≤w.nodes.length∧WI c2∧(c2.time=w.time+1∧c2.nodes.length=w.nodes.length)∧((List.range w.nodes.length).drop i).foldl (tkW (w.time+1)) c2=tickC w) (fun i c2=>w.nodes.length - i) (0) (c) zRc ⟨by omega,hWc,⟨hct,hcl⟩,by rw [List.drop_zero];unfold tickC;rw [← hcB,hcl]⟩ (zWk) ?_
 intro i c2 ⟨hi,hWc,⟨hct,hcl⟩,hI⟩
 have hcm:(c2.nodes.map ptv).length=c2.nodes.length:=by simp
 refine xC ?_ ?_<;>intro hc
 ·(
 have hlt:=qc hc
 have hlt':i<w.nodes.length:=by omega
 obtain ⟨y,hy⟩:∃ y,c2.nodes[i]?=some y:=⟨_,List.getElem?_eq_getElem (by omega)⟩
 refine xA (jci c2 (i:Int) (by omega) hWc.ill) ?_
 refine xC ?_ ?_<;>intro hc
 ·(
 have h84:sickV c2 i=true:=hc
 have mk84t:True:=trivial
 iterate 9 refine zW ?_
 rw [jbn hlt',List.foldl_cons] at hI
 rw [jqR h84] at hI;refine ⟨i+1,c2,⟨by omega,hWc,⟨hct,hcl⟩,hI⟩,by omega,zWk⟩)
 ·(
 have h84:sickV c2 i=false:=hc
 iterate 3 refine zW ?_
 refine zDr [] ?_
 refine zT 0 ?_;refine zT 1 ?_;refine zT 2 ?_
 refine jan 3 rfl zGd zKr zKr zKr (AP.ar (jam (k:=i) rfl rfl rfl rfl (by decide) rfl (jad ptv hy))) rfl rfl ?_
 refine zT 4 ?_;refine zT 5 ?_;refine zT 6 ?_
 refine zE2 7 11 ?_ ?_
 rotate_left
 case' _ =>(
 refine zAl fun b11=>?_
 refine zW ?_
 refine zOn 7 ?_
 refine xB (jgI y (hWc.nd i y hy).2 c2.time) ?_;rintro _ _ ⟨rfl,rfl⟩;obtain ⟨r,hr⟩:∃ z9,z9=tickP y c2.time:=⟨_,rfl⟩;rw [← hr]
 refine zW ?_
 refine zT 8 ?_;refine zT 9 ?_;refine zT 10 ?_;refine zOn 12 ?_
 iterate 2 refine zW ?_
 refine zT 13 ?_
 refine zW ?_)
 rotate_right
 case' _ =>(
 refine xB (jgI y (hWc.nd i y hy).2 c2.time) ?_;rintro _ _ ⟨rfl,rfl⟩;obtain ⟨r,hr⟩:∃ z9,z9=tickP y c2.time:=⟨_,rfl⟩;rw [← hr]
 refine zW ?_
 refine zT 8 ?_;refine zT 9 ?_;refine zT 10 ?_;refine zOn 11 ?_
 refine zAl fun b11=>?_
 refine zW ?_
 refine zOn 12 ?_
 iterate 2 refine zW ?_
 refine zT 13 ?_
 refine zW ?_)
 all_goals (
 refine xC ?_ ?_<;>intro hc
 ·(
 have h97:r.2=0:=qc hc
 have mk97t:True:=trivial
 refine xA (jbU c2 r.1 i (jle hWc hy hr h97).2 (by omega) (by omega)) ?_
 iterate 9 refine zW ?_
 rw [jbn hlt',List.foldl_cons] at hI
 first
 | (have:=mk84t;rw [jqR h84] at hI;refine ⟨i+1,c2,⟨by omega,hWc,⟨hct,hcl⟩,hI⟩,by omega,zWk⟩)
 | (have:=mk97t;rw [jrp h84 hy,← hct,← hr,qf h97] at hI;refine ⟨i+1,withW c2 r.1,⟨by omega,(jle hWc hy hr h97).1,⟨hct,(jdT c2 r.1).trans hcl⟩,by rw [← hct];exact hI⟩,by omega,zWk⟩))
 ·(
 have h97:¬ r.2=0:=qd hc
 have mk97f:True:=trivial
 iterate 8 refine zW ?_
 rw [jbn hlt',List.foldl_cons] at hI
 first
 | (have:=mk84t;rw [jqR h84] at hI;refine ⟨i+1,c2,⟨by omega,hWc,⟨hct,hcl⟩,hI⟩,by omega,zWk⟩)
 | (have:=mk97t;rw [jrp h84 hy,← hct,← hr,qf h97] at hI;refine ⟨i+1,withW c2 r.1,⟨by omega,(jle hWc hy hr h97).1,⟨hct,(jdT c2 r.1).trans hcl⟩,by rw [← hct];exact hI⟩,by omega,zWk⟩)
 | (have:=mk97f;rw [jrp h84 hy,← hct,← hr,qe h97] at hI;refine ⟨i+1,c2,⟨by omega,hWc,⟨hct,hcl⟩,by rw [← hct];exact hI⟩,by omega,zWk⟩)))))
 ·(
 have hge:=qd hc
 rw [jfR (by omega)] at hI
 refine xN fun _=>?_
 iterate 4 refine zW ?_
 have hcC:c2=tickC w:=hI
 have hWc2:=hWc
 have hcm3:(c2.nodes.map ptv).length=w.nodes.length:=by rw [qu];exact hcl
 refine jag [1,2,103,104] [.box b2 _ _] (fun (i:Nat) (m:Ntw) r=>(105,.i (i:Int))::r) (fun i m r=>.box b1 40 [.i c2.time,.sl 6 (c2.nodes.map ptv),.i c2.ill,.sl 28 (m.pcs.map pcv),.i m.next,.sl 1 (m.parts.map .i),.sl 1 (m.dls.map .i),.sl 1 (c2.trs.map trv)]::r) (fun i m=>i≤w.nodes.length∧NtI m∧((List.range w.nodes.length).drop i).foldl (outN (w.time+1) c2) m=(List.range w.nodes.length).foldl (outN (w.time+1) c2) c2.net) (fun i m=>w.nodes.length - i) (0) (c2.net) zRc ⟨by omega,hWc2.net,rfl⟩ (zWk) ?_
 intro i m ⟨hi,hNm,hI3⟩
 refine xC ?_ ?_<;>intro hc
 ·(
 have hlt:=qc hc
 have hlt':i<w.nodes.length:=by omega
 obtain ⟨y,hy⟩:∃ y,c2.nodes[i]?=some y:=⟨_,List.getElem?_eq_getElem (by omega)⟩
 have hy':=jad ptv hy
 refine xL fun b14=>?_
 refine xA (jci { c2 with net:=m } (i:Int) (by omega) hWc2.ill) ?_
 refine xC ?_ ?_<;>intro hc
 ·(
 have h112:sickV c2 i=true:=hc
 iterate 9 refine zW ?_
 rw [jbn hlt',List.foldl_cons] at hI3
 rw [jvX h112] at hI3;refine ⟨i+1,m,⟨by omega,hNm,hI3⟩,by omega,zWk⟩)
 ·(
 have h112:sickV c2 i=false:=hc
 refine xA (jg5 y (hWc2.nd i y hy).2) ?_
 refine zLn fun _=>?_
 iterate 4 refine zW ?_
 obtain ⟨Ls,hLs⟩:∃ z9,z9=lettersP y:=⟨_,rfl⟩
 rw [← hLs]
 have hLb:∀ l∈Ls,LB l:=hLs ▸ jfY (hWc2.nd i y hy).2
 have hLm:(Ls.map ltv).length=Ls.length:=by simp
 have hLc:Ls.length≤capB:=by rename_i hcp;rw [← hLs,hLm] at hcp;exact hcp
 refine jag [1,2,13,103,104,105,114,115] [.box b2 _ _] (fun (j:Nat) (m2:Ntw) r=>(116,.i (j:Int))::r) (fun j m2 r=>.box b1 40 [.i c2.time,.sl 6 (c2.nodes.map ptv),.i c2.ill,.sl 28 (m2.pcs.map pcv),.i m2.next,.sl 1 (m2.parts.map .i),.sl 1 (m2.dls.map .i),.sl 1 (c2.trs.map trv)]::r) (fun j m2=>j≤Ls.length∧NtI m2∧(Ls.drop j).foldl (outL (w.time+1) w.nodes.length i) m2=Ls.foldl (outL (w.time+1) w.nodes.length i) m) (fun j m2=>Ls.length - j) (0) (m) zRc ⟨by omega,hNm,rfl⟩ (zWk) ?_
 intro j m2 ⟨hj,hN2,hI4⟩
 refine xC ?_ ?_<;>intro hc
 ·(
 have hlt4:=qc hc
 obtain ⟨l,hl,hd4⟩:=jab (l:=Ls) (k:=j) (by omega)
 have hl':=jad ltv hl
 refine xL fun b16=>?_
 refine xN fun _=>?_
 iterate 4 refine zW ?_
 refine jag [1,2,13,16,103,104,105,114,115,116,122] [.box b2 _ _,.box b16 _ _] (fun (k:Nat) (m3:Ntw) r=>(123,.i (k:Int))::r) (fun k m3 r=>.box b1 40 [.i c2.time,.sl 6 (c2.nodes.map ptv),.i c2.ill,.sl 28 (m3.pcs.map pcv),.i m3.next,.sl 1 (m3.parts.map .i),.sl 1 (m3.dls.map .i),.sl 1 (c2.trs.map trv)]::r) (fun k m3=>k≤w.nodes.length∧NtI m3∧((List.range w.nodes.length).drop k).foldl (sndN (w.time+1) i l) m3=(List.range w.nodes.length).foldl (sndN (w.time+1) i l) m2) (fun k m3=>w.nodes.length - k) (0) (m2) zRc ⟨by omega,hN2,rfl⟩ (zWk) ?_
 intro k m3 ⟨hk,hN3,hI5⟩
 refine xC ?_ ?_<;>intro hc
 ·(
 have hltk:=qc hc
 have hlt5:k<w.nodes.length:=by omega
 refine xC ?_ ?_<;>intro hc
 ·(
 have h128:k=i:=by have:=qc hc;omega
 iterate 9 refine zW ?_
 rw [jbn hlt5,List.foldl_cons] at hI5
 rw [show sndN (w.time+1) i l m3 k=m3 from qf h128] at hI5;refine ⟨k+1,m3,⟨by omega,hN3,hI5⟩,by omega,zWk⟩)
 ·(
 have h128:¬ k=i:=by have:=qd hc;omega
 refine xB (jkV m3 hN3 (i:Int) (k:Int) l c2.time) ?_;rintro _ _ ⟨rfl,rfl⟩;obtain ⟨r,hr⟩:∃ z9,z9=sendV m3 (i:Int) (k:Int) l c2.time:=⟨_,rfl⟩;rw [← hr]
 refine xL fun b18=>?_
 refine xC ?_ ?_<;>intro hc
 ·(
 have h141:r.2=0:=qc hc
 iterate 12 refine zW ?_
 rw [jbn hlt5,List.foldl_cons] at hI5
 rw [show sndN (w.time+1) i l m3 k=r.1 by unfold sndN;rw [qe h128,← hct,← hr,qf h141]] at hI5;refine ⟨k+1,r.1,⟨by omega,hr ▸ jiu hN3 (hLb l (qj hl)) (hr ▸ h141),hI5⟩,by omega,zWk⟩)
 ·(
 have h141:¬ r.2=0:=qd hc
 iterate 8 refine zW ?_
 rw [jbn hlt5,List.foldl_cons] at hI5
 rw [show sndN (w.time+1) i l m3 k=m3 by unfold sndN;rw [qe h128,← hct,← hr,qe h141]] at hI5;refine ⟨k+1,m3,⟨by omega,hN3,hI5⟩,by omega,zWk⟩)))
 ·(
 have hge5:=qd hc
 rw [jfR (by omega),List.foldl_nil] at hI5
 iterate 11 refine zW ?_
 rw [hd4,List.foldl_cons,show outL (w.time+1) w.nodes.length i m2 l=m3 from hI5.symm] at hI4
 refine ⟨j+1,m3,⟨by omega,hN3,hI4⟩,by omega,zWk⟩))
 ·(
 have hge4:=qd hc
 rw [jac (by omega),List.foldl_nil] at hI4
 iterate 11 refine zW ?_
 rw [jbn hlt',List.foldl_cons] at hI3
 rw [jv7 h112 hy,hcl,← hLs,← hI4] at hI3;refine ⟨i+1,m2,⟨by omega,hN2,hI3⟩,by omega,zWk⟩)))
 ·(
 have hge:=qd hc
 rw [jfR (by omega)] at hI3
 refine xP ?_
 unfold tickW;rw [qe h22];unfold tickD;rw [← hcC,hcl,← hI3];rfl))))
def spv (s:Sp):D:=.agg [.i s.kind,.i s.node,.i s.to,.i s.slot,.i s.count,.v (.string s.val),.i s.t.th,.sl 1 (s.t.nodes.map .i),.sl 3 (avs s.t.inner),.i s.l.kind,.i s.l.slot,.i s.l.nom.node,.i s.l.nom.seq,.i s.l.nom.t.th,.sl 1 (s.l.nom.t.nodes.map .i),.sl 3 (avs s.l.nom.t.inner),.sl 1 (s.l.nom.votes.map strv),.sl 1 (s.l.nom.accs.map strv),.i s.l.env.node,.i s.l.env.slot,.i s.l.env.seq,.i s.l.env.t.th,.sl 1 (s.l.env.t.nodes.map .i),.sl 3 (avs s.l.env.t.inner),.i s.l.env.kind,.i s.l.env.bal.n,.v (.string s.l.env.bal.v),.i s.l.env.prep.n,.v (.string s.l.env.prep.v),.i s.l.env.prime.n,.v (.string s.l.env.prime.v),.i s.l.env.low,.i s.l.env.high,.sl 1 (s.parts.map .i)]
theorem jrX {k:Int} (hW:WI w) (h:thereW w k=true):(0≤k∧k≤9)∧k<w.nodes.length:=by
 have hl:=hW.len
 simp only [thereW,qh,qm] at h
 omega
theorem jcA (hW:WI w) (hy:w.nodes[d]?=some y) (hf:∀ p,PI p→(f p).2=0→PI (f p).1∧(f p).1.node=p.node) (hr:r=f y) (h0:r.2=0):r.1.node=(d:Int):=by
 subst hr
 have h1:=hW.nd d y hy
 exact (hf y h1.2 h0).2.trans h1.1
theorem jdV {s:Sp} (hs:sickV w s.node=false) (hd:s.node=(d:Int)) (hy:w.nodes[d]?=some y) (hr:r=f y):nodeW w s f=if ¬ r.2=0 then (zWld,r.2) else (withW w r.1,0):=by
 unfold nodeW
 rw [qe (by rw [hs];decide),show s.node.toNat=d by omega,hy,hr]
theorem ji6 {s:Sp} (hs:sickV w s.node=true):nodeW w s f=(zWld,63):=qf hs
theorem jp0 (w:Wld) (hW:WI w) (s:Sp) (hs:SB s) (hn:0≤s.node∧s.node≤9):C0 57 [wv w,spv s] (.tup [wv (showW w s).1,.i (showW w s).2]):=by
 refine xI Tryz.func57 Tryz.call57 fun hcap=>?_
 refine xX fun b2=>?_
 refine zBx fun b3=>?_
 refine zAl fun b4=>?_
 refine xL fun b6=>?_
 refine xA (jci w s.node hn hW.ill) ?_
 iterate 2 refine zW ?_
 iterate 3 all_goals first | refine zW ?_ | refine xG ?_ ?_<;>intro hg
 all_goals first | (refine zY ?_;refine jaa zRc (jhW w s.to) rfl rfl ?_) | refine zSk ?_
 iterate 10 all_goals first | refine zW ?_ | refine xG ?_ ?_<;>intro hg
 all_goals (
 refine xC ?_ ?_<;>intro hc
 ·(
 first
 | (exact xQ hc)
 |(
 have h11:(sickV w s.node=false∨thereW w s.to=false)∨s.to=s.node:=by first | (simp_all;done) | grind
 iterate 2 refine zW ?_
 refine zP (AP.up (jah zKr rfl zRc jav) (d':=wv zWld) xUp) ?_
 refine xP ?_
 unfold showW;rw [qf h11];rfl))
 ·(
 first
 | (exact xQ hc)
 |(
 have h11:¬ ((sickV w s.node=false∨thereW w s.to=false)∨s.to=s.node):=by first | (simp_all;done) | grind
 iterate 6 refine zW ?_
 iterate 21 all_goals first | refine zW ?_ | refine xG ?_ ?_<;>intro hg
 all_goals (
 refine xC ?_ ?_<;>intro hc
 ·(
 first
 | (exact xQ hc)
 |(
 have hq32:(s.l.kind=1∧¬ s.l.nom.node=s.node)∨(s.l.kind=2∧¬ s.l.env.node=s.node):=by first | (simp_all;done) | grind
 iterate 2 refine zW ?_
 refine zP (AP.up (jah zKr rfl zRc jav) (d':=wv zWld) xUp) ?_
 refine xP ?_
 unfold showW;rw [qe h11,qf hq32];rfl))
 ·(
 first
 | (exact xQ hc)
 |(
 have hq32:¬ ((s.l.kind=1∧¬ s.l.nom.node=s.node)∨(s.l.kind=2∧¬ s.l.env.node=s.node)):=by first | (simp_all;done) | grind
 iterate 6 refine zW ?_
 iterate 5 all_goals first | refine zW ?_ | refine xG ?_ ?_<;>intro hg
 all_goals (
 refine xC ?_ ?_<;>intro hc
 ·(
 first
 | (exact xQ hc)
 |(
 have h58:¬ s.l.kind=1∧¬ s.l.kind=2:=by first | (simp_all;done) | grind
 iterate 2 refine zW ?_
 refine zP (AP.up (jah zKr rfl zRc jav) (d':=wv zWld) xUp) ?_
 refine xP ?_
 unfold showW;rw [qe h11,qe hq32,qf h58];rfl))
 ·(
 first
 | (exact xQ hc)
 |(
 have h58:¬ (¬ s.l.kind=1∧¬ s.l.kind=2):=by first | (simp_all;done) | grind
 refine xB (jkV w.net hW.net s.node s.to s.l w.time) ?_;rintro _ _ ⟨rfl,rfl⟩;obtain ⟨r,hr⟩:∃ z9,z9=sendV w.net s.node s.to s.l w.time:=⟨_,rfl⟩;rw [← hr]
 refine xL fun b7=>?_
 refine xC ?_ ?_<;>intro hc
 ·(
 have h82:¬ r.2=0:=jaf hc
 iterate 2 refine zW ?_
 refine zP (AP.up (jah zKr rfl zRc jav) (d':=wv zWld) xUp) ?_
 refine xP ?_
 unfold showW;rw [qe h11,qe hq32,qe h58,← hr,qf h82];rfl)
 ·(
 have h82:r.2=0:=jae hc
 refine xP ?_
 unfold showW;rw [qe h11,qe hq32,qe h58,← hr,qe (fun h=>h h82)];rfl))))))))))
theorem jnl {cnt:Nat} (h:k<cnt):ticksW (cnt - k) c=if ¬ (tickW c).2=0 then (zWld,(tickW c).2) else ticksW (cnt - (k+1)) (tickW c).1:=by
 rw [show cnt - k=(cnt - (k+1))+1 by omega,ticksW]
end Go.Proofs.YtgmpjpaekpefdaaGreat
