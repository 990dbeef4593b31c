/- Walks: each says what one function of the program answers, for the arguments that its statement names. No condition beyond what each theorem says. -/
import Derived.Test.YtgmpjpaekpefdaaGreatAnalyserPlainW7
import Derived.Test.YtgmpjpaekpefdaaGreatProg
import Derived.KernelRfl
import Derived.Tactics
import Derived.Tactics2
import Derived.StillTactics
set_option linter.unusedVariables false
set_option linter.unusedSimpArgs false
set_option maxRecDepth 4000
set_option maxHeartbeats 16000000
namespace Go.Proofs.YtgmpjpaekpefdaaGreat
open Go Go.Av Go.Tq
variable {c:List Mem} {q:List Otc} {n s:Nat} {a:Otc} {v:Str}
theorem jvu (w:Wld) (hW:WI w) (s:Sp) (hs:SB s) (hk3:¬ s.kind=3):C0 15 [wv w,spv s] (.tup [wv (doW w s).1,.i (doW w s).2]):=by
 refine xI Tryz.func15 Tryz.call15 fun hcap=>?_
 have hml:(w.nodes.map ptv).length=w.nodes.length:=by simp
 have hwl:=hW.len
 refine xX fun b2=>?_
 refine zBx fun b3=>?_
 refine zAl fun b4=>?_
 refine xA (jfm w hW) ?_
 refine xC ?_ ?_<;>intro hc
 ·(
 have h18:checkW w=false:=jau hc
 iterate 2 refine zW ?_
 refine zP (AP.up (jah zKr rfl zRc jav) (d':=wv zWld) xUp) ?_
 refine xP ?_
 unfold doW;rw [qf h18];rfl)
 ·(
 have h18:checkW w=true:=jat hc
 iterate 9 refine zW ?_
 iterate 4 all_goals first | refine zW ?_ | refine xG ?_ ?_<;>intro hg
 all_goals (
 refine xC ?_ ?_<;>intro hc
 ·(
 first
 | (exact xQ hc)
 |(
 have h27:s.kind<1∨s.kind>8:=by first | exact .inl (qc hg) | exact .inr (qc hc)
 iterate 2 refine zW ?_
 refine zP (AP.up (jah zKr rfl zRc jav) (d':=wv zWld) xUp) ?_
 refine xP ?_
 unfold doW;rw [qe (by rw [h18];decide),qf h27];rfl))
 ·(
 first
 | (exact xQ hc)
 |(
 have h27:¬ (s.kind<1∨s.kind>8):=by rintro (h | h);exact qd hg h;exact qd hc h
 iterate 9 refine zW ?_
 iterate 8 all_goals first | refine zW ?_ | refine xG ?_ ?_<;>intro hg
 all_goals first | (refine zY ?_;refine jaa zRc (jhW w s.node) rfl rfl ?_) | refine zSk ?_
 iterate 2 all_goals refine zW ?_
 all_goals (
 refine xC ?_ ?_<;>intro hc
 ·(
 first
 | (exact xQ hc)
 |(
 have h43:(¬ s.kind=2∧¬ s.kind=6)∧thereW w s.node=false:=by first | (simp_all;done) | grind
 iterate 2 refine zW ?_
 refine zP (AP.up (jah zKr rfl zRc jav) (d':=wv zWld) xUp) ?_
 refine xP ?_
 unfold doW;rw [qe (by rw [h18];decide),qe h27,qf h43];rfl))
 ·(
 first
 | (exact xQ hc)
 |(
 have h43:¬ ((¬ s.kind=2∧¬ s.kind=6)∧thereW w s.node=false):=by first | (simp_all;done) | grind
 refine xC ?_ ?_<;>intro hc
 ·(
 have h47:s.kind=2:=qc hc
 iterate 7 refine zW ?_
 iterate 4 all_goals first | refine zW ?_ | refine xG ?_ ?_<;>intro hg
 all_goals (
 refine xC ?_ ?_<;>intro hc
 ·(
 first
 | (exact xQ hc)
 |(
 have h56:s.count<1∨s.count>200:=by first | exact .inl (qc hg) | exact .inr (qc hc)
 iterate 2 refine zW ?_
 refine zP (AP.up (jah zKr rfl zRc jav) (d':=wv zWld) xUp) ?_
 refine xP ?_
 unfold doW;rw [qe (by rw [h18];decide),qe h27,qe h43,qf h47,qf h56];rfl))
 ·(
 first
 | (exact xQ hc)
 |(
 have h56:¬ (s.count<1∨s.count>200):=by rintro (h | h);exact qd hg h;exact qd hc h
 iterate 9 refine zW ?_
 obtain ⟨cnt,hcnt⟩:∃ n:Nat,s.count=(n:Int):=⟨s.count.toNat,by omega⟩
 refine jag [2,3,4] [.box b3 _ _,.box b4 _ _] (fun (k:Nat) (c:Wld) r=>(6,.i (k:Int))::r) (fun k c r=>.box b2 40 [.i c.time,.sl 6 (c.nodes.map ptv),.i c.ill,.sl 28 (c.net.pcs.map pcv),.i c.net.next,.sl 1 (c.net.parts.map .i),.sl 1 (c.net.dls.map .i),.sl 1 (c.trs.map trv)]::r) (fun k c=>k≤cnt∧WI c∧ticksW (cnt - k) c=ticksW cnt w) (fun k c=>cnt - k) (0) (w) zRc ⟨by omega,hW,by rw [Nat.sub_zero]⟩ (zWk) ?_
 intro k c ⟨hk,hWc,hI⟩
 refine xC ?_ ?_<;>intro hc
 ·(
 have hlt:k<cnt:=by have:=qc hc;omega
 refine xB (jlV c hWc) ?_;rintro _ _ ⟨rfl,rfl⟩;obtain ⟨r,hr⟩:∃ z9,z9=tickW c:=⟨_,rfl⟩;rw [← hr]
 refine xL fun b7=>?_
 refine xC ?_ ?_<;>intro hc
 ·(
 have h70:¬ r.2=0:=jaf hc
 rw [jnl hlt,← hr,qf h70] at hI
 iterate 2 refine zW ?_
 refine zP (AP.up (jah zKr rfl zRc jav) (d':=wv zWld) xUp) ?_
 refine xP ?_
 unfold doW;rw [qe (by rw [h18];decide),qe h27,qe h43,qf h47,qe h56,show s.count.toNat=cnt by omega,← hI];rfl)
 ·(
 have h70:r.2=0:=jae hc
 iterate 14 refine zW ?_
 rw [jnl hlt,← hr,qe (fun h=>h h70)] at hI
 refine ⟨k+1,r.1,⟨by omega,hr ▸ jmW hWc (hr ▸ h70),hI⟩,by omega,zWk⟩))
 ·(
 have hke:k=cnt:=by have:=qd hc;omega
 rw [hke,Nat.sub_self,ticksW] at hI
 refine xP ?_
 unfold doW;rw [qe (by rw [h18];decide),qe h27,qe h43,qf h47,qe h56,show s.count.toNat=cnt by omega,← hI];rfl)))))
 ·(
 have h47:¬ s.kind=2:=qd hc
 refine xC ?_ ?_<;>intro hc
 ·(
 have h75:s.kind=6:=qc hc
 refine xB (jlf w.net hW.net s.parts) ?_;rintro _ _ ⟨rfl,rfl⟩;obtain ⟨r,hr⟩:∃ z9,z9=partN w.net s.parts:=⟨_,rfl⟩;rw [← hr]
 refine xL fun b9=>?_
 refine xC ?_ ?_<;>intro hc
 ·(
 have h86:¬ r.2=0:=jaf hc
 iterate 2 refine zW ?_
 refine zP (AP.up (jah zKr rfl zRc jav) (d':=wv zWld) xUp) ?_
 refine xP ?_
 unfold doW;rw [qe (by rw [h18];decide),qe h27,qe h43,qe h47,qf h75,← hr,qf h86];rfl)
 ·(
 have h86:r.2=0:=jae hc
 refine xP ?_
 unfold doW;rw [qe (by rw [h18];decide),qe h27,qe h43,qe h47,qf h75,← hr,qe (fun h=>h h86)];rfl))
 ·(
 have h75:¬ s.kind=6:=qd hc
 have hnr:=jrX hW (show thereW w s.node=true by cases hh:thereW w s.node;exact qo ⟨⟨h47,h75⟩,hh⟩ h43;rfl)
 refine xC ?_ ?_<;>intro hc
 ·(
 have h92:s.kind=7:=qc hc
 refine xB (jjs w.net hW.net s.node s.to s.count) ?_;rintro _ _ ⟨rfl,rfl⟩;obtain ⟨r,hr⟩:∃ z9,z9=delayN w.net s.node s.to s.count:=⟨_,rfl⟩;rw [← hr]
 refine xL fun b11=>?_
 refine xC ?_ ?_<;>intro hc
 ·(
 have h107:¬ r.2=0:=jaf hc
 iterate 2 refine zW ?_
 refine zP (AP.up (jah zKr rfl zRc jav) (d':=wv zWld) xUp) ?_
 refine xP ?_
 unfold doW;rw [qe (by rw [h18];decide),qe h27,qe h43,qe h47,qe h75,qf h92,← hr,qf h107];rfl)
 ·(
 have h107:r.2=0:=jae hc
 refine xP ?_
 unfold doW;rw [qe (by rw [h18];decide),qe h27,qe h43,qe h47,qe h75,qf h92,← hr,qe (fun h=>h h107)];rfl))
 ·(
 have h92:¬ s.kind=7:=qd hc
 refine xC ?_ ?_<;>intro hc
 ·(
 have h113:s.kind=5:=qc hc
 refine xA (jp0 w hW s hs hnr.1) ?_
 refine xP ?_
 unfold doW;rw [qe (by rw [h18];decide),qe h27,qe h43,qe h47,qe h75,qe h92,qf h113];rfl)
 ·(
 have h113:¬ s.kind=5:=qd hc
 refine xA (jci w s.node hnr.1 hW.ill) ?_
 refine xC ?_ ?_<;>intro hc
 ·(
 have h123:sickV w s.node=true:=hc
 iterate 2 refine zW ?_
 refine zP (AP.up (jah zKr rfl zRc jav) (d':=wv zWld) xUp) ?_
 refine xP ?_
 unfold doW;rw [qe (by rw [h18];decide),qe h27,qe h43,qe h47,qe h75,qe h92,qe h113];rw [ji6 h123,ji6 h123,ji6 h123];by_cases ha:s.kind=1
 ·rw [qf ha];rfl
 ·rw [qe ha,ite_self];rfl)
 ·(
 have h123:sickV w s.node=false:=hc
 obtain ⟨d,hdd,hd9⟩:=jg6 hnr.1
 obtain ⟨y,hy⟩:∃ y,w.nodes[d]?=some y:=⟨_,List.getElem?_eq_getElem (by omega)⟩
 have hyP:=(hW.nd d y hy).2
 iterate 8 refine zW ?_
 refine zP (jam (k:=d) rfl rfl rfl rfl (by decide) hdd (jad ptv hy)) ?_
 refine xL fun b13=>?_
 refine xL fun b14=>?_
 refine xC ?_ ?_<;>intro hc
 ·(
 have h138:s.kind=1:=qc hc
 have mk138t:True:=trivial
 refine xB (jo7 y hyP s.slot s.val w.time) ?_;rintro _ _ ⟨rfl,rfl⟩;obtain ⟨r,hr⟩:∃ z9,z9=beginP y s.slot s.val w.time:=⟨_,rfl⟩;rw [← hr]
 refine xC ?_ ?_<;>intro hc
 ·(
 first
 | (exact xQ hc)
 |(
 have h169:¬ r.2=0:=jaf hc
 iterate 2 refine zW ?_
 refine zP (AP.up (jah zKr rfl zRc jav) (d':=wv zWld) xUp) ?_
 refine xP ?_
 unfold doW;rw [qe (by rw [h18];decide),qe h27,qe h43,qe h47,qe h75,qe h92,qe h113,qf h138,jdV (f:=fun p=>beginP p s.slot s.val w.time) h123 hdd hy hr,qf h169];rfl))
 ·(
 first
 | (exact xQ hc)
 |(
 have h169:r.2=0:=by first | exact jae hc | rw [hr]
 have hrn:r.1.node=(d:Int):=by first | (have:=mk138t;exact jcA hW hy (f:=fun p=>beginP p s.slot s.val w.time) (fun p hp e=>jdR hp e) hr h169) | (have:=mk151t;exact jcA hW hy (f:=fun p=>prefP p s.slot s.val w.time) (fun p hp e=>jej hp e) hr h169) | (have:=mk164t;exact jcA hW hy (f:=fun p=>(stopP p,0)) (fun p hp e=>jfx hp) hr h169)
 refine xA (jbU w r.1 d hrn (by omega) (by omega)) ?_
 refine xP ?_
 unfold doW;rw [qe (by rw [h18];decide),qe h27,qe h43,qe h47,qe h75,qe h92,qe h113,qf h138,jdV (f:=fun p=>beginP p s.slot s.val w.time) h123 hdd hy hr,qe (fun h=>h h169)];rfl)))
 ·(
 have h138:¬ s.kind=1:=qd hc
 refine xC ?_ ?_<;>intro hc
 ·(
 have h151:s.kind=8:=qc hc
 have mk151t:True:=trivial
 refine xB (jjn y hyP s.slot s.val w.time) ?_;rintro _ _ ⟨rfl,rfl⟩;obtain ⟨r,hr⟩:∃ z9,z9=prefP y s.slot s.val w.time:=⟨_,rfl⟩;rw [← hr]
 refine xC ?_ ?_<;>intro hc
 ·(
 first
 | (exact xQ hc)
 |(
 have h169:¬ r.2=0:=jaf hc
 iterate 2 refine zW ?_
 refine zP (AP.up (jah zKr rfl zRc jav) (d':=wv zWld) xUp) ?_
 refine xP ?_
 unfold doW;rw [qe (by rw [h18];decide),qe h27,qe h43,qe h47,qe h75,qe h92,qe h113,qe h138,qf h151,jdV (f:=fun p=>prefP p s.slot s.val w.time) h123 hdd hy hr,qf h169];rfl))
 ·(
 first
 | (exact xQ hc)
 |(
 have h169:r.2=0:=by first | exact jae hc | rw [hr]
 have hrn:r.1.node=(d:Int):=by first | (have:=mk138t;exact jcA hW hy (f:=fun p=>beginP p s.slot s.val w.time) (fun p hp e=>jdR hp e) hr h169) | (have:=mk151t;exact jcA hW hy (f:=fun p=>prefP p s.slot s.val w.time) (fun p hp e=>jej hp e) hr h169) | (have:=mk164t;exact jcA hW hy (f:=fun p=>(stopP p,0)) (fun p hp e=>jfx hp) hr h169)
 refine xA (jbU w r.1 d hrn (by omega) (by omega)) ?_
 refine xP ?_
 unfold doW;rw [qe (by rw [h18];decide),qe h27,qe h43,qe h47,qe h75,qe h92,qe h113,qe h138,qf h151,jdV (f:=fun p=>prefP p s.slot s.val w.time) h123 hdd hy hr,qe (fun h=>h h169)];rfl)))
 ·(
 have h151:¬ s.kind=8:=qd hc
 have h164:s.kind=4:=by omega
 have mk164t:True:=trivial
 iterate 6 refine zW ?_
 refine jbQ rfl (qg h164) ?_
 refine xB (jqe y hyP) ?_;rintro _ _ ⟨rfl,rfl⟩;obtain ⟨r,hr⟩:∃ z9:Ptc × Int,z9=(stopP y,0):=⟨_,rfl⟩;rw [show stopP y=r.1 by rw [hr]]
 refine xC ?_ ?_<;>intro hc
 ·exact xQ hc
 ·(
 first
 | (exact xQ hc)
 |(
 have h169:r.2=0:=by first | exact jae hc | rw [hr]
 have hrn:r.1.node=(d:Int):=by first | (have:=mk138t;exact jcA hW hy (f:=fun p=>beginP p s.slot s.val w.time) (fun p hp e=>jdR hp e) hr h169) | (have:=mk151t;exact jcA hW hy (f:=fun p=>prefP p s.slot s.val w.time) (fun p hp e=>jej hp e) hr h169) | (have:=mk164t;exact jcA hW hy (f:=fun p=>(stopP p,0)) (fun p hp e=>jfx hp) hr h169)
 refine xA (jbU w r.1 d hrn (by omega) (by omega)) ?_
 refine xP ?_
 unfold doW;rw [qe (by rw [h18];decide),qe h27,qe h43,qe h47,qe h75,qe h92,qe h113,qe h138,qe h151,jdV (f:=fun p=>(stopP p,0)) h123 hdd hy hr,qe (fun h=>h h169)];rfl))))))))))))))))
def otv (o:Otc):D:=.agg [.i o.node,.i o.slot,.v (.string o.val)]
theorem jsh (q:List Otc) (x:Otc):List.map otv q++[otv x]=(q++[x]).map otv:=by rw [List.map_append];rfl
theorem jsJ (c:List Mem) (hlen:1≤c.length∧c.length≤10) (hs:∀ m∈c,sizeT m.t≤100000) (hv:validC c=0) (hdc:∀ m∈c,m.decl=true) (ill:Int) (hi:0≤ill∧ill<(2^c.length:Nat)) (l:List Sp) (hl:∀ s∈l,SB s∧¬ s.kind=3):C0 19 [cv c,.i ill,.sl 34 (l.map spv)] (.tup [wv (runV (startW c ill) l).1,.i ((runV (startW c ill) l).2.1:Int),.i (runV (startW c ill) l).2.2]):=by
 refine xI Tryz.func19 Tryz.call19 fun hcap=>?_
 have hml:(l.map spv).length=l.length:=by simp
 have hW0:=jf2 hlen.2 hs hi
 refine xX fun b3=>?_
 refine zAl fun b6=>?_
 refine xB (joo c hlen hs hv hdc ill hi) ?_;rintro _ _ ⟨rfl,rfl⟩;rw [show (⟨0,newPtcs c 0,ill,zNtw,c.map (fun m=>[m.t])⟩:Wld)=startW c ill from rfl]
 refine xL fun b9=>?_
 iterate 11 refine zW ?_
 refine jaE rfl jg9 ?_
 refine xN fun _=>?_
 refine xC ?_ ?_<;>intro hc
 ·(
 have h27:l.length>300:=by have:=qc hc;omega
 refine xP ?_
 unfold runV;rw [qf h27];rfl)
 ·(
 have h27:¬ l.length>300:=by have:=qd hc;omega
 refine xN fun _=>?_
 iterate 4 refine zW ?_
 refine jag [2,6,9,29,30] [.box b6 _ _] (fun (i:Nat) (c2:Wld) r=>(31,.i (i:Int))::r) (fun i c2 r=>.box b9 40 [.i c2.time,.sl 6 (c2.nodes.map ptv),.i c2.ill,.sl 28 (c2.net.pcs.map pcv),.i c2.net.next,.sl 1 (c2.net.parts.map .i),.sl 1 (c2.net.dls.map .i),.sl 1 (c2.trs.map trv)]::r) (fun i c2=>i≤l.length∧WI c2∧runGo c2 (l.drop i) i=runGo (startW c ill) l 0) (fun i c2=>l.length - i) (0) (startW c ill) zRc ⟨by omega,hW0,rfl⟩ (zWk) ?_
 intro i c2 ⟨hi9,hWc,hI⟩
 refine xC ?_ ?_<;>intro hc
 ·(
 have hlt:=qc hc
 obtain ⟨s,hx,hd⟩:=jab (l:=l) (k:=i) (by omega)
 have hx':=jad spv hx
 have hsl:=hl s (qj hx)
 refine xL fun b12=>?_
 refine xB (jvu c2 hWc s hsl.1 hsl.2) ?_;rintro _ _ ⟨rfl,rfl⟩;obtain ⟨r,hr⟩:∃ z9,z9=doW c2 s:=⟨_,rfl⟩;rw [← hr]
 refine xL fun b13=>?_
 refine xC ?_ ?_<;>intro hc
 ·(
 have h43:¬ r.2=0:=jaf hc
 rw [hd,runGo,← hr,qf h43] at hI
 refine xP ?_
 unfold runV;rw [qe h27,← hI];rfl)
 ·(
 have h43:r.2=0:=jae hc
 iterate 13 refine zW ?_
 rw [hd,runGo,← hr,qe (fun h=>h h43)] at hI
 refine ⟨i+1,r.1,⟨by omega,hr ▸ juL hWc hsl.1 (hr ▸ h43),hI⟩,by omega,zWk⟩))
 ·(
 have hge:=qd hc
 rw [jac (by omega),runGo] at hI
 refine xN fun _=>?_
 refine xP ?_
 unfold runV;rw [qe h27,← hI,hml,show i=l.length by omega];rfl))
theorem jcy (w:Wld) (hW:WI w):C0 21 [wv w] (.sl 3 ((outcomes w).map otv)):=by
 refine xI Tryz.func21 Tryz.call21 fun hcap=>?_
 have hml:(w.nodes.map ptv).length=w.nodes.length:=by simp
 have hwl:=hW.len
 refine xX fun b1=>?_
 refine xA (jfm w hW) ?_
 refine xC ?_ ?_<;>intro hc
 ·(
 have h12:checkW w=false:=jau hc
 iterate 5 refine zW ?_
 refine jgO 71 3 rfl ?_
 refine zFz (.slice none 0 0) [2] ?_
 refine xP ?_
 unfold outcomes;rw [qf h12];rfl)
 ·(
 have h12:checkW w=true:=jat hc
 refine xN fun _=>?_
 iterate 4 refine zW ?_
 refine jaP [1,14,15] [.box b1 _ _] (fun (i:Nat) (v:Value) (q:List Otc) r=>(3,.v v)::(16,.i (i:Int))::r) (fun i v q r=>.arr v 71 3 (q.map otv)::r) (fun i v q=>(i≤w.nodes.length∧q.length≤20 * i)∧q++otcGo w (w.nodes.drop i) i=otcGo w w.nodes 0) (fun i v q=>w.nodes.length - i) (0) (.slice none 0 0) ([]) zRc ⟨⟨by omega,by simp⟩,by simp⟩ ((jaO 71 3 rfl).trans (zWk)) ?_
 intro i v q ⟨⟨hi,hql⟩,hI⟩
 refine xC ?_ ?_<;>intro hc
 ·(
 have hlt:=qc hc
 obtain ⟨y,hy,hd⟩:=jab (l:=w.nodes) (k:=i) (by omega)
 have hy':=jad ptv hy
 have hyP:=hW.nd i y hy
 refine xL fun b5=>?_
 refine xN fun _=>?_
 iterate 4 refine zW ?_
 have hsm:(y.slots.map slv).length=y.slots.length:=by simp
 have hsl20:=hyP.2.hl
 refine jaP [1,4,5,14,15,16,22,23] [.box b1 _ _,.box b5 _ _] (fun (j:Nat) (v2:Value) (q2:List Otc) r=>(3,.v v2)::(24,.i (j:Int))::r) (fun j v2 q2 r=>.arr v2 71 3 (q2.map otv)::r) (fun j v2 q2=>(j≤y.slots.length∧q2.length≤20 * i+j)∧q2++(y.slots.drop j).flatMap (otcS w i y)=q++y.slots.flatMap (otcS w i y)) (fun j v2 q2=>y.slots.length - j) (0) (v) (q) zRc ⟨⟨by omega,by omega⟩,rfl⟩ (zWk) ?_
 intro j v2 q2 ⟨⟨hj,hql2⟩,hI2⟩
 have hqm:(q2.map otv).length=q2.length:=by simp
 refine xC ?_ ?_<;>intro hc
 ·(
 have hlt2:=qc hc
 obtain ⟨s,hx,hd2⟩:=jab (l:=y.slots) (k:=j) (by omega)
 have hx':=jad slv hx
 refine xL fun b7=>?_
 refine xB (jhb y hyP.2 s.mach.slot) ?_;rintro _ _ ⟨rfl,rfl⟩;obtain ⟨r,hr⟩:∃ z9,z9=decidedP y s.mach.slot:=⟨_,rfl⟩;rw [← hr]
 iterate 11 refine zW ?_
 iterate 2 all_goals first | refine zW ?_ | refine xG ?_ ?_<;>intro hg
 all_goals first | (refine zY ?_;refine jaa zRc (jci w (i:Int) (by omega) hW.ill) rfl rfl ?_) | refine zSk ?_
 iterate 2 all_goals refine zW ?_
 all_goals (
 refine xC ?_ ?_<;>intro hc
 ·(
 first
 | (exact xQ hc)
 |(
 have h42:(r.2&&!sickV w i)=true:=by first | (simp_all;done) | grind
 have mk42t:True:=trivial
 iterate 8 refine zW ?_
 refine xLt 71 3 32 ?_
 refine xEa 71 3 32 (hb:=xLb) fun v51 hv51=>?_
 iterate 9 refine zW ?_
 rw [hd2,List.flatMap_cons,← List.append_assoc] at hI2
 rw [show otcS w i y s=[⟨(i:Int),s.mach.slot,r.1⟩] by unfold otcS;rw [← hr,qf h42]] at hI2;rw [show D.agg [.i (i:Int),.i s.mach.slot,.v (.string r.1)]=otv ⟨(i:Int),s.mach.slot,r.1⟩ from rfl,jsh];refine ⟨j+1,_,q2++[⟨(i:Int),s.mach.slot,r.1⟩],⟨⟨by omega,by simp;omega⟩,hI2⟩,by omega,zWk⟩))
 ·(
 first
 | (exact xQ hc)
 |(
 have h42:¬ (r.2&&!sickV w i)=true:=by first | (simp_all;done) | grind
 have mk42f:True:=trivial
 iterate 8 refine zW ?_
 rw [hd2,List.flatMap_cons,← List.append_assoc] at hI2
 first
 | (have:=mk42t;rw [show otcS w i y s=[⟨(i:Int),s.mach.slot,r.1⟩] by unfold otcS;rw [← hr,qf h42]] at hI2;rw [show D.agg [.i (i:Int),.i s.mach.slot,.v (.string r.1)]=otv ⟨(i:Int),s.mach.slot,r.1⟩ from rfl,jsh];refine ⟨j+1,_,q2++[⟨(i:Int),s.mach.slot,r.1⟩],⟨⟨by omega,by simp;omega⟩,hI2⟩,by omega,zWk⟩)
 | (have:=mk42f;rw [show otcS w i y s=[] by unfold otcS;rw [← hr,qe h42],List.append_nil] at hI2;refine ⟨j+1,v2,q2,⟨⟨by omega,by omega⟩,hI2⟩,by omega,zWk⟩)))))
 ·(
 have hge2:=qd hc
 rw [jac (by omega),List.flatMap_nil,List.append_nil] at hI2
 iterate 11 refine zW ?_
 rw [hd,otcGo,← List.append_assoc,← hI2] at hI
 refine ⟨i+1,v2,q2,⟨⟨by omega,by omega⟩,hI⟩,by omega,zWk⟩))
 ·(
 have hge:=qd hc
 rw [jac (by omega),otcGo,List.append_nil] at hI
 refine zFz v [3] ?_
 refine xP ?_
 unfold outcomes;rw [qe (by rw [h12];decide),← hI];rfl))
theorem jd2 {n:Nat}:∀ (c:List Mem),memsV n c=0→∀ m∈c,m.decl=true→validT m.t=0
 | [],_,m,hm,_=>qo hm qp
 | x::r,h,m,hm,hd=>by
  simp only [memsV] at h
  by_cases h0:memV x n=0
  ·rw [qf h0] at h
   rcases List.mem_cons.1 hm with rfl | hm
   ·unfold memV at h0
    rw [qf hd] at h0
    split at h0
    ·assumption
    ·assumption
   ·exact jd2 r h m hm hd
  ·rw [qe h0] at h
   exact qo h h0
theorem OKA.trusts (h:OKA c):∀ m∈c,validT m.t=0:=fun m hm=>by
 have h1:=h.ok
 unfold validC at h1
 rw [qe (by have:=h.l10;omega)] at h1
 exact jd2 c h1 m hm (h.decl m hm)
theorem OKA.cfg (h:OKA c) (h1:1≤c.length):CfgOk c:=⟨⟨h1,h.l10⟩,fun k m hm=>⟨h.decl m (qj hm),h.trusts m (qj hm)⟩,fun m hm=>by have:=h.size m hm;omega⟩
theorem jrx (hn:n≤4):nodesOf ((2^n - 1:Nat):Int)=upTo n:=by
 match n,hn with
 | 0,_=>decide
 | 1,_=>decide
 | 2,_=>decide
 | 3,_=>decide
 | 4,_=>decide
theorem jqK (s:Sp) (h:s.l=zLtr):SB s:=⟨by rw [h];exact ⟨jpA,jpw⟩⟩
theorem jmx {P:Program} {o:Oper} {env:Env} {H:Heap} {d d':D} (h:AP P n o env H d) (e:d=d'):AP P n o env H d':=e ▸ h
def hdB (a:Otc):List Otc→Bool
 | []=>true
 | x::_=>decide (a.slot<x.slot)
theorem jlU {s:Int} {b:Otc} {r:List Otc}:divIn s a (b::r) q=divIn s a r (if divB s a b=true∧hdB a q=true then [a,b] else q):=by
 cases q<;>rfl
theorem juJ {y:Otc} (h:0<q.length→q[0]?=some y) (hn:¬ q=[]):hdB a q=decide (a.slot<y.slot):=by
 cases q with
 | nil=>exact qo rfl hn
 | cons x r =>
  have:=h (by simp)
  simp only [List.getElem?_cons_zero,ql] at this
  subst this;rfl
theorem jyp (h:decide (((q.map otv).length:Int)=0)=true):q=[]:=List.eq_nil_of_length_eq_zero (by have:=qc h;simpa using this)
theorem lenN (h:decide (((q.map otv).length:Int)=0)=false):¬ q=[]:=by rintro rfl;exact qo h (by decide)
theorem jnx {P:Program} {o:Oper} {env:Env} {H:Heap} {d d':D} (h:AP P n o env H d) (e:d=d'):AP P n o env H d':=e ▸ h
theorem bitZ {k:Nat}:decide (((s / 2^k&&&1:Nat):Int)=0)=!s.testBit k:=by
 rw [Nat.testBit_eq_decide_div_mod_eq,Nat.and_one_is_mod]
 have:=Nat.mod_two_eq_zero_or_one (s / 2^k)
 rcases this with h | h<;>rw [h]<;>rfl
theorem jxt {k:Nat} (h:s<1024):s / 2^k<9223372036854775808:=Nat.lt_of_le_of_lt (Nat.div_le_self _ _) (by omega)
theorem jpO {i j:Nat} {b:Otc} (ha:a.node=(i:Int)) (hb:b.node=(j:Int)):divB (s:Int) a b=(((decide (a.slot=b.slot)&&!decide (a.val=b.val))&&s.testBit i)&&s.testBit j):=by
 unfold divB;rw [ha,hb];rfl
theorem jim (w:Wld) (hW:WI w) (s:Nat) (hs:s<1024):C0 64 [wv w,.i (s:Int)] (.sl 3 ((divV w (s:Int)).map otv)):=by
 have hcap:=jbu
 obtain ⟨l,hl⟩:∃ l,l=outcomes w:=⟨_,rfl⟩
 have hml:(l.map otv).length=l.length:=by simp
 have hln:∀ o∈l,0≤o.node∧o.node≤9:=fun o ho=>jir hW o (hl ▸ ho)
 refine jar Tryz.func64 rfl Tryz.call64 rfl ?_
 refine xX fun b2=>?_
 refine xA ((jcy w hW).is (by rw [← hl])) ?_
 iterate 10 refine zW ?_
 refine jal [1,2,5,6] 3 rfl jdy jcK ?_
 iterate 2 refine zW ?_
 first | refine zLn fun _=>?_ | refine zW ?_
 iterate 4 refine zW ?_
 refine jag [1,5,13,14] [.box b2 _ _] (fun (i:Nat) (q:List Otc) r=>(6,.sl 3 (q.map otv))::(15,.i (i:Int))::r) (fun i q r=>r) (fun i q=>i≤l.length∧divGo (s:Int) (l.drop i) q=divGo (s:Int) l []) (fun i q=>l.length - i) (0) ([]) zRc ⟨by omega,rfl⟩ (zWk) ?_
 intro i q ⟨hi,hI⟩
 refine xC ?_ ?_<;>intro hc
 ·(
 have hlt:=qc hc
 obtain ⟨a,hx,hd⟩:=jab (l:=l) (k:=i) (by omega)
 have hx':=jad otv hx
 refine xL fun b8=>?_
 iterate 9 refine zW ?_
 refine zP (jd0 (k:=i+1) rfl rfl rfl rfl (by omega) (by omega)) ?_
 first | refine zLn fun _=>?_ | refine zW ?_
 iterate 4 refine zW ?_
 obtain ⟨na,ha9,ha10⟩:=jg6 (hln a (qj hx))
 have hmd:(List.drop (i+1) (l.map otv)).length=(l.drop (i+1)).length:=by simp
 refine jag [1,5,8,13,14,15,23,24] [.box b8 _ _,.box b2 _ _] (fun (j:Nat) (q2:List Otc) r=>(6,.sl 3 (q2.map otv))::(25,.i (j:Int))::r) (fun j q2 r=>r) (fun j q2=>j≤(l.drop (i+1)).length∧divIn (s:Int) a ((l.drop (i+1)).drop j) q2=divIn (s:Int) a (l.drop (i+1)) q) (fun j q2=>(l.drop (i+1)).length - j) (0) (q) zRc ⟨by omega,rfl⟩ (zWk) ?_
 intro j q2 ⟨hj,hI2⟩
 refine xC ?_ ?_<;>intro hc
 ·(
 have hlt2:=qc hc
 obtain ⟨b,hxb,hd2⟩:=jab (l:=l.drop (i+1)) (k:=j) (by omega)
 have hxb':(List.drop (i+1) (l.map otv))[j]?=some (otv b):=by rw [← List.map_drop];exact jad otv hxb
 have hq1:=jxt (k:=na) hs
 obtain ⟨nb,hb9,hb10⟩:=jg6 (hln b (List.mem_of_mem_drop (qj hxb)))
 have hq2:=jxt (k:=nb) hs
 refine xL fun b10=>?_
 iterate 12 refine zW ?_
 iterate 10 all_goals first | refine zW ?_ | refine xG ?_ ?_<;>intro hg
 all_goals first | (refine zY ?_;refine zP (jnx (jd3 rfl rfl rfl (by omega)) (congrArg (fun z=>D.v (.int .u64 z)) ha9)) ?_) | refine zSk ?_ | (refine zG (fun hg=>?_) fun hg=>?_;case' _=>refine zP (jnx (jd3 rfl rfl rfl (by omega)) (congrArg (fun z=>D.v (.int .u64 z)) ha9)) ?_)
 all_goals first | (refine zY ?_;refine zP (jff rfl rfl (by omega)) ?_) | refine zSk ?_ | (refine zG (fun hg=>?_) fun hg=>?_;case' _=>refine zP (jff rfl rfl (by omega)) ?_)
 all_goals first | (refine zY ?_;refine zP (jcH (q:=1) rfl rfl rfl (by omega) (by omega)) ?_) | refine zSk ?_ | (refine zG (fun hg=>?_) fun hg=>?_;case' _=>refine zP (jcH (q:=1) rfl rfl rfl (by omega) (by omega)) ?_)
 iterate 6 all_goals first | refine zW ?_ | refine xG ?_ ?_<;>intro hg
 all_goals first | (refine zY ?_;refine zP (jnx (jd3 rfl rfl rfl (by omega)) (congrArg (fun z=>D.v (.int .u64 z)) hb9)) ?_) | refine zSk ?_ | (refine zG (fun hg=>?_) fun hg=>?_;case' _=>refine zP (jnx (jd3 rfl rfl rfl (by omega)) (congrArg (fun z=>D.v (.int .u64 z)) hb9)) ?_)
 all_goals first | (refine zY ?_;refine zP (jff rfl rfl (by omega)) ?_) | refine zSk ?_ | (refine zG (fun hg=>?_) fun hg=>?_;case' _=>refine zP (jff rfl rfl (by omega)) ?_)
 all_goals first | (refine zY ?_;refine zP (jcH (q:=1) rfl rfl rfl (by omega) (by omega)) ?_) | refine zSk ?_ | (refine zG (fun hg=>?_) fun hg=>?_;case' _=>refine zP (jcH (q:=1) rfl rfl rfl (by omega) (by omega)) ?_)
 iterate 2 all_goals first | refine zW ?_ | refine xG ?_ ?_<;>intro hg
 all_goals (
 refine xC ?_ ?_<;>intro hc
 ·(
 first
 | (exact xQ hc)
 |(
 have h58:divB (s:Int) a b=false:=by rw [jpO ha9 hb9];first | (simp_all [bitZ];done) | grind
 have mk58t:True:=trivial
 iterate 9 refine zW ?_
 rw [hd2,jlU] at hI2
 first
 | (have:=mk58t;rw [qe (fun h=>by rw [h58] at h;exact qo h.1 (by decide))] at hI2;exact ⟨j+1,q2,⟨by omega,hI2⟩,by omega,zWk⟩)
 | (have:=mk70t;rw [qf ⟨h58,h70⟩] at hI2;exact ⟨j+1,[a,b],⟨by omega,hI2⟩,by omega,zWk⟩)
 | (have:=mk70f;rw [qe (fun h=>h70 h.2)] at hI2;exact ⟨j+1,q2,⟨by omega,hI2⟩,by omega,zWk⟩)))
 ·(
 first
 | (exact xQ hc)
 |(
 have h58:divB (s:Int) a b=true:=by rw [jpO ha9 hb9];first | (simp_all [bitZ];done) | grind
 have mk58f:True:=trivial
 iterate 3 refine zW ?_
 obtain ⟨y,hy⟩:=jgt q2 0 a
 have hqm:(q2.map otv).length=q2.length:=by simp
 refine zDr [] ?_
 refine zT 0 ?_;refine zT 1 ?_;refine zT 2 ?_;refine zT 3 ?_
 refine jai 3 rfl (fun hg=>?_) fun hg=>?_
 rotate_left
 case' _ =>(
 first
 | (exact xQ hg)
 | (exfalso;simp at hg;done)
 |(
 refine zT 4 ?_
 refine zT 5 ?_;refine zT 6 ?_
 refine jan 7 rfl zGd zKr zKr zKr (AP.ar (jam (k:=0) rfl rfl rfl rfl (by decide) rfl (jad otv (hy (by have h9:decide (((q2.map otv).length:Int)=0)=false:=(by first | with_reducible assumption | exact hg);have:=qd h9;omega))))) rfl rfl ?_
 refine zT 8 ?_;refine zT 9 ?_;refine zT 10 ?_;refine zT 11 ?_
 refine zW ?_))
 rotate_right
 case' _ =>(
 first
 | (exact xQ hg)
 | (exfalso;simp at hg;done)
 |(
 refine zK 4 ?_
 refine zK 5 ?_;refine zK 6 ?_;refine zK 7 ?_;refine zK 8 ?_;refine zK 9 ?_;refine zK 10 ?_;refine zT 11 ?_
 refine zW ?_))
 all_goals (
 refine xC ?_ ?_<;>intro hc
 ·(
 first
 | (exact xQ hc)
 |(
 have h70:hdB a q2=true:=by first | (have h9:=jyp (q:=q2) (by first | with_reducible assumption | exact hg);rw [h9];rfl) | (rw [juJ hy (lenN (by first | with_reducible assumption | exact hg))];exact hc)
 have mk70t:True:=trivial
 iterate 3 refine zW ?_
 refine xLt 71 3 32 ?_
 iterate 9 refine zW ?_
 rw [hd2,jlU] at hI2
 first
 | (have:=mk58t;rw [qe (fun h=>by rw [h58] at h;exact qo h.1 (by decide))] at hI2;exact ⟨j+1,q2,⟨by omega,hI2⟩,by omega,zWk⟩)
 | (have:=mk70t;rw [qf ⟨h58,h70⟩] at hI2;exact ⟨j+1,[a,b],⟨by omega,hI2⟩,by omega,zWk⟩)
 | (have:=mk70f;rw [qe (fun h=>h70 h.2)] at hI2;exact ⟨j+1,q2,⟨by omega,hI2⟩,by omega,zWk⟩)))
 ·(
 first
 | (exact xQ hc)
 |(
 have h70:¬ hdB a q2=true:=by first | (rw [juJ hy (lenN (by first | with_reducible assumption | exact hg))];exact fun h=>qo (h.symm.trans hc) (by decide)) | exact xQ hc
 have mk70f:True:=trivial
 iterate 8 refine zW ?_
 rw [hd2,jlU] at hI2
 first
 | (have:=mk58t;rw [qe (fun h=>by rw [h58] at h;exact qo h.1 (by decide))] at hI2;exact ⟨j+1,q2,⟨by omega,hI2⟩,by omega,zWk⟩)
 | (have:=mk70t;rw [qf ⟨h58,h70⟩] at hI2;exact ⟨j+1,[a,b],⟨by omega,hI2⟩,by omega,zWk⟩)
 | (have:=mk70f;rw [qe (fun h=>h70 h.2)] at hI2;exact ⟨j+1,q2,⟨by omega,hI2⟩,by omega,zWk⟩))))))))
 ·(
 have hge2:=qd hc
 rw [jac (l:=l.drop (i+1)) (k:=j) (by omega)] at hI2
 have hI2:q2=divIn (s:Int) a (l.drop (i+1)) q:=hI2
 iterate 11 refine zW ?_
 rw [hd,divGo,← hI2] at hI
 exact ⟨i+1,q2,⟨by omega,hI⟩,by omega,zWk⟩))
 ·(
 have hge:=qd hc
 rw [jac (by omega),divGo] at hI
 refine xP ?_
 unfold divV;rw [← hl,← hI];rfl)
theorem jij (w:Wld) (hW:WI w):C0 16 [wv w] (.sl 3 ((divV w 1023).map otv)):=by
 refine xI Tryz.func16 Tryz.call16 fun hcap=>?_
 refine xX fun b1=>?_
 refine xA (jim w hW 1023 (by omega)) ?_
 refine xP ?_
 rfl
theorem jyx {s0 s1 s2 s3:Str} (h:(1≤s0.size∧s0.size≤200)∧(1≤s1.size∧s1.size≤200)∧(1≤s2.size∧s2.size≤200)∧(1≤s3.size∧s3.size≤200)) {j:Nat} (hj:j<4):∃ v:Str,([.v (.string s0),.v (.string s1),.v (.string s2),.v (.string s3)]:List D)[j]?=some (.v (.string v))∧1≤v.size∧v.size≤200:=by
 match j,hj with
 | 0,_=>exact ⟨s0,rfl,h.1⟩
 | 1,_=>exact ⟨s1,rfl,h.2.1⟩
 | 2,_=>exact ⟨s2,rfl,h.2.2.1⟩
 | 3,_=>exact ⟨s3,rfl,h.2.2.2⟩
theorem jqb (b:Nat) (l:List Int) (a:Nat) (s0 s1 s2 s3:Str) (h:(1≤s0.size∧s0.size≤200)∧(1≤s1.size∧s1.size≤200)∧(1≤s2.size∧s2.size≤200)∧(1≤s3.size∧s3.size≤200)):Con none Tryz.prog 50 [.p b 0,.sl 1 [.v (.string s0),.v (.string s1),.v (.string s2),.v (.string s3)]] [.box b 97 [.sl 1 (l.map .i),.i ((a:Nat):Int)]] (fun d H=>∃ (v:Str) (a':Nat),d=.v (.string v)∧(1≤v.size∧v.size≤200)∧H=[.box b 97 [.sl 1 (l.map .i),.i ((a':Nat):Int)]]):=by
 refine xI Tryz.func50 Tryz.call50 fun hcap=>?_
 iterate 10 refine zW ?_
 first | refine zLn fun _=>?_ | refine zW ?_
 refine jaq zRc (jd6 _ _ _ 4 (by omega)) jaA rfl rfl ?_;rintro _ _ ⟨r9,a9,rfl,hr9,rfl⟩
 obtain ⟨j,rfl⟩:=qz hr9.1;obtain ⟨v,hx',hv⟩:=jyx h (j:=j) (by omega);refine zP (jam (k:=j) rfl rfl rfl rfl (by decide) rfl hx') ?_
 iterate 5 refine zW ?_
 refine jaQ (.tmp rfl .nil) jb8 ⟨_,_,rfl,hv,rfl⟩
theorem joi (b:Nat) (l:List Int) (a:Nat):Con none Tryz.prog 22 [.p b 0] [.box b 97 [.sl 1 (l.map .i),.i ((a:Nat):Int)]] (fun d H=>∃ (v:Str) (a':Nat),d=.v (.string v)∧(1≤v.size∧v.size≤200)∧H=[.box b 97 [.sl 1 (l.map .i),.i ((a':Nat):Int)]]):=by
 refine xI Tryz.func22 Tryz.call22 fun hcap=>?_
 iterate 8 refine zW ?_
 refine xLt 9 1 16 ?_
 refine jaq zRc (jqb _ _ _ _ _ _ _ (by decide)) jaA rfl rfl ?_;rintro _ _ ⟨v,a5,rfl,hv,rfl⟩
 iterate 4 refine zW ?_
 refine jaQ (.tmp rfl .nil) jb8 ⟨_,_,rfl,hv,rfl⟩
theorem jsU (w:Wld) (hW:WI w) (h:divV w 1023=[]):C0 16 [wv w] (.sl 3 []):=by
 have:=jij w hW
 rwa [h] at this
theorem jrJ (hok:OKA c) (v:Str):plainL c v=((List.range c.length).map fun i:Nat=>prefS i v)++[tickS]:=by
 unfold plainL prefL
 rw [qf hok.ok,jrx hok.len,upTo,List.map_map];rfl
def stepsP (c:List Mem) (v:Str):List Sp:=((List.range c.length).map fun i:Nat=>prefSp v i)++[tickSp]
theorem jrd (hok:OKA c) (v:Str):(plainL c v).map stv=(stepsP c v).map spv:=by
 rw [jrJ hok,stepsP,List.map_append,List.map_append,List.map_map,List.map_map];rfl
theorem jj6:∀ x∈stepsP c v,SB x∧¬ x.kind=3:=by
 intro x hx
 rcases List.mem_append.1 hx with hx | hx
 ·(
 obtain ⟨i,_,rfl⟩:=List.mem_map.1 hx
 exact ⟨jqK _ rfl,by show ¬ (8:Int)=3;omega⟩)
 ·(
 rw [List.mem_singleton.1 hx]
 exact ⟨jqK _ rfl,by show ¬ (2:Int)=3;omega⟩)
theorem jlM (hok:OKA c) (h1:1≤c.length) (hv:1≤v.size∧v.size≤200):∃ w,runV (startW c 0) (stepsP c v)=(w,c.length+1,0)∧(∀ o∈outcomes w,o.slot=1∧o.val=v)∧(great c (co c 0)=0↔outcomes w=[])∧divV w 1023=[]∧WI w:=by
 have hp:=juu hok.len
 have hc:=hok.cfg h1
 obtain ⟨w,h2,h3,h4⟩:=jq9 (v:=v) hc hv
 have h5:=jv8 (l:=stepsP c v) (jf2 (c:=c) hok.l10 (fun m hm=>by have:=hok.size m hm;omega) (ill:=0) ⟨by omega,Int.natCast_pos.2 (by omega)⟩) (fun x hx=>(jj6 x hx).1)
 rw [show runV (startW c 0) (stepsP c v)=(w,c.length+1,0) from h2] at h5
 exact ⟨w,h2,h3,h4,jtJ (fun a ha b hb _=>(h3 a ha).2.trans (h3 b hb).2.symm),h5⟩
theorem jio {w:Wld} (hok:OKA c) (h1:1≤c.length) (h:runV (startW c 0) (stepsP c v)=(w,c.length+1,0)):C0 19 [cv c,.i 0,.sl 34 ((plainL c v).map stv)] (.tup [wv w,.i ((c.length+1:Nat):Int),.i 0]):=by
 have hp:=juu hok.len
 rw [jrd hok]
 have:=jsJ c ⟨h1,hok.l10⟩ (fun m hm=>by have:=hok.size m hm;omega) hok.ok hok.decl 0 ⟨by omega,Int.natCast_pos.2 (by omega)⟩ (stepsP c v) jj6
 rwa [h] at this
theorem jxi (hl:c.length≤10):((co c 0:Nat):Int)=((1 * 2^c.length:Nat):Int) - 1:=by
 have hp:=Nat.two_pow_pos c.length
 have e:co c 0=2^c.length - 1:=by
  apply Nat.eq_of_testBit_eq
  intro i
  rw [jlu hl (by omega),Nat.zero_testBit,Nat.testBit_two_pow_sub_one]
  simp
 rw [e];omega
theorem jsk {l:List Otc} {w:Wld} (hl:c.length≤10) (hl9:l=outcomes w) (h:great c (co c 0)=0↔outcomes w=[]):(decide (((great c (((1 * 2^c.length:Nat):Int) - 1):Nat):Int)=0) == decide (((l.map otv).length:Int)=0))=true:=by
 rw [← jxi hl,beq_iff_eq,decide_eq_decide,qu]
 constructor
 ·(
 intro h1
 have:=h.1 (by omega)
 rw [hl9,this];rfl)
 ·(
 intro h1
 have:=h.2 (by rw [← hl9];exact List.eq_nil_of_length_eq_zero (by omega))
 omega)
theorem jor {Ps:Value→World→Prop} (l:List Int):Con (some Ps) Tryz.prog 5 [.sl 1 (l.map .i)] [] (Is (.b true) []):=by
 refine xI Tryz.func5 Tryz.call5 fun hcap=>?_
 refine xB ((jth _).main) ?_;rintro _ _ ⟨b13,rfl,rfl⟩
 iterate 6 refine zW ?_
 refine jaq zRc ((jh4 _ _ _ 1 4 (by omega)).main) jaA rfl rfl ?_;rintro _ _ ⟨r15,a15,rfl,hr15,rfl⟩;obtain ⟨n,rfl⟩:=qz (show 0≤r15 by omega);have hn:1≤n∧n≤4:=(by omega)
 refine xB ((jlt _ n _ hn _).main) ?_;rintro _ _ ⟨c,a18,rfl,⟨hok,hcl⟩,rfl⟩;subst hcl;have hp:=juu hok.len
 refine zAl fun b5=>?_
 refine xB ((joi _ _ _).main) ?_;rintro _ _ ⟨v,a20,rfl,hv,rfl⟩;obtain ⟨w9,hr9,ho9,hg9,hd9,hw9⟩:=jlM hok hn.1 hv;obtain ⟨l9,hl9⟩:∃ z9,z9=outcomes w9:=⟨_,rfl⟩;have hlm:(l9.map otv).length=l9.length:=(by simp)
 iterate 4 refine zW ?_
 refine zDr [] ?_
 refine zT 0 ?_;refine zT 1 ?_;refine zT 2 ?_
 refine zE2 3 9 ?_ ?_
 rotate_left
 case' _ =>(
 refine zAl fun b7=>?_
 refine zW ?_
 refine zOn 3 ?_
 refine xA ((jk2 c hok.lt v).main) ?_
 refine zW ?_
 refine zOn 4 ?_
 refine xA ((jio hok hn.1 hr9).main) ?_
 refine zW ?_
 refine zT 5 ?_;refine zT 6 ?_;refine zT 7 ?_;refine zT 8 ?_;refine zOn 10 ?_
 iterate 2 refine zW ?_
 refine zT 11 ?_;refine zT 12 ?_
 refine zW ?_)
 rotate_right
 case' _ =>(
 refine xA ((jk2 c hok.lt v).main) ?_
 refine zW ?_
 refine zE2 4 9 ?_ ?_
 rotate_left
 case' _ =>(
 refine zAl fun b7=>?_
 refine zW ?_
 refine zOn 4 ?_
 refine xA ((jio hok hn.1 hr9).main) ?_
 refine zW ?_
 refine zT 5 ?_;refine zT 6 ?_;refine zT 7 ?_;refine zT 8 ?_;refine zOn 10 ?_
 iterate 2 refine zW ?_
 refine zT 11 ?_;refine zT 12 ?_
 refine zW ?_)
 rotate_right
 case' _ =>(
 refine xA ((jio hok hn.1 hr9).main) ?_
 refine zW ?_
 refine zT 5 ?_;refine zT 6 ?_;refine zT 7 ?_;refine zT 8 ?_;refine zOn 9 ?_
 refine zAl fun b7=>?_
 refine zW ?_
 refine zOn 10 ?_
 iterate 2 refine zW ?_
 refine zT 11 ?_;refine zT 12 ?_
 refine zW ?_))
 all_goals (
 iterate 7 refine zW ?_
 iterate 3 all_goals refine zW ?_
 all_goals (refine zY ?_;refine zP (jmx (jrh rfl rfl rfl) (d':=.b false) (congrArg D.b (by simp))) ?_)
 iterate 3 all_goals refine zW ?_
 all_goals (refine zY ?_;refine jaa zRc ((jsU w9 hw9 hd9).main) rfl rfl ?_)
 all_goals (refine zY ?_;(first | refine zLn fun _=>?_ | refine zW ?_))
 iterate 2 all_goals refine zW ?_
 all_goals (
 iterate 2 refine zW ?_
 refine jaE rfl jg9 ?_
 refine xA (((jcy w9 hw9).is (by rw [← hl9])).main) ?_
 refine zLn fun _=>?_
 iterate 4 refine zW ?_
 refine jaj [4,5,6,7,45,46] [.box b7 _ _,.box b5 _ _] (fun (i:Nat) r=>(47,.i (i:Int))::r) (fun i r=>r) (fun i=>i≤l9.length) (fun i=>l9.length - i) (0) zRc (by omega) (zWk) ?_
 intro i hi9
 refine xC ?_ ?_<;>intro hc
 ·(
 have hlt:=qc hc
 obtain ⟨x,hx,hd⟩:=jab (l:=l9) (k:=i) (by omega)
 have hxo:=ho9 x (by rw [← hl9];exact qj hx)
 obtain ⟨nd,rfl⟩:∃ nd,x=⟨nd,1,v⟩:=⟨x.node,by cases x;simp only at hxo;rw [hxo.1,hxo.2]⟩
 have hx':=jad otv hx
 refine xL fun b11=>?_
 iterate 8 refine zW ?_
 refine zP (jmx (jp8 rfl rfl rfl) (d':=.b false) (congrArg D.b (by simp))) ?_
 refine zW ?_
 iterate 2 all_goals refine zW ?_
 all_goals (refine zY ?_;refine zP (jmx (jrh rfl rfl rfl) (d':=.b false) (congrArg D.b (by simp))) ?_)
 all_goals refine zW ?_
 all_goals (
 iterate 2 refine zW ?_
 refine jaE rfl jg9 ?_
 iterate 8 refine zW ?_
 exact ⟨i+1,by omega,by omega,zWk⟩))
 ·(
 have hge:=qd hc
 iterate 6 refine zW ?_
 refine zDr [] ?_
 refine zT 0 ?_;refine zT 1 ?_
 refine jan 2 rfl zGd zKr zKr zKr (AP.ar (jd3 rfl rfl rfl (by omega))) rfl rfl ?_
 refine jan 3 rfl zGd zKr zKr zKr (AP.ar (jbg (p:=1) rfl rfl rfl (by omega) (by omega))) rfl rfl ?_
 refine zT 4 ?_;refine zT 7 ?_;refine zOn 5 ?_
 refine xA ((jdi c _).main) ?_
 refine zW ?_
 refine zT 6 ?_;refine zOn 8 ?_
 refine xA (((jcy w9 hw9).is (by rw [← hl9])).main) ?_
 refine zW ?_
 refine zT 9 ?_;refine zT 10 ?_
 refine jan 11 rfl zGd zKr zKr zKr (AP.ar (jmx (jus rfl rfl rfl) (d':=.b true) (congrArg D.b (jsk hok.l10 hl9 hg9)))) rfl rfl ?_
 refine zT 12 ?_
 refine jai 12 rfl (fun hg=>?_) fun hg=>?_
 rotate_left
 case' _ =>(
 exact xQ hg)
 rotate_right
 case' _ =>(
 first
 | (exact xQ hg)
 | (exfalso;simp at hg;done)
 |(
 refine zOn 13 ?_
 refine xA (jpn) ?_
 refine zW ?_
 refine zT 14 ?_;refine zT 15 ?_
 refine zW ?_))
 all_goals (
 refine xP ?_;exact rfl))))
end Go.Proofs.YtgmpjpaekpefdaaGreat
