/- What the functions of the thresholds compute, in plain Lean, and the laws of that. No condition beyond what each theorem says. -/
import Derived.Test.YtgmpjpaekpefdaaGreatTqP
namespace Go.Tq
open Go Go.Av
set_option linter.unusedVariables false
set_option linter.unusedSimpArgs false
variable {m d:Mach} {b a x:Bal} {now:Int} {e:Evp} {l:List Evp} {s:Slt} {t q A k:Nat} {n:Ntw} {v:Str} {p:Ptc} {V:List Mem}
theorem jet {e x:Evp}:∀ {l:List Evp},x∈insE e l→x=e∨x∈l
 | [],h=>.inl (by simpa [insE] using h)
 | y::r,h=>by
  unfold insE at h
  split at h
  ·rcases List.mem_cons.1 h with h | h
   ·exact .inl h
   ·exact .inr h
  ·rcases List.mem_cons.1 h with h | h
   ·exact .inr (by rw [h];exact List.mem_cons_self ..)
   ·rcases jet h with h | h
    ·exact .inl h
    ·exact .inr (qi _ h)
theorem jeq {x:Evp} (h:x∈allM m):x=sayR m∨x∈m.heard:=by
 unfold allM at h
 split at h
 ·exact .inr h
 ·exact jet h
section
variable {c:List Mem} {ill i:Nat} {F G:Nat→Int→Str→Prop}
end
theorem jb5 (h:1≤b.n):zB b=false:=by
 unfold zB
 rw [qx (p:=b.n=0) (by omega)];rfl
section
variable {c:List Mem} {ill i:Nat} {F:Nat→Int→Str→Prop}
end
section
variable {c:List Mem} {ill i:Nat} {F:Nat→Int→Str→Prop}
end
section
variable {c:List Mem} {ill i:Nat} {F:Nat→Int→Str→Prop}
end
section
variable {c:List Mem} {ill i:Nat} {F:Nat→Int→Str→Prop}
end
section
variable {c:List Mem} {ill:Nat}
end
theorem jjM {w:Wld}:∀ (l:List Ptc) (i:Nat) (o:Otc),o∈otcGo w l i→∃ (j:Nat) (p:Ptc),l[j]?=some p∧o.node=((i+j:Nat):Int)∧sickV w ((i+j:Nat):Int)=false∧(decidedP p o.slot).2=true∧o.val=(decidedP p o.slot).1
 | [],i,o,h=>qo h qp
 | p::r,i,o,h=>by
  unfold otcGo at h
  rcases List.mem_append.1 h with h | h
  ·obtain ⟨s,hs,h1⟩:=List.mem_flatMap.1 h
   unfold otcS at h1
   split at h1
   ·rename_i h2
    rw [qh,Bool.not_eq_true'] at h2
    obtain rfl:=List.mem_singleton.1 h1
    exact ⟨0,p,rfl,rfl,h2.2,h2.1,rfl⟩
   ·cases h1
  ·obtain ⟨j,q,h1,h2⟩:=jjM r (i+1) o h
   rw [show i+1+j=i+(j+1) by omega] at h2
   exact ⟨j+1,q,h1,h2⟩
theorem jkd {set:Int} {a:Otc}:∀ (l:List Otc),(∀ b∈l,divB set a b=false)→divIn set a l []=[]
 | [],_=>rfl
 | b::r,h=>by
  unfold divIn
  rw [qe (fun h'=>by rw [h b (List.mem_cons_self ..)] at h';exact qo h'.1 (by decide))]
  exact jkd r fun x hx=>h x (qi _ hx)
theorem jkN {set:Int}:∀ (l:List Otc),(∀ a∈l,∀ b∈l,divB set a b=false)→divGo set l []=[]
 | [],_=>rfl
 | a::r,h=>by
  unfold divGo
  rw [jkd r fun b hb=>h a (List.mem_cons_self ..) b (qi _ hb)]
  exact jkN r fun x hx y hy=>h x (qi _ hx) y (qi _ hy)
theorem jtJ {w:Wld} {set:Int} (h:∀ a∈outcomes w,∀ b∈outcomes w,a.slot=b.slot→a.val=b.val):divV w set=[]:=by
 unfold divV
 refine jkN _ fun a ha b hb=>?_
 unfold divB
 by_cases e:a.slot=b.slot
 ·rw [h a ha b hb e];simp
 ·rw [qx e];simp
theorem jmX {α:Type} {lt eq:α→Bool} {x:α}:insG lt eq x []=[x]:=rfl
theorem jkF {α:Type} {lt eq:α→Bool} {x y:α} {r:List α}:insG lt eq x (y::r)=if lt y=true then y::insG lt eq x r else if eq y=true then y::r else x::y::r:=by
 unfold insG
 by_cases h:lt y=true
 ·rw [qf h]
  have e:posG lt (y::r)=posG lt r+1:=by rw [posG,qf h]
  rw [e,List.getElem?_cons_succ]
  simp only [List.take_succ_cons,List.drop_succ_cons]
  cases hx:r[posG lt r]? with
  | none=>simp
  | some z=>by_cases hz:eq z=true<;>simp [hz]
 ·rw [qe h]
  have e:posG lt (y::r)=0:=by rw [posG,qe h]
  rw [e]
  simp
theorem jfz {α:Type} {lt eq:α→Bool} {x:α} (he:∀ y,eq y=true→y=x) {y:α}:∀ {l:List α},y∈insG lt eq x l↔y=x∨y∈l
 | []=>by rw [jmX];simp
 | z::r=>by
  rw [jkF]
  split
  ·rw [List.mem_cons,jfz he,List.mem_cons]
   constructor
   ·rintro (h | h | h)
    ·exact .inr (.inl h)
    ·exact .inl h
    ·exact .inr (.inr h)
   ·rintro (h | h | h)
    ·exact .inr (.inl h)
    ·exact .inl h
    ·exact .inr (.inr h)
  ·split
   ·rename_i h
    have:=he z h
    subst this
    rw [List.mem_cons]
    constructor
    ·rintro (h | h)
     ·exact .inl h
     ·exact .inr (.inr h)
    ·rintro (h | h | h)
     ·exact .inl h
     ·exact .inl h
     ·exact .inr h
   ·rw [List.mem_cons]
theorem jgq {q:List Int} {n x:Int}:x∈intoI q n↔x=n∨x∈q:=jfz (fun y h=>qc h)
theorem jrD {q:List Str} {n x:Str}:x∈intoS q n↔x=n∨x∈q:=jfz (fun y h=>qc h)
theorem ji8 (h:beqB a b=true):a=b:=by
 simp only [beqB,qh,qm] at h
 exact jeH h.1 h.2
theorem jqI {q:List Bal}:x∈intoV q b↔(x=b∧zB b=false)∨x∈q:=by
 unfold intoV
 split
 ·rename_i h;simp [h]
 ·rename_i h
  rw [jfz (fun y h=>ji8 h)]
  simp [h]
theorem jj3 {x:Bal}:∀ (ys:List Bal) (q:List Bal),x∈ys.foldl intoV q↔(x∈ys∧zB x=false)∨x∈q
 | [],q=>by simp
 | y::r,q=>by
  rw [List.foldl_cons,jj3 r,jqI,List.mem_cons]
  constructor
  ·rintro (⟨h,h2⟩ | ⟨h,h2⟩ | h)
   ·exact .inl ⟨.inr h,h2⟩
   ·exact .inl ⟨.inl h,by rw [h];exact h2⟩
   ·exact .inr h
  ·rintro (⟨h | h,h2⟩ | h)
   ·exact .inr (.inl ⟨h,by rw [← h];exact h2⟩)
   ·exact .inl ⟨h,h2⟩
   ·exact .inr (.inr h)
theorem jd8 {x:Bal}:∀ (l:List Evp) (q:List Bal),x∈ballotsGo l q↔(∃ e∈l,vE e=true∧x∈ownB e∧zB x=false)∨x∈q
 | [],q=>by simp [ballotsGo]
 | e::r,q=>by
  rw [ballotsGo,jd8 r]
  simp only [List.mem_cons,exists_eq_or_imp]
  split
  ·rename_i hv
   rw [jj3]
   constructor
   ·rintro (h | h | h)
    ·exact .inl (.inr h)
    ·exact .inl (.inl ⟨hv,h⟩)
    ·exact .inr h
   ·rintro ((h | h) | h)
    ·exact .inr (.inl h.2)
    ·exact .inl h
    ·exact .inr (.inr h)
  ·rename_i hv
   simp [hv]
theorem jgS:x∈ballotsV l↔∃ e∈l,vE e=true∧x∈ownB e∧zB x=false:=by
 unfold ballotsV;rw [jd8];simp
theorem jfn {v:Str} {x:Int}:∀ (l:List Evp) (q:List Int),x∈boundsGo v l q↔(∃ e∈l,vE e=true∧e.bal.v=v∧¬ e.low=0∧(x=e.low∨x=e.high))∨x∈q
 | [],q=>by simp [boundsGo]
 | e::r,q=>by
  rw [boundsGo,jfn r]
  simp only [List.mem_cons,exists_eq_or_imp]
  split
  ·rename_i hv
   simp only [qh,qm,Bool.not_eq_true',decide_eq_false_iff_not] at hv
   rw [jgq,jgq]
   constructor
   ·rintro (h | h | h | h)
    ·exact .inl (.inr h)
    ·exact .inl (.inl ⟨hv.1,hv.2.1,hv.2.2,.inr h⟩)
    ·exact .inl (.inl ⟨hv.1,hv.2.1,hv.2.2,.inl h⟩)
    ·exact .inr h
   ·rintro ((⟨_,_,_,h | h⟩ | h) | h)
    ·exact .inr (.inr (.inl h))
    ·exact .inr (.inl h)
    ·exact .inl h
    ·exact .inr (.inr (.inr h))
  ·rename_i hv
   simp only [qh,qm,Bool.not_eq_true',decide_eq_false_iff_not,not_and] at hv
   constructor
   ·rintro (h | h)
    ·exact .inl (.inr h)
    ·exact .inr h
   ·rintro ((⟨h1,h2,h3,_⟩ | h) | h)
    ·exact qo h3 (hv h1 h2)
    ·exact .inl h
    ·exact .inr h
theorem jeL {x:Int}:x∈boundsV l v↔∃ e∈l,vE e=true∧e.bal.v=v∧¬ e.low=0∧(x=e.low∨x=e.high):=by
 unfold boundsV;rw [jfn];simp
theorem jfl {x:Str}:∀ (l:List Evp) (q:List Str),x∈valuesGo l q↔(∃ e∈l,vE e=true∧x=e.bal.v)∨x∈q
 | [],q=>by simp [valuesGo]
 | e::r,q=>by
  rw [valuesGo,jfl r]
  simp only [List.mem_cons,exists_eq_or_imp]
  split
  ·rename_i hv
   rw [jrD]
   constructor
   ·rintro (h | h | h)
    ·exact .inl (.inr h)
    ·exact .inl (.inl ⟨hv,h⟩)
    ·exact .inr h
   ·rintro ((h | h) | h)
    ·exact .inr (.inl h.2)
    ·exact .inl h
    ·exact .inr (.inr h)
  ·rename_i hv
   simp [hv]
theorem jia {x:Str}:x∈valuesV l↔∃ e∈l,vE e=true∧x=e.bal.v:=by
 unfold valuesV;rw [jfl];simp
theorem jb6 {n:Int}:∀ {q:List Int},q.Pairwise (·<·)→(intoI q n).Pairwise (·<·)
 | [],_=>by unfold intoI;rw [jmX];simp
 | x::r,h=>by
  unfold intoI
  rw [jkF]
  rw [List.pairwise_cons] at h
  split
  ·rename_i h1
   have h1:=qc h1
   rw [List.pairwise_cons]
   refine ⟨fun y hy=>?_,jb6 h.2⟩
   rcases jgq.1 hy with rfl | hy
   ·exact h1
   ·exact h.1 y hy
  ·rename_i h1
   have h1:¬ x<n:=fun h'=>h1 (qg h')
   split
   ·exact List.pairwise_cons.2 h
   ·rename_i h2
    have h2:¬ x=n:=fun h'=>h2 (qg h')
    refine List.pairwise_cons.2 ⟨fun y hy=>?_,List.pairwise_cons.2 h⟩
    rcases List.mem_cons.1 hy with rfl | hy
    ·omega
    ·have:=h.1 y hy;omega
theorem jcZ {v:Str}:∀ (l:List Evp) (q:List Int),q.Pairwise (·<·)→(boundsGo v l q).Pairwise (·<·)
 | [],q,h=>h
 | e::r,q,h=>by
  rw [boundsGo]
  apply jcZ r
  split
  ·exact jb6 (jb6 h)
  ·exact h
theorem jjm (l:List Evp) (v:Str):(boundsV l v).reverse.Pairwise (fun a b=>b<a):=List.pairwise_reverse.2 (jcZ l [] List.Pairwise.nil)
theorem jkU {node:Int} {t:Trust} {l:List Evp} {v:Str} {hi:Int}:∀ (ns:List Int) (f:Int),(∀ x∈ns,x≤hi)→f≤hi→finLow node t l v hi ns f≤hi
 | [],f,_,hf=>hf
 | n::r,f,h,hf=>by
  rw [finLow]
  split
  ·exact jkU r n (fun x hx=>h x (qi _ hx)) (h n (List.mem_cons_self ..))
  ·exact hf
theorem jsZ {node:Int} {t:Trust} (ns:List Int):ns.Pairwise (fun a b=>b<a)→(finGo node t l v ns).2.2=true→(finGo node t l v ns).1≤(finGo node t l v ns).2.1:=by
 induction ns with
 | nil=>intro _ h;cases h
 | cons n r ih =>
  intro hs h
  have hs:=List.pairwise_cons.1 hs
  cases hc:cnf26 node t l v n n with
  | true =>
   rw [jiz hc]
   exact jkU r n (fun x hx=>Int.le_of_lt (hs.1 x hx)) (Int.le_refl _)
  | false =>
   rw [jjb hc] at h ⊢
   exact ih hs.2 h
theorem jnL {node:Int} {t:Trust} (h:(finalB node t l v).2.2=true):(finalB node t l v).1≤(finalB node t l v).2.1:=jsZ _ (jjm l v) h
theorem jm8 {node:Int} {t:Trust} {l:List Evp} {v:Str}:∀ (ns:List Int) (lh:Int × Int),lh.1≤lh.2→(extGo node t l v ns lh).1≤(extGo node t l v ns lh).2∧lh.2≤(extGo node t l v ns lh).2
 | [],lh,h=>⟨h,Int.le_refl _⟩
 | n::r,lh,h=>by
  have hd:=jdg node t l v n n
  rw [extGo]
  split
  ·split
   ·simp only
    split<;>omega
   ·exact jm8 r lh h
  ·exact ⟨h,Int.le_refl _⟩
theorem jk1 {node:Int} {t:Trust} {l:List Evp} {v:Str}:∀ (ns:List Int) (lh:Int × Int),(∀ x∈ns,1≤x∧x≤1000)→1≤lh.1→1≤(extGo node t l v ns lh).1
 | [],lh,_,h=>h
 | n::r,lh,h,hl=>by
  have hn:=h n (List.mem_cons_self ..)
  have hd:=jdg node t l v n n
  rw [extGo]
  split
  ·split
   ·simp only
    split<;>omega
   ·exact jk1 r lh (fun x hx=>h x (qi _ hx)) hl
  ·exact hl
theorem jun:∀ l:List UInt8,Op.bytesLess l l=false
 | []=>rfl
 | a::r=>by
  show (decide (a<a)||(a == a&&Op.bytesLess r r))=false
  rw [jun r]
  simp
theorem jva (v:Str):cV v v=0:=by
 unfold cV s3 sLt
 rw [jun,jvd rfl];simp [or3]
theorem jv0 (h:a.v=b.v):lB a b=decide (a.n<b.n):=by
 rw [jlZ,h,jva]
 split
 ·rename_i e;rw [e];simp
 ·rfl
def OptV (v:Str) (b:Bal):Prop:=b=Bal.none∨(b.v=v∧1≤b.n)
section
variable {v:Str}
theorem OptV.pos (h:OptV v b) (h1:1≤b.n):b.v=v:=by
 rcases h with rfl | h
 ·exact qo h1 (by decide)
 ·exact h.1
theorem OptV.n0 (h:OptV v b):0≤b.n:=by
 rcases h with rfl | h
 ·decide
 ·omega
theorem OptV.zero (h:OptV v b) (h1:b.n=0):b=Bal.none:=by
 rcases h with rfl | h
 ·rfl
 ·omega
theorem jqO {p:Bal} (hp:OptV v p) (hb:b.v=v):abB p b=false:=by
 unfold abB
 rcases hp with rfl | h
 ·rfl
 ·rw [show cB p b=true from qg (h.1.trans hb.symm)];simp
theorem jh2 {p:Bal} (hp:OptV v p) (hb:b.v=v) (h1:1≤b.n):covB p b=decide (b.n≤p.n):=by
 unfold covB
 rcases hp with rfl | h
 ·rw [qx (by show ¬ b.n≤0;omega)];rfl
 ·rw [jb5 h.2,show cB p b=true from qg (h.1.trans hb.symm)];simp
theorem jsd {p:Bal} (hp:OptV v p) (hb:b.v=v) (h1:1≤b.n):prB p Bal.none b=decide (b.n≤p.n):=by
 unfold prB
 rw [jh2 hp hb h1]
 unfold covB
 rw [show zB Bal.none=true from rfl];simp
theorem jwj (hv:1≤v.size) (hb:b.v=v):cB Bal.none b=false:=qx (fun e=>jyi hv (hb.symm.trans e.symm))
theorem jwC {p:Bal} (hv:1≤v.size) (hp:OptV v p) (hb:OptV v b):joinV p Bal.none b=(if p.n<b.n then b else p,Bal.none):=by
 unfold joinV
 rcases hb with rfl | hb
 ·rw [qf jax,qe (by have:=hp.n0;show ¬ p.n<0;omega)]
 ·rw [qe (by rw [jb5 hb.2];decide)]
  rcases hp with rfl | hp
  ·rw [qf jax,qf (by show (0:Int)<b.n;omega)]
  ·rw [qe (by rw [jb5 hp.2];decide),jv0 (hp.1.trans hb.1.symm),show cB p b=true from qg (hp.1.trans hb.1.symm),jwj hv hb.1,show cB b p=true from qg (hb.1.trans hp.1.symm)]
   by_cases h:p.n<b.n
   ·rw [qg h,qf rfl,qe (by decide),qe (by decide),qf h]
   ·rw [qx h,qe (by decide),qe (by simp),qe h]
theorem jp6 {n:Int} (hx:OptV v x):low1 v n x=n:=by
 unfold low1
 rw [jqO hx rfl,qw,qe (by decide)]
theorem jkh {n:Int} {p:Bal} (hp:OptV v p):lowestV v n p Bal.none=max n 1:=by
 unfold lowestV
 rw [jp6 hp,jp6 (.inl rfl)]
theorem jvC {p:Bal} {n:Int} (hp:OptV v p):freeV p Bal.none n v=true:=by
 unfold freeV
 rw [jqO hp rfl,jqO (v:=v) (.inl rfl) rfl];rfl
theorem jpB (hb:OptV v b):OptV v (finB1 b)∧(finB1 b).n≤1000∧(finB1 b).n=min b.n 1000:=by
 unfold finB1
 split
 ·rename_i h
  exact ⟨.inr ⟨hb.pos (by omega),by show (1:Int)≤1000;omega⟩,by show (1000:Int)≤1000;omega,by show (1000:Int)=_;omega⟩
 ·exact ⟨hb,by omega,by omega⟩
end
section
variable {v:Str} {T:Nat→Trust→Prop}
structure UE (T:Nat→Trust→Prop) (v:Str) (e:Evp):Prop where
 ok:vE e=true
 t:T e.node.toNat e.t
 slot:e.slot=1
 bal:e.bal.v=v
 prep:OptV v e.prep
 prime:e.prime=Bal.none
theorem jxJ (h:vB b=true):1≤b.n:=by
 simp only [vB,qh,Bool.or_eq_true,qm] at h
 omega
theorem jm1 (h:vE e=true):1≤e.bal.n∧(e.kind=1∨e.kind=2∨e.kind=3):=by
 unfold vE at h
 rw [qh] at h
 have h2:=h.2
 unfold kindE at h2
 split at h2
 ·rename_i hk
  unfold prepE finB at h2
  simp only [qh] at h2
  exact ⟨jxJ h2.1.1.1,.inl hk⟩
 ·split at h2
  ·rename_i hk
   unfold finB at h2
   simp only [qh] at h2
   exact ⟨jxJ h2.1.1,.inr (.inl hk)⟩
  ·split at h2
   ·rename_i hk
    simp only [qh] at h2
    exact ⟨jxJ h2.1,.inr (.inr hk)⟩
   ·cases h2
theorem UE.balb (h:UE T v e):OptV v e.bal:=.inr ⟨h.bal,(jm1 h.ok).1⟩
theorem jcd (hl:∀ e∈l,UE T v e):∀ b∈ballotsV l,b.v=v∧1≤b.n:=by
 intro b hb
 obtain ⟨e,he,h1,h2,h3⟩:=jgS.1 hb
 have hu:=hl e he
 have:OptV v b:=by
  unfold ownB at h2
  split at h2
  ·simp only [List.mem_cons,qp,or_false] at h2
   rcases h2 with rfl | rfl | rfl
   ·exact hu.balb
   ·exact hu.prep
   ·rw [hu.prime];exact .inl rfl
  ·simp only [List.mem_cons,qp,or_false] at h2
   rcases h2 with rfl | rfl
   ·exact hu.prep
   ·exact .inr ⟨hu.bal,by show (1:Int)≤1000000;omega⟩
 rcases this with rfl | h
 ·rw [jax] at h3;cases h3
 ·exact h
theorem jjV (hl:∀ e∈l,UE T v e):∀ w∈valuesV l,w=v:=by
 intro w hw
 obtain ⟨e,he,_,rfl⟩:=jia.1 hw
 exact (hl e he).bal
structure UM (T:Nat→Trust→Prop) (v:Str) (i:Nat) (m:Mach):Prop where
 inv:InvS m
 i10:i<10
 vsz:1≤v.size∧v.size≤200
 node:m.node=(i:Int)
 t:T i m.t
 vt:validT m.t=0
 slot:m.slot=1
 prop:m.prop=v
 seq:1≤m.seq
 balv:m.bal.v=v
 baln:1≤m.bal.n
 prime:m.prime=Bal.none
 p1:m.phase=1→m.high=0∧(OptV v m.prep∧m.prep.n≤1000)∧((m.conf=Bal.none∧m.low=0)∨((m.conf.v=v∧1≤m.conf.n)∧m.conf.n≤m.prep.n∧m.conf.n≤m.bal.n∧0≤m.low∧m.low≤m.conf.n))
 p2:m.phase=2→(m.prep.v=v∧1≤m.prep.n∧m.prep.n≤1000)∧(m.conf.v=v∧1≤m.conf.n)∧1≤m.low∧m.low≤m.high∧m.high≤m.prep.n
 p3:m.phase=3→m.prep=Bal.none∧m.conf=Bal.none∧1≤m.low∧m.low≤m.high
 hd:∀ e∈m.heard,UE T v e
 hh:heardM m=true
theorem UM.zb {i:Nat} (h:UM T v i m):zB m.bal=false:=jb5 h.baln
theorem UM.ph {i:Nat} (h:UM T v i m):m.phase=1∨m.phase=2∨m.phase=3:=h.inv.inv.ph
theorem UM.prepo {i:Nat} (h:UM T v i m):OptV v m.prep:=by
 rcases h.ph with hp | hp | hp
 ·exact (h.p1 hp).2.1.1
 ·exact .inr ⟨(h.p2 hp).1.1,(h.p2 hp).1.2.1⟩
 ·rw [(h.p3 hp).1];exact .inl rfl
theorem UM.confo {i:Nat} (h:UM T v i m):OptV v m.conf:=by
 rcases h.ph with hp | hp | hp
 ·rcases (h.p1 hp).2.2 with hc | hc
  ·rw [hc.1];exact .inl rfl
  ·exact .inr hc.1
 ·exact .inr (h.p2 hp).2.1
 ·rw [(h.p3 hp).2.1];exact .inl rfl
theorem vB_v {n:Int} (hv:1≤v.size∧v.size≤200) (h:1≤n∧n≤1000):vB ⟨n,v⟩=true:=by
 unfold vB
 rw [qg (p:=1≤n) h.1,qg (p:=n≤1000) h.2,qg hv.1,qg hv.2];rfl
theorem jyh (hv:1≤v.size∧v.size≤200) (hb:b.v=v) (h:1≤b.n∧b.n≤1000):vB b=true:=by
 cases b;simp only at hb h;subst hb;exact vB_v hv h
theorem jsn (ha:a.v=v) (hb:b.v=v):cB a b=true:=qg (ha.trans hb.symm)
theorem UM.msg_ok {i:Nat} (h:UM T v i m) (k:Int) (hk:1≤k∧k≤1000000):vE { envR m with seq:=k }=true:=by
 have hb:vB m.bal=true:=jyh h.vsz h.balv ⟨h.baln,h.inv.inv.baln⟩
 have h10:=h.i10
 have hhd:headE { envR m with seq:=k }=true:=by
  unfold headE
  show (decide (0≤m.node)&&(decide (m.node<10)&&(decide (1≤m.slot)&&(decide (m.slot≤1000000)&&(decide (1≤k)&&(decide (k≤1000000)&&decide (validT m.t=0)))))))=true
  rw [h.node,h.slot,qg h.vt,qg hk.1,qg hk.2,qg (p:=(0:Int)≤(i:Int)) (by omega),qg (p:=(i:Int)<10) (by omega)]
  decide
 unfold vE
 rw [hhd,qs]
 unfold kindE
 rcases h.ph with hp | hp | hp
 ·rw [qf (show (envR m).kind=1 from hp)]
  have h1:=h.p1 hp
  have e1:(envR m).prep=m.prep:=by show (if m.phase=1∨m.phase=2 then m.prep else Bal.none)=_;rw [qf (.inl hp)]
  have e2:(envR m).prime=Bal.none:=by show (if m.phase=1 then m.prime else Bal.none)=_;rw [h.prime];split<;>rfl
  have e3:(envR m).high=m.conf.n∧0≤m.low∧m.low≤m.conf.n∧m.conf.n≤m.bal.n∧m.conf.n≤m.prep.n:=by
   have hx:(envR m).high=if m.phase=1 then (if (!zB m.conf&&cB m.conf m.bal)=true then m.conf.n else 0) else m.high:=rfl
   rw [hx,qf hp]
   have hb1:=h.baln
   have hp0:=h1.2.1.1.n0
   rcases h1.2.2 with ⟨hc,hl⟩ | ⟨hc,hr⟩
   ·rw [hc,qe (by rw [jax];simp)]
    exact ⟨rfl,by omega,by show m.low≤0;omega,by show (0:Int)≤_;omega,hp0⟩
   ·rw [jb5 hc.2,jsn hc.1 h.balv,qf (show (!false&&true)=true from rfl)]
    exact ⟨rfl,hr.2.2.1,hr.2.2.2,hr.2.1,hr.1⟩
  have hpo:optB m.prep=true:=by
   unfold optB
   rcases h1.2.1.1 with hz | hz
   ·rw [hz];rfl
   ·rw [jyh h.vsz hz.1 ⟨hz.2,h1.2.1.2⟩,Bool.or_true]
  unfold prepE finB
  show ((vB m.bal&&decide (m.bal.n≤1000))&&(optB (envR m).prep&&(optB (envR m).prime&&((zB (envR m).prime||_)&&(decide (0≤m.low)&&(decide (m.low≤(envR m).high)&&decide ((envR m).high≤m.bal.n))))))
   && ((decide ((envR m).high=0)||prB (envR m).prep (envR m).prime ⟨(envR m).high,m.bal.v⟩)&&(decide (m.low=0)||(!abB (envR m).prep ⟨m.low,m.bal.v⟩&&!abB (envR m).prime ⟨m.low,m.bal.v⟩))))=true
  rw [e1,e2,e3.1,hb,hpo,qg h.inv.inv.baln,qg e3.2.1,qg e3.2.2.1,qg e3.2.2.2.1,jqO h1.2.1.1 (by show m.bal.v=v;exact h.balv),jqO (v:=v) (.inl rfl) (by show m.bal.v=v;exact h.balv)]
  have:(decide (m.conf.n=0)||prB m.prep Bal.none ⟨m.conf.n,m.bal.v⟩)=true:=by
   by_cases hz:m.conf.n=0
   ·rw [qg hz];rfl
   ·rw [jsd (b:=⟨m.conf.n,m.bal.v⟩) h1.2.1.1 h.balv (by have:=e3.2.1;have:=e3.2.2.1;show 1≤m.conf.n;omega),qg (p:=(⟨m.conf.n,m.bal.v⟩:Bal).n≤m.prep.n) e3.2.2.2.2,Bool.or_true]
  rw [this]
  simp [optB,jax]
 ·rw [qe (show ¬ (envR m).kind=1 by show ¬ m.phase=1;omega),qf (show (envR m).kind=2 from hp)]
  have h2:=h.p2 hp
  have e1:(envR m).prep=m.prep:=by show (if m.phase=1∨m.phase=2 then m.prep else Bal.none)=_;rw [qf (.inr hp)]
  have e2:(envR m).prime=Bal.none:=by show (if m.phase=1 then m.prime else Bal.none)=_;rw [h.prime];split<;>rfl
  have e3:(envR m).high=m.high:=by show (if m.phase=1 then _ else m.high)=_;rw [qe (by omega)]
  unfold finB rngE
  show ((vB m.bal&&decide (m.bal.n≤1000))&&(vB (envR m).prep&&(cB (envR m).prep m.bal&&(zB (envR m).prime&&((decide (1≤m.low)&&(decide (m.low≤(envR m).high)&&decide ((envR m).high≤1000)))&&decide ((envR m).high≤(envR m).prep.n))))))=true
  rw [e1,e2,e3,hb,qg h.inv.inv.baln,jyh h.vsz h2.1.1 h2.1.2,jsn h2.1.1 h.balv,jax,qg h2.2.2.1,qg h2.2.2.2.1,qg h2.2.2.2.2,qg h.inv.inv.high.2];rfl
 ·rw [qe (show ¬ (envR m).kind=1 by show ¬ m.phase=1;omega),qe (show ¬ (envR m).kind=2 by show ¬ m.phase=2;omega),qf (show (envR m).kind=3 from hp)]
  have h3:=h.p3 hp
  have e1:(envR m).prep=Bal.none:=by show (if m.phase=1∨m.phase=2 then m.prep else Bal.none)=_;rw [qe (by omega)]
  have e2:(envR m).prime=Bal.none:=by show (if m.phase=1 then m.prime else Bal.none)=_;rw [h.prime];split<;>rfl
  have e3:(envR m).high=m.high:=by show (if m.phase=1 then _ else m.high)=_;rw [qe (by omega)]
  unfold rngE
  show (vB m.bal&&(zB (envR m).prep&&(zB (envR m).prime&&(decide (1≤m.low)&&(decide (m.low≤(envR m).high)&&decide ((envR m).high≤1000))))))=true
  rw [e1,e2,e3,hb,jax,qg h3.2.2.1,qg h3.2.2.2,qg h.inv.inv.high.2];rfl
theorem UM.msg_env {i:Nat} (h:UM T v i m):msgM m=envR m:=by
 unfold msgM envR
 rcases h.ph with hp | hp | hp
 ·rw [qf (show m.phase=1∨m.phase=2 from .inl hp),qf hp,qf hp]
 ·rw [qf (show m.phase=1∨m.phase=2 from .inr hp),qe (show ¬ m.phase=1 by omega),qe (show ¬ m.phase=1 by omega),h.prime]
 ·rw [qe (show ¬ (m.phase=1∨m.phase=2) by omega),qe (show ¬ m.phase=1 by omega),qe (show ¬ m.phase=1 by omega),h.prime,(h.p3 hp).1]
theorem UM.say_env {i:Nat} (h:UM T v i m):sayR m=envR m:=by
 unfold sayR
 rw [show max m.seq 1=m.seq by have:=h.seq;omega];rfl
theorem UM.env_ue {i:Nat} (h:UM T v i m):UE T v (envR m):=by
 have hn:(envR m).node.toNat=i:=by show m.node.toNat=i;rw [h.node];rfl
 refine ⟨h.msg_ok m.seq ⟨h.seq,h.inv.seq.2⟩,by rw [hn];exact h.t,h.slot,h.balv,?_,?_⟩
 ·show OptV v (if m.phase=1∨m.phase=2 then m.prep else Bal.none)
  split
  ·exact h.prepo
  ·exact .inl rfl
 ·show (if m.phase=1 then m.prime else Bal.none)=_
  rw [h.prime];split<;>rfl
theorem UM.all {i:Nat} (h:UM T v i m):∀ e∈allM m,UE T v e:=by
 intro e he
 rcases jeq he with rfl | he
 ·rw [h.say_env];exact h.env_ue
 ·exact h.hd e he
theorem UM.check {i:Nat} (h:UM T v i m):checkM m=true:=by
 have h10:=h.i10
 have hq:=h.inv.seq
 have hhead:headM m=true:=by
  unfold headM
  rw [h.node,h.slot,h.hh,qg h.vt,h.prop,qg (p:=v.size≤200) h.vsz.2,qg (p:=(0:Int)≤(i:Int)) (by omega),qg (p:=(i:Int)<10) (by omega),qg (p:=0≤m.seq) (by omega),qg (p:=m.seq≤1000000) (by omega)]
  decide
 have hE:vE (msgM m)=true:=by rw [h.msg_env];exact h.env_ue.ok
 have hC:confM m=true:=by
  unfold confM
  rcases h.confo with hc | hc
  ·rw [hc,qf jax]
  ·rw [qe (by rw [jb5 hc.2];decide),qe (by rw [jyh h.vsz hc.1 ⟨hc.2,h.inv.inv.confn⟩,qx (by have:=h.inv.inv.confn;omega)];decide)]
   rcases h.ph with hp | hp | hp
   ·rcases (h.p1 hp).2.2 with ⟨h0,_⟩ | ⟨h1,h2,_⟩
    ·rw [h0] at hc;exact qo hc.2 (by decide)
    ·rw [h.prime,jsd h.prepo h1.1 h1.2,qg h2];rfl
   ·rw [jsn hc.1 h.balv,qx (p:=m.phase=1) (by omega)];simp
   ·rw [jsn hc.1 h.balv,qx (p:=m.phase=1) (by omega)];simp
 unfold checkM
 rw [hhead,qe (by rw [h.zb];decide),hE,hC,h.prime,jax]
 rcases h.ph with hp | hp | hp
 ·rw [(h.p1 hp).1,hp];rfl
 ·rw [hp];rfl
 ·rw [(h.p3 hp).1,hp];rfl
end
theorem jfe {m d:Mach} (h1:d.slot=m.slot) (h2:d.node=m.node):∀ (l:List Evp) (p:Option Int),heardGo d p l=heardGo m p l
 | [],p=>rfl
 | e::r,p=>by
  cases p<;>simp only [heardGo,h1,h2,jfe h1 h2 r]
theorem jgT (h1:d.slot=m.slot) (h2:d.node=m.node) (h3:d.heard=m.heard):heardM d=heardM m:=by
 unfold heardM
 rw [h3,jfe h1 h2]
theorem jgd {m:Mach}:∀ {l:List Evp} {p:Option Int},heardGo m p l=true→∀ e∈l,vE e=true∧e.slot=m.slot∧¬ e.node=m.node
 | [],_,_,e,he=>qo he qp
 | x::r,p,h,e,he=>by
  have h':(vE x=true∧x.slot=m.slot∧¬ x.node=m.node)∧heardGo m (some x.node) r=true:=by
   cases p<;>simp only [heardGo,qh,qm,Bool.not_eq_true',decide_eq_false_iff_not] at h<;>exact ⟨⟨h.1.1,h.1.2.1,h.1.2.2.1⟩,h.2⟩
  rcases List.mem_cons.1 he with rfl | he
  ·exact h'.1
  ·exact jgd h'.2 e he
section
variable {v:Str} {T:Nat→Trust→Prop} {i:Nat}
theorem UM.own (h:UM T v i m) (he:e∈allM m) (hn:e.node.toNat=i):e=envR m:=by
 rcases jeq he with rfl | he
 ·exact h.say_env
 ·have h1:=jgd (show heardGo m none m.heard=true from h.hh) e he
  have h2:=(jcC h1.1).1
  have h3:=h.node
  exact qo (show e.node=m.node by omega) h1.2.2
theorem UM.own_in (h:UM T v i m) {p:Evp→Bool} (hs:(setP p (allM m)).testBit i=true):p (envR m)=true:=by
 obtain ⟨e,he,⟨h1,_⟩,h2⟩:=jcE.1 hs
 rw [h.own he h2] at h1;exact h1
theorem UM.has_own (h:UM T v i m) {p:Evp→Bool} (hs:has (great V (setP p (allM m):Nat):Nat) m.node=true):p (envR m)=true:=by
 have hl:=jdJ p (allM m)
 have h1:=((jaY (jcG V _)).1 hs).2.2
 have h2:=(jbP V hl).within _ h1
 have h3:=h.node
 rw [show m.node.toNat=i by omega] at h2
 exact h.own_in h2
theorem UM.cnf25 (h:UM T v i m) (hc:Tq.cnf25 m.node m.t (allM m) b=true):apR (envR m) b=true:=by
 unfold Tq.cnf25 confirmsC at hc
 exact h.has_own (p:=fun e=>apR e b) hc
theorem UM.of (h:UM T v i m) (hi:InvM d) (hs:SameF m d) (h1:d.bal.v=v) (h2:1≤d.bal.n) (h3:d.prime=Bal.none)
 (p1:d.phase=1→d.high=0∧(OptV v d.prep∧d.prep.n≤1000)∧((d.conf=Bal.none∧d.low=0)∨((d.conf.v=v∧1≤d.conf.n)∧d.conf.n≤d.prep.n∧d.conf.n≤d.bal.n∧0≤d.low∧d.low≤d.conf.n)))
 (p2:d.phase=2→(d.prep.v=v∧1≤d.prep.n∧d.prep.n≤1000)∧(d.conf.v=v∧1≤d.conf.n)∧1≤d.low∧d.low≤d.high∧d.high≤d.prep.n)
 (p3:d.phase=3→d.prep=Bal.none∧d.conf=Bal.none∧1≤d.low∧d.low≤d.high):UM T v i d :=
 ⟨⟨hi,by rw [hs.seq];exact h.inv.seq⟩,h.i10,h.vsz,hs.node.trans h.node,by rw [hs.t];exact h.t,by rw [hs.t];exact h.vt,hs.slot.trans h.slot,hs.prop.trans h.prop,by rw [hs.seq];exact h.seq,h1,h2,h3,p1,p2,p3,
  by rw [hs.heard];exact h.hd,by rw [jgT hs.slot hs.node hs.heard];exact h.hh⟩
theorem UM.nxt (h:UM T v i m):OptV v (prepB m)∧(prepB m).n≤1000:=by
 have:OptV v (nextV m.node m.t (allM m) m.prep m.prime (if m.phase=2 then m.bal.v else noS)):=by
  rcases jch m.node m.t (allM m) m.prep m.prime (if m.phase=2 then m.bal.v else noS) (ballotsV (allM m)) with h1 | ⟨h1,_⟩
  ·exact .inl h1
  ·exact .inr (jcd h.all _ h1)
 have:=jpB this
 exact ⟨this.1,this.2.1⟩
def prepN (m:Mach):Bal:=if m.prep.n<(prepB m).n then prepB m else m.prep
theorem UM.prepN (h:UM T v i m) (h1:m.prep.n≤1000):OptV v (prepN m)∧m.prep.n≤(Tq.prepN m).n∧(Tq.prepN m).n≤1000:=by
 have hn:=h.nxt
 unfold Tq.prepN
 split
 ·exact ⟨hn.1,by omega,hn.2⟩
 ·exact ⟨h.prepo,by omega,h1⟩
theorem UM.prep_le (h:UM T v i m):m.prep.n≤1000:=by
 rcases h.ph with hp | hp | hp
 ·exact (h.p1 hp).2.1.2
 ·exact (h.p2 hp).1.2.2
 ·rw [(h.p3 hp).1];decide
theorem UM.prep1 (h:UM T v i m):Tq.prep1 m={ m with prep:=Tq.prepN m }:=by
 unfold Tq.prep1
 rw [h.prime,jwC h.vsz.1 h.prepo h.nxt.1]
 rfl
theorem UM.prep_eq (h:UM T v i m) (hp:¬ m.phase=3):prepM m={ m with prep:=Tq.prepN m }:=by
 have hpn:=h.prepN h.prep_le
 unfold prepM
 rw [qe (by rw [h.zb];simp [hp])]
 by_cases h1:m.phase=1∧¬ m.low=0
 ·rw [qf h1]
  have hL:prepL m=max m.low 1:=by
   unfold prepL
   rw [h.prep1,h.balv]
   show lowestV v m.low (Tq.prepN m) m.prime=_
   rw [h.prime,jkh hpn.1]
  have hq:=(h.p1 h1.1).2.2
  have hlo:1≤m.low:=by have:=h.inv.inv.low;omega
  have hE:(envR (Tq.prep1 m)).high=m.conf.n:=by
   rw [h.prep1]
   show (if m.phase=1 then (if (!zB m.conf&&cB m.conf m.bal)=true then m.conf.n else 0) else m.high)=_
   rw [qf h1.1]
   rcases hq with hq | hq
   ·exact qo hq.2 h1.2
   ·rw [jb5 hq.1.2,jsn hq.1.1 h.balv,qf (show (!false&&true)=true from rfl)]
  have hle:m.low≤m.conf.n:=by
   rcases hq with hq | hq
   ·exact qo hq.2 h1.2
   ·exact hq.2.2.2.2
  rw [hL,hE,qe (by omega),h.prep1]
  rw [show max m.low 1=m.low by omega]
 ·rw [qe h1];exact h.prep1
theorem UM.prepM (h:UM T v i m):UM T v i (prepM m):=by
 by_cases hp:m.phase=3
 ·have:Tq.prepM m=m:=by unfold Tq.prepM;rw [qf (.inl hp)]
  rw [this];exact h
 ·have hs:=jee h.inv.inv
  have hpn:=h.prepN h.prep_le
  refine h.of hs.2.1 hs.1 ?_ ?_ ?_ ?_ ?_ ?_
  all_goals rw [h.prep_eq hp]
  ·exact h.balv
  ·exact h.baln
  ·exact h.prime
  ·intro h1
   have:=h.p1 h1
   refine ⟨this.1,⟨hpn.1,hpn.2.2⟩,?_⟩
   rcases this.2.2 with h2 | h2
   ·exact .inl h2
   ·exact .inr ⟨h2.1,by show m.conf.n≤(Tq.prepN m).n;have:=h2.2.1;omega,h2.2.2⟩
  ·intro h1
   have:=h.p2 h1
   have h3:=hpn.2.1
   exact ⟨⟨hpn.1.pos (by have:=this.1.2.1;omega),by show 1≤(Tq.prepN m).n;have:=this.1.2.1;omega,hpn.2.2⟩,this.2.1,this.2.2.1,this.2.2.2.1,by show m.high≤(Tq.prepN m).n;have:=this.2.2.2.2;omega⟩
  ·intro h1;exact qo h1 hp
theorem UM.confB (h:UM T v i m) (hz:zB (confB m)=false):((confB m).v=v∧1≤(Tq.confB m).n)∧(Tq.confB m).n≤1000∧m.conf.n<(Tq.confB m).n∧((m.phase=1∨m.phase=2)→(Tq.confB m).n≤m.prep.n):=by
 have hx:=jdX m.node m.t (allM m) m.conf (ballotsV (allM m))
 rw [show highGo m.node m.t (allM m) m.conf (ballotsV (allM m))=Tq.confB m from rfl] at hx
 rcases hx with h1 | ⟨h1,h2,h3,h4⟩
 ·rw [h1,jax] at hz;cases hz
 ·have hb:=jcd h.all _ h1
  refine ⟨hb,h2,?_,fun hp=>?_⟩
  ·rcases h.confo with hc | hc
   ·rw [hc];show (0:Int)<_;have:=hb.2;omega
   ·rw [jv0 (hc.1.trans hb.1.symm)] at h3
    exact qc h3
  ·have h5:=h.cnf25 h4
   unfold apR at h5
   simp only [qh] at h5
   have h6:=h5.2
   have hk:¬ (envR m).kind=3:=by show ¬ m.phase=3;omega
   rw [qe hk] at h6
   have e1:(envR m).prep=m.prep:=by show (if m.phase=1∨m.phase=2 then m.prep else Bal.none)=_;rw [qf hp]
   rw [e1,h.env_ue.prime,jsd h.prepo hb.1 hb.2] at h6
   exact qc h6
theorem UM.conf_eq (h:UM T v i m) (hp:m.phase=1) (hz:zB (Tq.confB m)=false) :
 confS m={ m with conf:=Tq.confB m,bal:=(if m.bal.n<(Tq.confB m).n then Tq.confB m else m.bal),low:=(if m.low=0∧m.bal.n≤(Tq.confB m).n then (Tq.confB m).n else m.low) }:=by
 obtain ⟨hb,hb2,hb3,hb4⟩:=h.confB hz
 unfold confS
 rw [qe (by rw [h.zb];simp [hp]),qe (by rw [hz];decide)]
 have e1:conf1 m={ m with conf:=Tq.confB m,bal:=(if m.bal.n<(Tq.confB m).n then Tq.confB m else m.bal) }:=by
  unfold conf1
  rw [jv0 (h.balv.trans hb.1.symm)]
  by_cases hl:m.bal.n<(Tq.confB m).n
  ·rw [qg hl,qf rfl,qf hl,jsn h.balv hb.1,qf rfl]
  ·rw [qx hl,qe (by decide),qe hl]
 rw [e1]
 unfold conf2
 simp only
 have e2:cB (if m.bal.n<(Tq.confB m).n then Tq.confB m else m.bal) (Tq.confB m)=true:=by
  split
  ·exact jsn hb.1 hb.1
  ·exact jsn h.balv hb.1
 have e3:lowestV (Tq.confB m).v (if m.bal.n<(Tq.confB m).n then Tq.confB m else m.bal).n m.prep m.prime=max m.bal.n (Tq.confB m).n:=by
  rw [h.prime,hb.1,jkh h.prepo]
  split<;>omega
 rw [e2,e3]
 by_cases hl:m.low=0∧m.bal.n≤(Tq.confB m).n
 ·rw [qf ⟨⟨hl.1,rfl⟩,by omega⟩,qf hl,show max m.bal.n (Tq.confB m).n=(Tq.confB m).n by omega]
 ·rw [qe (fun hh=>hl ⟨hh.1.1,by omega⟩),qe hl]
theorem UM.confS (h:UM T v i m):UM T v i (confS m):=by
 by_cases hp:m.phase=1
 ·cases hz:zB (Tq.confB m) with
  | true =>
   have:Tq.confS m=m:=by unfold Tq.confS;rw [qe (by rw [h.zb];simp [hp]),qf hz]
   rw [this];exact h
  | false =>
   obtain ⟨hb,hb2,hb3,hb4⟩:=h.confB hz
   have hs:=jd1 h.inv.inv
   refine h.of hs.2.1 hs.1 ?_ ?_ ?_ ?_ ?_ ?_
   all_goals rw [h.conf_eq hp hz]
   ·show (if m.bal.n<(Tq.confB m).n then Tq.confB m else m.bal).v=v
    split
    ·exact hb.1
    ·exact h.balv
   ·show 1≤(if m.bal.n<(Tq.confB m).n then Tq.confB m else m.bal).n
    split
    ·exact hb.2
    ·exact h.baln
   ·exact h.prime
   ·intro _
    have h1:=h.p1 hp
    refine ⟨h1.1,h1.2.1,.inr ⟨hb,hb4 (.inl hp),?_,?_⟩⟩
    ·show (Tq.confB m).n≤(if m.bal.n<(Tq.confB m).n then Tq.confB m else m.bal).n
     split<;>omega
    ·show 0≤(if m.low=0∧m.bal.n≤(Tq.confB m).n then (Tq.confB m).n else m.low)∧(if m.low=0∧m.bal.n≤(Tq.confB m).n then (Tq.confB m).n else m.low)≤(Tq.confB m).n
     split
     ·omega
     ·rcases h1.2.2 with h2 | h2
      ·rw [h2.1] at hb3
       have hb3:(0:Int)<_:=hb3
       omega
      ·have:=h2.2.2.2;omega
   ·intro h1;exact qo (show m.phase=2 from h1) (by omega)
   ·intro h1;exact qo (show m.phase=3 from h1) (by omega)
 ·have:Tq.confS m=m:=by unfold Tq.confS;rw [qf (.inl hp)]
  rw [this];exact h
end
section
variable {v:Str} {T:Nat→Trust→Prop} {i:Nat}
theorem UM.comF (h:UM T v i m) (hf:(comF m).2.2.2=true):(Tq.comF m).1=v∧1≤(Tq.comF m).2.1∧(Tq.comF m).2.1≤(Tq.comF m).2.2.1∧(Tq.comF m).2.2.1≤1000:=by
 have h1:=jmn hf
 have h2:(Tq.comF m).1=v∧(Tq.comF m).2.1≤(Tq.comF m).2.2.1:=by
  unfold Tq.comF firstV at hf ⊢
  split at hf
  ·cases hf
  ·rename_i hz
   rw [qe hz]
   rcases jl4 m.node m.t (allM m) m.prep m.prime with e | ⟨a1,_⟩
   ·rw [e] at hz;exact qo jax hz
   ·exact ⟨jjV h.all _ a1,(jdS _ _ (fun x hx=>jaU (allM m) _ x (List.mem_reverse.1 hx))).1⟩
 exact ⟨h2.1,h1.2.1.1,h2.2,h1.2.2.1.2⟩
theorem UM.comM (h:UM T v i m):UM T v i (comM m):=by
 have hs:=jfE h.inv.inv
 by_cases hp:m.phase=1
 ·by_cases hf:(Tq.comF m).2.2.2=true
  ·have hc:=h.comF hf
   have e:Tq.comM m={ m with bal:=(if (!cB m.bal (comB m)||lB m.bal (comB m))=true then ⟨max m.bal.n (comB m).n,(comB m).v⟩ else m.bal),prep:=(if covB m.prep (comB m)=true then m.prep else comB m),phase:=2,low:=(Tq.comF m).2.1,high:=(comB m).n,conf:=comB m,prime:=Bal.none }:=by
    unfold Tq.comM;rw [qf hp,qf hf]
   have hbv:(comB m).v=v:=hc.1
   have hbn:(comB m).n=(Tq.comF m).2.2.1:=rfl
   have hb1:1≤(comB m).n:=by omega
   refine h.of hs.2.1 hs.1 ?_ ?_ ?_ ?_ ?_ ?_
   all_goals rw [e]
   ·show (if (!cB m.bal (comB m)||lB m.bal (comB m))=true then (⟨max m.bal.n (comB m).n,(comB m).v⟩:Bal) else m.bal).v=v
    split
    ·exact hbv
    ·exact h.balv
   ·show 1≤(if (!cB m.bal (comB m)||lB m.bal (comB m))=true then (⟨max m.bal.n (comB m).n,(comB m).v⟩:Bal) else m.bal).n
    have:=h.baln
    split
    ·show 1≤max m.bal.n (comB m).n;omega
    ·exact this
   ·intro h1;exact qo (show (2:Int)=1 from h1) (by omega)
   ·intro _
    refine ⟨?_,⟨hbv,hb1⟩,hc.2.1,by show (Tq.comF m).2.1≤(comB m).n;omega,?_⟩
    ·show (if covB m.prep (comB m)=true then m.prep else comB m).v=v∧1≤(if covB m.prep (comB m)=true then m.prep else comB m).n∧(if covB m.prep (comB m)=true then m.prep else comB m).n≤1000
     have hle:=h.prep_le
     split
     ·rename_i hcv
      rw [jh2 h.prepo hbv hb1] at hcv
      have:=qc hcv
      exact ⟨h.prepo.pos (by omega),by omega,hle⟩
     ·exact ⟨hbv,hb1,by omega⟩
    ·show (comB m).n≤(if covB m.prep (comB m)=true then m.prep else comB m).n
     split
     ·rename_i hcv
      rw [jh2 h.prepo hbv hb1] at hcv
      exact qc hcv
     ·exact Int.le_refl _
   ·intro h1;exact qo (show (2:Int)=3 from h1) (by omega)
  ·have:Tq.comM m=m:=by unfold Tq.comM;rw [qf hp,qe hf]
   rw [this];exact h
 ·by_cases hp2:m.phase=2
  ·have h2:=h.p2 hp2
   obtain ⟨a1,a2,a3⟩:=jj0 (node:=m.node) (t:=m.t) (l:=allM m) (v:=m.bal.v) h.inv.inv.low h.inv.inv.high
   have hex:(comX m).1≤(comX m).2∧m.high≤(comX m).2∧1≤(comX m).1:=by
    have h3:=jm8 (node:=m.node) (t:=m.t) (l:=allM m) (v:=m.bal.v) (boundsV (allM m) m.bal.v).reverse (m.low,m.high) h2.2.2.2.1
    have h4:=jdg m.node m.t (allM m) m.bal.v (extGo m.node m.t (allM m) m.bal.v (boundsV (allM m) m.bal.v).reverse (m.low,m.high)).1 (extGo m.node m.t (allM m) m.bal.v (boundsV (allM m) m.bal.v).reverse (m.low,m.high)).2
    have h5:=jis (node:=m.node) (t:=m.t) (l:=allM m) (v:=m.bal.v) (boundsV (allM m) m.bal.v).reverse (m.low,m.high) (fun x hx=>jaU (allM m) _ x (List.mem_reverse.1 hx))
    have h6:1≤(extGo m.node m.t (allM m) m.bal.v (boundsV (allM m) m.bal.v).reverse (m.low,m.high)).1:=by
     have:=jk1 (node:=m.node) (t:=m.t) (l:=allM m) (v:=m.bal.v) (boundsV (allM m) m.bal.v).reverse (m.low,m.high) (fun x hx=>jaU (allM m) _ x (List.mem_reverse.1 hx)) h2.2.2.1
     exact this
    unfold Tq.comX extendV
    revert h3 h4 h6
    generalize extGo m.node m.t (allM m) m.bal.v (boundsV (allM m) m.bal.v).reverse (m.low,m.high)=x
    obtain ⟨a,b⟩:=x
    simp only
    generalize downV m.node m.t (allM m) m.bal.v a b=d
    intro h3 h4 h6
    omega
   have e:Tq.comM m={ m with low:=(comX m).1,high:=(comX m).2,bal:=⟨max m.bal.n (comX m).2,m.bal.v⟩,conf:=⟨max m.conf.n (comX m).2,m.bal.v⟩,prep:=⟨max m.prep.n (comX m).2,m.prep.v⟩ }:=by
    unfold Tq.comM;rw [qe hp,qf hp2]
   have a2:(comX m).2≤1000:=a2.2
   have hb1:=h.baln
   refine h.of hs.2.1 hs.1 ?_ ?_ ?_ ?_ ?_ ?_
   all_goals rw [e]
   ·exact h.balv
   ·show 1≤max m.bal.n (comX m).2;omega
   ·exact h.prime
   ·intro h1;exact qo h1 hp
   ·intro _
    refine ⟨⟨h2.1.1,?_,?_⟩,⟨h.balv,?_⟩,hex.2.2,hex.1,?_⟩
    ·show 1≤max m.prep.n (comX m).2;omega
    ·show max m.prep.n (comX m).2≤1000;omega
    ·show 1≤max m.conf.n (comX m).2;omega
    ·show (comX m).2≤max m.prep.n (comX m).2;omega
   ·intro h1;exact qo (show m.phase=3 from h1) (by omega)
  ·have:Tq.comM m=m:=by unfold Tq.comM;rw [qe hp,qe hp2]
   rw [this];exact h
theorem UM.finM (h:UM T v i m):UM T v i (finM m):=by
 have hs:=jfv h.inv.inv
 by_cases hp:m.phase=2
 ·by_cases hf:(finF m).2.2=true
  ·have hb:=jiQ hf
   have hl:=jnL hf
   have e:Tq.finM m={ m with phase:=3,low:=(finF m).1,high:=(finF m).2.1,bal:=⟨(finF m).2.1,m.bal.v⟩,prep:=Bal.none,prime:=Bal.none,conf:=Bal.none }:=by
    unfold Tq.finM;rw [qe (fun h'=>h' hp),qf hf]
   refine h.of hs.2.1 hs.1 ?_ ?_ ?_ ?_ ?_ ?_
   all_goals rw [e]
   ·exact h.balv
   ·exact hb.2.1.1
   ·intro h1;exact qo (show (3:Int)=1 from h1) (by omega)
   ·intro h1;exact qo (show (3:Int)=2 from h1) (by omega)
   ·intro _;exact ⟨rfl,rfl,hb.1.1,hl⟩
  ·have:Tq.finM m=m:=by unfold Tq.finM;rw [qe (fun h'=>h' hp),qe hf]
   rw [this];exact h
 ·have:Tq.finM m=m:=by unfold Tq.finM;rw [qf hp]
  rw [this];exact h
theorem UM.val (h:UM T v i m):valM m=v:=by
 unfold valM
 rcases h.confo with hc | hc
 ·rw [hc,qe (by rw [jax];decide)]
  by_cases hp:m.phase=1
  ·rw [qe (by rw [hp];decide),h.prop,qf (by rw [qx (jyi h.vsz.1)];rfl)]
  ·rw [qf (by rw [qx hp];rfl)];exact h.balv
 ·rw [qf (by rw [jb5 hc.2];rfl)];exact hc.1
theorem UM.cauv (h:UM T v i m):cauV m=m.bal.v:=by
 unfold cauV
 split
 ·rw [h.val,h.balv]
 ·rfl
theorem UM.cau_eq (h:UM T v i m) (hc:¬ (m.phase=3∨aheadV m m.bal.n=false)):cauM m={ m with bal:=⟨max m.bal.n (min (bestGo m m.heard 1000000) 1000),m.bal.v⟩ }:=by
 unfold cauM
 rw [qe hc,h.cauv,qf rfl]
theorem UM.cauM (h:UM T v i m):UM T v i (cauM m):=by
 have hs:=jip h.inv.inv
 by_cases hc:m.phase=3∨aheadV m m.bal.n=false
 ·have:Tq.cauM m=m:=by unfold Tq.cauM;rw [qf hc]
  rw [this];exact h
 ·have hb:=h.baln
  refine h.of hs.2.1 hs.1 ?_ ?_ ?_ ?_ ?_ ?_
  all_goals rw [h.cau_eq hc]
  ·exact h.balv
  ·show 1≤max m.bal.n _;omega
  ·exact h.prime
  ·intro hp
   have h1:=h.p1 hp
   refine ⟨h1.1,h1.2.1,?_⟩
   rcases h1.2.2 with h2 | h2
   ·exact .inl h2
   ·exact .inr ⟨h2.1,h2.2.1,by show m.conf.n≤max m.bal.n _;have:=h2.2.2.1;omega,h2.2.2.2⟩
  ·exact fun hp=>h.p2 hp
  ·exact fun hp=>h.p3 hp
theorem UM.stepG (h:UM T v i m):UM T v i (stepG m):=by
 unfold Tq.stepG
 split
 ·exact h.prepM
 split
 ·exact h.confS
 split
 ·exact h.comM
 split
 ·exact h.finM
 ·exact h.cauM
theorem UM.seqS (h:UM T v i m) {k:Int} (hk:1≤k∧k≤1000000):UM T v i { m with seq:=k } :=
 ⟨⟨jfp h.inv.inv k,by show 0≤k∧k≤1000000;omega⟩,h.i10,h.vsz,h.node,h.t,h.vt,h.slot,h.prop,hk.1,h.balv,h.baln,h.prime,h.p1,h.p2,h.p3,h.hd,by rw [← h.hh];exact jgT (d:={ m with seq:=k }) (m:=m) rfl rfl rfl⟩
theorem UM.rest (h:UM T v i m):UM T v i (restM m):=jjp (P:=fun c=>UM T v i c) (fun c _ hc=>hc.stepG) h.inv.inv h
theorem UM.adv_eq (h:UM T v i m):advM m=restM m:=by
 have hr:=h.rest
 unfold advM
 rw [qf h.check,qe (by rw [hr.zb];decide),show max (restM m).seq 1=(restM m).seq by have:=hr.seq;omega]
end
def ByN (l:List Evp):Prop:=l.Pairwise (fun a b=>a.node<b.node)
theorem jgy {m:Mach}:∀ (l:List Evp) (p:Option Int),heardGo m p l=true↔(∀ e∈l,vE e=true∧e.slot=m.slot∧¬ e.node=m.node)∧ByN l∧(∀ q,p=some q→∀ e∈l,q<e.node)
 | [],p=>by simp [heardGo,ByN]
 | x::r,p=>by
  have ih:=jgy (m:=m) r (some x.node)
  have e1:heardGo m p (x::r)=true↔(vE x=true∧x.slot=m.slot∧¬ x.node=m.node)∧(∀ q,p=some q→q<x.node)∧heardGo m (some x.node) r=true:=by
   cases p with
   | none=>simp [heardGo,and_assoc]
   | some q=>simp [heardGo,and_assoc]
  rw [e1,ih]
  unfold ByN
  rw [List.pairwise_cons]
  constructor
  ·rintro ⟨h1,h2,h3,h4,h5⟩
   refine ⟨fun e he=>?_,⟨fun e he=>h5 _ rfl e he,h4⟩,fun q hq e he=>?_⟩
   ·rcases List.mem_cons.1 he with rfl | he
    ·exact h1
    ·exact h3 e he
   ·rcases List.mem_cons.1 he with rfl | he
    ·exact h2 q hq
    ·have a:=h2 q hq
     have b:=h5 _ rfl e he
     omega
  ·rintro ⟨h1,⟨h2,h3⟩,h4⟩
   exact ⟨h1 x (List.mem_cons_self ..),fun q hq=>h4 q hq x (List.mem_cons_self ..),fun e he=>h1 e (qi _ he),h3,fun q hq e he=>by cases hq;exact h2 e he⟩
theorem jdb:heardM m=true↔(∀ e∈m.heard,vE e=true∧e.slot=m.slot∧¬ e.node=m.node)∧ByN m.heard:=by
 unfold heardM
 rw [jgy]
 constructor
 ·exact fun h=>⟨h.1,h.2.1⟩
 ·exact fun h=>⟨h.1,h.2,fun q hq=>by cases hq⟩
theorem jiA:ByN l↔(l.map Evp.node).Pairwise (·<·):=by
 unfold ByN;rw [List.pairwise_map]
theorem jm5 {e:Evp}:∀ (l:List Evp),posG (ltE e) l=posG (fun x=>decide (x<e.node)) (l.map Evp.node)
 | []=>rfl
 | x::r=>by
  rw [List.map_cons,posG,posG,jm5 r];rfl
theorem jxh (h:∀ x∈l,¬ x.node=e.node):(l.take (posG (ltE e) l)++[e]++l.drop (posG (ltE e) l)).map Evp.node=intoI (l.map Evp.node) e.node:=by
 unfold intoI
 have hf:=jnj (lt:=fun x=>decide (x<e.node)) (eq:=fun x=>decide (x=e.node)) (x:=e.node) (l:=l.map Evp.node) (k:=posG (ltE e) l) (jm5 l).symm (fun y hy=>by
  obtain ⟨x,hx,rfl⟩:=List.mem_map.1 (qj hy)
  exact qx (h x hx))
 rw [hf]
 simp
structure PutOk (l q:List Evp) (e:Evp):Prop where
 by_:ByN q
 mem:∀ y,y∈q↔y=e∨(y∈l∧¬ y.node=e.node)
 old:∀ x∈l,x.node=e.node→x.seq<e.seq
theorem jh8 {l:List Evp} {e:Evp} (hs:ByN l):∀ (r:List Evp) (i:Nat),l.drop i=r→(∀ x∈l.take i,¬ x.node=e.node) →
 ((putGo l e r i).2=true∧PutOk l (putGo l e r i).1 e)∨((putGo l e r i).2=false∧∃ x∈l,x.node=e.node∧e.seq≤x.seq)
 | [],i,hd,ht=>by
  left
  have hl:l.take i=l:=by
   have:=List.take_append_drop i l
   rwa [hd,List.append_nil] at this
  rw [hl] at ht
  refine ⟨rfl,?_,fun y=>?_,fun x hx he=>qo he (ht x hx)⟩
  ·show ByN (l.take (posG (ltE e) l)++[e]++l.drop (posG (ltE e) l))
   rw [jiA,jxh ht]
   exact jb6 (jiA.1 hs)
  ·show y∈l.take (posG (ltE e) l)++[e]++l.drop (posG (ltE e) l)↔_
   have e2:y∈l↔y∈l.take (posG (ltE e) l)∨y∈l.drop (posG (ltE e) l):=by
    rw [← List.mem_append,List.take_append_drop]
   rw [List.mem_append,List.mem_append,List.mem_singleton]
   constructor
   ·rintro ((h | h) | h)
    ·exact .inr ⟨e2.2 (.inl h),ht y (e2.2 (.inl h))⟩
    ·exact .inl h
    ·exact .inr ⟨e2.2 (.inr h),ht y (e2.2 (.inr h))⟩
   ·rintro (h | ⟨h,_⟩)
    ·exact .inl (.inr h)
    ·rcases e2.1 h with h | h
     ·exact .inl (.inl h)
     ·exact .inr h
 | x::r,i,hd,ht=>by
  have hx:l[i]?=some x:=by
   have:(l.drop i)[0]?=some x:=by rw [hd];rfl
   rwa [List.getElem?_drop,Nat.add_zero] at this
  have hi:=(List.getElem?_eq_some_iff.1 hx).1
  have hd1:l.drop (i+1)=r:=by
   have h1:=jjh hx
   rw [hd] at h1
   exact (List.cons.inj h1).2.symm
  have hxl:x∈l:=qj hx
  have hl:l=l.take i++x::l.drop (i+1):=by rw [← jjh hx,List.take_append_drop]
  have hord:=hs
  unfold ByN at hord
  rw [hl,List.pairwise_append,List.pairwise_cons] at hord
  unfold putGo
  by_cases hn:x.node=e.node
  ·rw [qf hn]
   by_cases hq:x.seq≥e.seq
   ·rw [qf hq];exact .inr ⟨rfl,x,hxl,hn,hq⟩
   ·rw [qe hq]
    left
    have hoth:∀ y∈l,y.node=e.node→y=x:=fun y hy hye=>by
     rw [hl] at hy
     rcases List.mem_append.1 hy with hy | hy
     ·have:=hord.2.2 y hy x (List.mem_cons_self ..);omega
     ·rcases List.mem_cons.1 hy with hy | hy
      ·exact hy
      ·have:=hord.2.1.1 y hy;omega
    refine ⟨rfl,?_,fun y=>?_,fun y hy hye=>by rw [hoth y hy hye];omega⟩
    ·show ByN (l.take i++[e]++l.drop (i+1))
     rw [jiA]
     have:(l.take i++[e]++l.drop (i+1)).map Evp.node=l.map Evp.node:=by
      conv=>rhs;rw [hl]
      simp [hn]
     rw [this];exact jiA.1 hs
    ·show y∈l.take i++[e]++l.drop (i+1)↔_
     rw [List.mem_append,List.mem_append,List.mem_singleton]
     constructor
     ·rintro ((h | h) | h)
      ·exact .inr ⟨List.mem_of_mem_take h,by have:=hord.2.2 y h x (List.mem_cons_self ..);omega⟩
      ·exact .inl h
      ·exact .inr ⟨List.mem_of_mem_drop h,by have:=hord.2.1.1 y h;omega⟩
     ·rintro (h | ⟨h,h2⟩)
      ·exact .inl (.inr h)
      ·rw [hl] at h
       rcases List.mem_append.1 h with h | h
       ·exact .inl (.inl h)
       ·rcases List.mem_cons.1 h with h | h
        ·rw [h] at h2;exact qo hn h2
        ·exact .inr h
  ·rw [qe hn]
   refine jh8 hs r (i+1) hd1 (fun y hy=>?_)
   rw [List.take_add_one,hx] at hy
   rcases List.mem_append.1 hy with hy | hy
   ·exact ht y hy
   ·have:y=x:=by simpa using hy
    rw [this];exact hn
theorem jjC (hs:ByN l) (hv:vE e=true):((putV l e).2=true∧PutOk l (putV l e).1 e)∨((putV l e).2=false∧∃ x∈l,x.node=e.node∧e.seq≤x.seq):=by
 rw [jmQ hv]
 exact jh8 hs l 0 rfl (fun x hx=>qo hx (by simp))
def Fresh (x e:Evp):Prop:=x=e∨x.seq<e.seq
theorem Fresh.trans {a b c:Evp} (h:Fresh a b) (k:Fresh b c):Fresh a c:=by
 rcases h with rfl | h
 ·exact k
 ·rcases k with rfl | k
  ·exact .inr h
  ·exact .inr (by omega)
section
variable {v:Str} {T:Nat→Trust→Prop} {i:Nat}
theorem jsI (hn:d.node=m.node) (hs:d.slot=m.slot) (ht:d.t=m.t) (hq:d.seq=m.seq) (h:sameE { envR m with seq:=0 } { envR d with seq:=0 }=true):envR m=envR d:=by
 simp only [sameE,qh,qm] at h
 obtain ⟨h1,h2,_,h3,h4,h5,h6,h7,h8,h9⟩:=h
 have e1:=ji8 h5;have e2:=ji8 h6;have e3:=ji8 h7
 have k1:(envR m).node=(envR d).node:=h1
 have k2:(envR m).slot=(envR d).slot:=h2
 have k3:(envR m).seq=(envR d).seq:=hq.symm
 have k4:(envR m).t=(envR d).t:=ht.symm
 generalize envR m=a at *
 generalize envR d=b at *
 cases a;cases b
 simp only at *
 subst_vars;rfl
theorem UM.num {b:Mach} (hb:UM T v i b) (h:UM T v i m) (hq:m.seq=b.seq) (ht:m.t=b.t) (hlt:m.seq<1000000) :
 UM T v i (numM b m)∧Fresh (envR b) (envR (numM b m))∧(numM b m).seq≤m.seq+1∧∃ k,numM b m={ restM m with seq:=k }:=by
 have hr:=h.rest
 have hs:=(jbb h.inv.inv).2
 unfold numM
 rw [h.adv_eq,qe (by rw [hr.zb];decide)]
 have hseq:=hs.seq
 split
 ·refine ⟨hr.seqS (by have:=h.seq;omega),.inr ?_,?_,_,rfl⟩
  ·show b.seq<min ((restM m).seq+1) 1000000;omega
  ·show min ((restM m).seq+1) 1000000≤m.seq+1;omega
 ·rename_i hc
  rw [hb.zb] at hc
  have hc:sameE { envR b with seq:=0 } { envR (restM m) with seq:=0 }=true:=by simpa using hc
  refine ⟨hr,.inl (jsI ?_ ?_ ?_ ?_ hc),by omega,(restM m).seq,rfl⟩
  ·exact hr.node.trans hb.node.symm
  ·exact hr.slot.trans hb.slot.symm
  ·exact hs.t.trans ht
  ·omega
theorem UM.put (h:UM T v i m) (he:UE T v e) (hn:¬ e.node=m.node) (hz:sizeT e.t≤100000) (h1:(putV m.heard e).2=true):UM T v i { m with heard:=(putV m.heard e).1 }∧PutOk m.heard (putV m.heard e).1 e:=by
 have hh:=jdb.1 h.hh
 rcases jjC hh.2 he.ok with ⟨_,hp⟩ | ⟨h2,_⟩
 ·refine ⟨⟨jex h.inv h.check hz,h.i10,h.vsz,h.node,h.t,h.vt,h.slot,h.prop,h.seq,h.balv,h.baln,h.prime,h.p1,h.p2,h.p3,fun x hx=>?_,?_⟩,hp⟩
  ·rcases (hp.mem x).1 hx with rfl | hx
   ·exact he
   ·exact h.hd x hx.1
  ·refine jdb.2 ⟨fun x hx=>?_,hp.by_⟩
   rcases (hp.mem x).1 hx with rfl | hx
   ·exact ⟨he.ok,he.slot.trans h.slot.symm,hn⟩
   ·exact hh.1 x hx.1
 ·rw [h2] at h1;cases h1
theorem UM.recv (h:UM T v i m) (he:UE T v e) (hn:¬ e.node=m.node) (hz:sizeT e.t≤100000) (hlt:m.seq<1000000) :
 ((recV m e).2=0∧(∃ q k,PutOk m.heard q e∧UM T v i { m with heard:=q }∧(recV m e).1={ restM { m with heard:=q } with seq:=k })∧UM T v i (recV m e).1∧Fresh (envR m) (envR (recV m e).1)∧(recV m e).1.seq≤m.seq+1)
 ∨ (¬ (recV m e).2=0∧∃ x∈m.heard,x.node=e.node∧e.seq≤x.seq):=by
 have hh:=jdb.1 h.hh
 unfold recV
 rw [qe (by rw [h.check];decide),qe (by rw [he.ok,he.slot,h.slot];simp [hn])]
 rcases jjC hh.2 he.ok with ⟨h1,hp⟩ | ⟨h1,hx⟩
 ·rw [qe (by rw [h1];decide)]
  have h2:=(h.put he hn hz h1).1
  obtain ⟨a1,a2,a3,k,a4⟩:=h.num (m:={ m with heard:=(putV m.heard e).1 }) h2 rfl rfl hlt
  exact .inl ⟨rfl,⟨_,k,hp,h2,a4⟩,a1,a2,a3⟩
 ·rw [qf h1];exact .inr ⟨by decide,hx⟩
theorem UM.tmo (h:UM T v i m) (hlt:m.seq<1000000) :
 ((tmoV m).2=0∧(∃ k,(m.phase=1∨m.phase=2)∧UM T v i { m with bal:=⟨m.bal.n+1,v⟩ }∧(tmoV m).1={ restM { m with bal:=⟨m.bal.n+1,v⟩ } with seq:=k })∧UM T v i (tmoV m).1∧Fresh (envR m) (envR (tmoV m).1)∧(tmoV m).1.seq≤m.seq+1)
 ∨ ¬ (tmoV m).2=0:=by
 unfold tmoV
 rw [qe (by rw [h.check];decide),h.val]
 by_cases hp:m.phase=3∨v=noS
 ·rw [qf hp];exact .inr (by decide)
 ·rw [qe hp]
  by_cases h1:m.bal.n≥1000
  ·rw [qf h1];exact .inr (by decide)
  ·rw [qe h1]
   have e:tmoM m={ m with bal:=⟨m.bal.n+1,v⟩ }:=by
    unfold tmoM
    rw [h.val,qf h.balv.symm,show max m.seq 1=m.seq by have:=h.seq;omega]
   have hi:=jfG h.inv (by omega)
   rw [e] at hi
   have hb:=h.baln
   have h2:UM T v i { m with bal:=⟨m.bal.n+1,v⟩ }:=by
    refine h.of hi.inv ⟨rfl,rfl,rfl,rfl,rfl,rfl⟩ rfl (by show 1≤m.bal.n+1;omega) h.prime (fun hp1=>?_) (fun hp2=>h.p2 hp2) (fun hp3=>h.p3 hp3)
    have h3:=h.p1 hp1
    refine ⟨h3.1,h3.2.1,?_⟩
    rcases h3.2.2 with h4 | h4
    ·exact .inl h4
    ·exact .inr ⟨h4.1,h4.2.1,by show m.conf.n≤m.bal.n+1;have:=h4.2.2.1;omega,h4.2.2.2⟩
   obtain ⟨a1,a2,a3,k,a4⟩:=h.num (m:={ m with bal:=⟨m.bal.n+1,v⟩ }) h2 rfl rfl hlt
   rw [e]
   exact .inl ⟨rfl,⟨k,by have:=h.ph;omega,h2,a4⟩,a1,a2,a3⟩
end
def ByM (l:List Nmn):Prop:=l.Pairwise (fun a b=>a.node<b.node)
theorem jnc {n:Nmr}:∀ (l:List Nmn) (p:Option Int),nhGo n p l=true↔(∀ m∈l,plainNm m=true∧¬ m.node=n.node)∧ByM l∧(∀ q,p=some q→∀ m∈l,q<m.node)
 | [],p=>by simp [nhGo,ByM]
 | x::r,p=>by
  have ih:=jnc (n:=n) r (some x.node)
  have e1:nhGo n p (x::r)=true↔(plainNm x=true∧¬ x.node=n.node)∧(∀ q,p=some q→q<x.node)∧nhGo n (some x.node) r=true:=by
   cases p with
   | none=>simp [nhGo,and_assoc]
   | some q=>simp [nhGo,and_assoc]
  rw [e1,ih]
  unfold ByM
  rw [List.pairwise_cons]
  constructor
  ·rintro ⟨h1,h2,h3,h4,h5⟩
   refine ⟨fun e he=>?_,⟨fun e he=>h5 _ rfl e he,h4⟩,fun q hq e he=>?_⟩
   ·rcases List.mem_cons.1 he with rfl | he
    ·exact h1
    ·exact h3 e he
   ·rcases List.mem_cons.1 he with rfl | he
    ·exact h2 q hq
    ·have a:=h2 q hq
     have b:=h5 _ rfl e he
     omega
  ·rintro ⟨h1,⟨h2,h3⟩,h4⟩
   exact ⟨h1 x (List.mem_cons_self ..),fun q hq=>h4 q hq x (List.mem_cons_self ..),fun e he=>h1 e (qi _ he),h3,fun q hq e he=>by cases hq;exact h2 e he⟩
theorem jhX {m:Nmn}:∀ (l:List Nmn) (q:List Nmn),(∀ x∈l,¬ x.node=m.node)→insGo m l true q=some (q++l)
 | [],q,_=>by simp [insGo]
 | x::r,q,h=>by
  rw [insGo,qe (h x (List.mem_cons_self ..)),qe (by simp),jhX r _ (fun y hy=>h y (qi _ hy))]
  simp
theorem jiT {m:Nmn}:∀ (l:List Nmn) (q h:List Nmn),ByM (q++l)→(∀ x∈q,x.node<m.node)→insGo m l false q=some h→ByM h
 | [],q,h,hs,hq,e=>by
  simp only [insGo,Bool.false_eq_true,if_false,ql] at e
  subst e
  rw [List.append_nil] at hs
  unfold ByM at hs ⊢
  rw [List.pairwise_append]
  exact ⟨hs,by simp,fun a ha b hb=>by rw [List.mem_singleton.1 hb];exact hq a ha⟩
 | x::r,q,h,hs,hq,e=>by
  have hs':ByM (q++x::r):=hs
  unfold ByM at hs'
  rw [List.pairwise_append,List.pairwise_cons] at hs'
  rw [insGo] at e
  split at e
  ·rename_i hx
   split at e
   ·cases e
   ·refine jiT r q h ?_ hq e
    unfold ByM
    rw [List.pairwise_append]
    exact ⟨hs'.1,hs'.2.1.2,fun a ha b hb=>hs'.2.2 a ha b (qi _ hb)⟩
  ·rename_i hx
   split at e
   ·rename_i hg
    simp only [qh,qm] at hg
    rw [jhX r _ (fun y hy=>by have:=hs'.2.1.1 y hy;omega),ql] at e
    subst e
    unfold ByM
    rw [List.append_assoc,List.append_assoc,List.pairwise_append]
    refine ⟨hs'.1,?_,fun a ha b hb=>?_⟩
    ·show (m::(x::r)).Pairwise _
     rw [List.pairwise_cons,List.pairwise_cons]
     refine ⟨fun y hy=>?_,hs'.2.1⟩
     rcases List.mem_cons.1 hy with rfl | hy
     ·omega
     ·have:=hs'.2.1.1 y hy;omega
    ·have h1:=hq a ha
     have hb:b∈m::x::r:=hb
     rcases List.mem_cons.1 hb with rfl | hb
     ·exact h1
     ·exact hs'.2.2 a ha b hb
   ·rename_i hg
    have hlt:x.node<m.node:=by
     simp only [qh,qm,Bool.not_false,and_true] at hg
     omega
    refine jiT r (q++[x]) h (by rw [List.append_assoc];exact hs) (fun y hy=>?_) e
    rcases List.mem_append.1 hy with hy | hy
    ·exact hq y hy
    ·rw [List.mem_singleton.1 hy];exact hlt
theorem jwc {n:Nmr} {m:Nmn} {h:List Nmn} (hs:ByM n.heard) (e:insN n m=some h):ByM h:=jiT n.heard [] h hs (fun x hx=>qo hx qp) e
section
variable {v:Str}
theorem jfA {α β:Type} {P:β→Prop} {f:β→α→β}:∀ (l:List α) (q:β),(∀ q x,x∈l→P q→P (f q x))→P q→P (l.foldl f q)
 | [],q,_,h=>h
 | x::r,q,hf,h=>jfA r (f q x) (fun q y hy hq=>hf q y (qi _ hy) hq) (hf q x (List.mem_cons_self ..) h)
theorem jvo {l:List Str} (h:l=[v]):putN l v=[v]:=jiP (.inr h)
theorem jsN {n:Nmr} (h:OneN v n) (hv:n.votes=[v]):(followN n).votes=[v]:=by
 refine jfA (P:=fun q=>q=[v]) _ _ (fun q k _ hq=>?_) hv
 unfold fol1
 split
 ·split
  ·exact hq
  ·rw [h.own];exact jvo hq
 ·refine jfA (P:=fun q=>q=[v]) _ _ (fun q m hm hq=>?_) hq
  unfold fol2
  split
  ·refine jfA (P:=fun q=>q=[v]) _ _ (fun q x hx hq=>?_) hq
   rw [(jcS (h.heard m hm).votes (h.heard m hm).accs).mem hx]
   exact jvo hq
  ·exact hq
theorem jwe {n:Nmr} (h:OneN v n) (hv:n.votes=[v]):(firstN n).votes=[v]:=by
 unfold firstN
 split
 ·exact jsN h hv
 ·exact hv
theorem jqU:∀ (k:Nat) {n:Nmr},OneN v n→(againN k n).votes=n.votes∧(n.accs=[v]→(againN k n).accs=[v])
 | 0,n,h=>⟨rfl,fun h=>h⟩
 | k+1,n,h=>by
  unfold againN
  split
  ·exact ⟨rfl,fun h=>h⟩
  ·rename_i x hx
   have hxv:=(jjR h).mem (List.mem_of_find?_eq_some hx)
   rw [hxv]
   have ih:=jqU k (n:=accN n v) ⟨h.own,h.votes,jes h.accs,h.confs,.inr (jiP h.accs),h.heard⟩
   exact ⟨ih.1,fun ha=>ih.2 (jvo ha)⟩
theorem jwT {n:Nmr} (h:OneN v n):(n.votes=[v]→(bodyN n).votes=[v])∧(n.accs=[v]→(bodyN n).accs=[v]):=by
 have h1:=jkA h
 have h2:=jqU 41 h1
 have ha:(firstN n).accs=n.accs:=by unfold firstN followN;split<;>rfl
 refine ⟨fun hv=>?_,fun hv=>?_⟩
 ·show (againN 41 (firstN n)).votes=[v]
  rw [h2.1];exact jwe h hv
 ·show (againN 41 (firstN n)).accs=[v]
  exact h2.2 (ha.trans hv)
def wtN (n:Nmr):Nat:=n.votes.length+n.accs.length
theorem OneV.len {l:List Str} (h:OneV v l):l.length≤1:=by rcases h with rfl | rfl<;>simp
structure NV (v:Str) (i:Nat) (n:Nmr):Prop where
 vsz:1≤v.size∧v.size≤200
 i10:i<10
 one:OneN v n
 node:n.node=(i:Int)
 slot:n.slot=1
 vt:validT n.t=0
 round:1≤n.round∧n.round≤1000
 seq:1≤n.seq∧n.seq≤1+wtN n
 hd:∀ m∈n.heard,plainNm m=true∧¬ m.node=n.node
 by_:ByM n.heard
theorem NV.valid {i:Nat} {n:Nmr} (h:NV v i n):validNr n=true:=by
 have h1:=h.one.votes.len
 have h2:=h.one.accs.len
 have h3:=h.seq
 have h4:=h.round
 have h5:=h.i10
 refine jjv h.vsz h.one ?_ h.vt ((jnc _ _).2 ⟨h.hd,h.by_,fun q hq=>by cases hq⟩)
 unfold rngN wtN at *
 rw [h.node,h.slot,qg (p:=(i:Int)≥0) (by omega),qg (p:=(i:Int)<10) (by omega),qg (p:=n.round≥1) (by omega),qg (p:=n.round≤1000) (by omega),qg (p:=n.seq≥1) (by omega),qg (p:=n.seq≤1000000) (by omega)]
 decide
theorem NV.settle {i:Nat} {b n:Nmr} (hb:NV v i b) (hn:NV v i n) (hv:n.votes=b.votes) (ha:n.accs=b.accs) (hq:n.seq=b.seq) (ht:n.t=b.t):NV v i (settleN b n)∧(settleN b n).t=n.t:=by
 have hs:=jbx b n
 have ho:=jdc (b:=b) hn.one
 have hbv:=jwT hn.one
 have hw:b.seq≤1+wtN b:=hb.seq.2
 have hq1:=hb.seq.1
 have hbo:=jnJ hn.one
 have mono:wtN b≤wtN (bodyN n):=by
  unfold wtN
  rw [← hv,← ha]
  have k1:n.votes.length≤(bodyN n).votes.length:=by
   rcases hn.one.votes with h | h
   ·rw [h];simp
   ·rw [h,hbv.1 h];simp
  have k2:n.accs.length≤(bodyN n).accs.length:=by
   rcases hn.one.accs with h | h
   ·rw [h];simp
   ·rw [h,hbv.2 h];simp
  omega
 refine ⟨⟨hn.vsz,hn.i10,ho,hs.node.trans hn.node,hs.slot.trans hn.slot,by rw [hs.t];exact hn.vt,by rw [hs.round];exact hn.round,?_,by rw [hs.heard,hs.node];exact hn.hd,by rw [hs.heard];exact hn.by_⟩,hs.t⟩
 have hbs:(bodyN n).seq=n.seq:=jmE n
 unfold settleN
 split
 ·rename_i htn
  refine ⟨by show 1≤b.seq+1;omega,?_⟩
  show b.seq+1≤1+(wtN (bodyN n):Int)
  have:wtN b<wtN (bodyN n):=by
   unfold turnN sameN at htn
   rw [(jkx n).t,ht,jcN] at htn
   simp only [Bool.not_true,Bool.or_false,Bool.or_eq_true,Bool.not_eq_true',decide_eq_false_iff_not] at htn
   unfold wtN at mono ⊢
   rw [← hv,← ha] at htn mono ⊢
   rcases htn with h | h
   ·have k2:n.accs.length≤(bodyN n).accs.length:=by
     rcases hn.one.accs with h | h
     ·rw [h];simp
     ·rw [h,hbv.2 h];simp
    rcases hn.one.votes with h1 | h1
    ·rcases hbo.votes with h2 | h2
     ·exact qo (h1.trans h2.symm) h
     ·rw [h1,h2];simp;omega
    ·exact qo (h1.trans (hbv.1 h1).symm) h
   ·have k1:n.votes.length≤(bodyN n).votes.length:=by
     rcases hn.one.votes with h | h
     ·rw [h];simp
     ·rw [h,hbv.1 h];simp
    rcases hn.one.accs with h1 | h1
    ·rcases hbo.accs with h2 | h2
     ·exact qo (h1.trans h2.symm) h
     ·rw [h1,h2];simp;omega
    ·exact qo (h1.trans (hbv.2 h1).symm) h
  omega
 ·rw [hbs,hq];omega
theorem NV.hear {i:Nat} {n:Nmr} {m:Nmn} (h:NV v i n) (hm:OneM v m) (he:(hearN n m).2=0):NV v i (hearN n m).1∧(hearN n m).1.t=n.t:=by
 unfold hearN at he ⊢
 split at he
 ·cases he
 ·rename_i hc
  rw [qe hc]
  simp only [not_or,Bool.not_eq_false] at hc
  cases hi:insN n m with
  | none=>rw [hi] at he;cases he
  | some q =>
   have h1:NV v i { n with heard:=q }:=⟨h.vsz,h.i10,⟨h.one.own,h.one.votes,h.one.accs,h.one.confs,h.one.ca,jgD hm h.one.heard (fun x hx=>qo hx qp) hi⟩,h.node,h.slot,h.vt,h.round,h.seq,
    jgD (p:=fun x=>plainNm x=true∧¬ x.node=n.node) ⟨hc.1.2,hc.2⟩ h.hd (fun x hx=>qo hx qp) hi,jwc h.by_ hi⟩
   exact h.settle h1 rfl rfl rfl rfl
theorem NV.tick {i:Nat} {n:Nmr} (h:NV v i n) (he:(tickN n).2=0):NV v i (tickN n).1∧(tickN n).1.t=n.t:=by
 unfold tickN at he ⊢
 split at he
 ·cases he
 ·rename_i hc
  rw [qe hc]
  split at he
  ·cases he
  ·rename_i hc2
   rw [qe hc2]
   have hr:=h.round
   exact h.settle (n:={ n with round:=n.round+1 }) ⟨h.vsz,h.i10,⟨h.one.own,h.one.votes,h.one.accs,h.one.confs,h.one.ca,h.one.heard⟩,h.node,h.slot,h.vt,by show 1≤n.round+1∧n.round+1≤1000;omega,h.seq,h.hd,h.by_⟩ rfl rfl rfl rfl
theorem NV.start {i:Nat} {t:Trust} (hv:1≤v.size∧v.size≤200) (hi:i<10) (ht:validT t=0):NV v i (startN i 1 t v).1∧(startN i 1 t v).1.t=t:=by
 have hs:=jbx (newN i 1 t v) (newN i 1 t v)
 have h0:=jii (v:=v) hi ht hv.2
 have ho:=jdP (node:=(i:Int)) (slot:=1) (jfI (v:=v) hi ht hv.2)
 rw [h0] at ho ⊢
 have hh:(settleN (newN i 1 t v) (newN i 1 t v)).heard=[]:=hs.heard
 exact ⟨⟨hv,hi,ho,hs.node,hs.slot,by show validT (settleN _ _).t=0;rw [hs.t];exact ht,by show 1≤(settleN _ _).round∧(settleN _ _).round≤1000;rw [hs.round];show (1:Int)≤1∧(1:Int)≤1000;omega,by show (1:Int)≤1∧(1:Int)≤_;omega,
  fun m hm=>(by have hm:m∈(settleN (newN i 1 t v) (newN i 1 t v)).heard:=hm;rw [hh] at hm;exact qo hm qp),by show ByM (settleN _ _).heard;rw [hh];exact List.Pairwise.nil⟩,hs.t⟩
end
section
variable {v:Str} {T:Nat→Trust→Prop} {i:Nat}
theorem UM.dcd (h:UM T v i m):dcdV m=if m.phase=3 then (v,true) else (noS,false):=by
 unfold dcdV
 by_cases hp:m.phase=3
 ·rw [qe (by rw [h.check];simp [hp]),qf hp,h.balv]
 ·rw [qf (.inr hp),qe hp]
structure US (T:Nat→Trust→Prop) (v:Str) (i:Nat) (s:Slt):Prop where
 nom:NV v i s.nom
 mach:UM T v i s.mach
 t:s.nom.t=s.mach.t
 tm:vTm s.tm=true
 round:1≤s.round∧s.round≤1000
 next:0≤s.next∧s.next≤212
 done:s.done=(dcdV s.mach).2
 value:s.value=(dcdV s.mach).1
theorem US.check (h:US T v i s):checkS s=true :=
 jdN h.mach.check h.nom.valid (h.nom.node.trans h.mach.node.symm) (h.nom.slot.trans h.mach.slot.symm) h.t h.tm h.round h.next h.done h.value
theorem US.set (hn:NV v i s.nom) (hm:UM T v i s.mach) (ht:s.nom.t=s.mach.t) (h1:vTm s.tm=true) (h2:1≤s.round∧s.round≤1000) (h3:0≤s.next∧s.next≤212):US T v i (setS s)∧(setS s).mach=s.mach∧(setS s).tm=s.tm:=by
 have hsm:=jiM hn.one hm.prop
 have e:(setS s).mach=s.mach:=hsm
 refine ⟨⟨hn,by rw [e];exact hm,by rw [e];exact ht,h1,h2,h3,?_,?_⟩,e,rfl⟩
 ·show (dcdV (setM s)).2=(dcdV (setS s).mach).2;rfl
 ·show (dcdV (setM s)).1=(dcdV (setS s).mach).1;rfl
theorem US.nomS (h:US T v i s) {m:Nmn} (hm:OneM v m) (h0:(nomS s m).2=0):US T v i (nomS s m).1∧(Tq.nomS s m).1.mach=s.mach∧(Tq.nomS s m).1.tm=s.tm:=by
 unfold Tq.nomS at h0 ⊢
 rw [qe (by rw [h.check];decide)] at h0 ⊢
 split at h0
 ·rename_i h2;exact qo h0 h2
 ·rename_i h2
  rw [qe h2]
  have hh:=h.nom.hear hm (by simpa using h2)
  exact US.set (s:={ s with nom:=(hearN s.nom m).1 }) hh.1 h.mach (hh.2.trans h.t) h.tm h.round h.next
theorem US.balS (h:US T v i s) (he:UE T v e) (hn:¬ e.node=s.mach.node) (hz:sizeT e.t≤100000) (hlt:s.mach.seq<1000000) :
 ((balS s e).2=0∧US T v i (Tq.balS s e).1∧(Tq.balS s e).1.mach=(recV s.mach e).1∧(recV s.mach e).2=0∧(Tq.balS s e).1.tm=s.tm)∨(¬ (Tq.balS s e).2=0∧¬ (recV s.mach e).2=0):=by
 unfold Tq.balS
 rw [qe (by rw [h.check];decide)]
 rcases h.mach.recv he hn hz hlt with ⟨h1,⟨q,k,_,hq,h5⟩,h2,_⟩ | ⟨h1,_⟩
 ·left
  rw [qe (fun hh=>hh h1)]
  have ht:(recV s.mach e).1.t=s.mach.t:=by
   rw [h5];exact (jbb hq.inv.inv).2.t
  obtain ⟨a1,a2,a3⟩:=US.set (s:={ s with mach:=(recV s.mach e).1 }) h.nom h2 (h.t.trans ht.symm) h.tm h.round h.next
  exact ⟨rfl,a1,a2,h1,a3⟩
 ·right
  rw [qf h1]
  exact ⟨h1,h1⟩
theorem jnH (k:Int):1≤waitV k∧waitV k≤12:=by unfold waitV;omega
theorem jvt {t:Tm} (ht:vTm t=true) (hm:0≤m.bal.n∧m.bal.n≤1000000) (hn:0≤now∧now≤200):vTm (stepV t m now).1=true:=by
 have hw:=jnH m.bal.n
 have key:∀ d:Int,-1≤d∧d≤212→vTm ⟨m.bal.n,d⟩=true:=fun d hd=>by
  unfold vTm
  rw [qg (p:=0≤m.bal.n) hm.1,qg (p:=m.bal.n≤1000000) hm.2,qg (p:=-1≤d) hd.1,qg (p:=d≤212) hd.2];rfl
 unfold stepV
 split
 ·decide
 split
 ·exact key _ (by omega)
 split
 ·exact key _ (by omega)
 split
 ·exact key _ (by omega)
 ·exact ht
theorem jxo (h:NV v i s.nom):NV v i (tkN s)∧(tkN s).t=s.nom.t:=by
 unfold tkN
 split
 ·rename_i hc;exact h.tick hc
 ·exact ⟨h,rfl⟩
theorem US.tk1 (h:US T v i s) (hn:0≤now∧now≤200):US T v i (tk1 s now)∧(Tq.tk1 s now).mach=s.mach∧(Tq.tk1 s now).tm=s.tm:=by
 unfold Tq.tk1
 split
 ·have hk:=jxo h.nom
  have hw:=jnH (min (s.round+1) 1000)
  have hr:=h.round
  exact US.set (s:={ s with nom:=tkN s,round:=min (s.round+1) 1000,next:=now+waitV (min (s.round+1) 1000) }) hk.1 h.mach (hk.2.trans h.t) h.tm (by show 1≤min (s.round+1) 1000∧min (s.round+1) 1000≤1000;omega) (by show 0≤now+waitV _∧now+waitV _≤212;omega)
 ·exact ⟨h,rfl,rfl⟩
theorem US.tick (h:US T v i s) (hn:0≤now∧now≤200) (hlt:s.mach.seq<1000000) :
 (tickSl s now).2=0∧US T v i (tickSl s now).1∧(tickSl s now).1.tm=(stepV s.tm s.mach now).1∧((tickSl s now).1.mach=s.mach∨((stepV s.tm s.mach now).2=true∧(tmoV s.mach).2=0∧(tickSl s now).1.mach=(tmoV s.mach).1)):=by
 have hb:=h.mach.baln
 have hb2:=h.mach.inv.inv.baln
 unfold tickSl
 rw [qe (by rw [h.check];decide),qe (by omega)]
 obtain ⟨h1,h2,h3⟩:=h.tk1 hn
 have ht:=jvt (m:=s.mach) h.tm (by omega) hn
 refine ⟨rfl,?_⟩
 show US T v i (tk2 (Tq.tk1 s now) now)∧(tk2 (Tq.tk1 s now) now).tm=_∧((tk2 (Tq.tk1 s now) now).mach=_∨_)
 revert h1 h2 h3
 generalize Tq.tk1 s now=x
 intro h1 h2 h3
 unfold tk2
 rw [h2,h3]
 split
 ·rename_i ho
  have hk:UM T v i (tkM s.mach)∧(tkM s.mach).t=s.mach.t∧(tkM s.mach=s.mach∨((tmoV s.mach).2=0∧tkM s.mach=(tmoV s.mach).1)):=by
   unfold tkM
   rcases h.mach.tmo hlt with ⟨a1,⟨k,_,a3,a4⟩,a2,_⟩ | a1
   ·rw [qf a1]
    refine ⟨a2,?_,.inr ⟨a1,rfl⟩⟩
    rw [a4];exact (jbb a3.inv.inv).2.t
   ·rw [qe a1];exact ⟨h.mach,rfl,.inl rfl⟩
  obtain ⟨b1,b2,b3⟩:=US.set (s:={ x with tm:=(stepV s.tm s.mach now).1,mach:=tkM s.mach }) h1.nom hk.1 (by show x.nom.t=_;rw [h1.t,h2];exact hk.2.1.symm) ht h1.round h1.next
  refine ⟨b1,b3,?_⟩
  rw [b2]
  rcases hk.2.2 with h4 | h4
  ·exact .inl h4
  ·exact .inr ⟨ho,h4.1,h4.2⟩
 ·exact ⟨⟨h1.nom,h.mach,by have:=h1.t;rw [h2] at this;exact this,ht,h1.round,h1.next,by have:=h1.done;rw [h2] at this;exact this,by have:=h1.value;rw [h2] at this;exact this⟩,rfl,.inl rfl⟩
theorem US.letters (h:US T v i s):lettersS s=ltrN s++[⟨2,1,zNmn,envR s.mach⟩]:=by
 unfold lettersS
 rw [qe (by rw [h.check];decide)]
 unfold ltrE
 rw [h.mach.check,h.mach.zb,qf (by decide),h.mach.slot,h.mach.msg_env]
theorem jmT {t:Trust} (hi:i<10) (hT:T i t) (ht:validT t=0) (hv:1≤v.size∧v.size≤200) (hz:sizeT t≤100000):UM T v i (propM (m0 i t) v):=by
 have hinv:InvS (m0 i t):=by
  have:=jd9 (node:=(i:Int)) (slot:=1) (t:=t) hz (by rw [jf0 hi ht])
  rwa [jf0 hi ht] at this
 have h2:=jcg hinv hv.2
 have hp:=jeW (v:=v) (k:=i) (t:=t) hv.1
 rw [hp] at h2 ⊢
 exact ⟨h2,hi,hv,rfl,hT,ht,rfl,rfl,by show (1:Int)≤1;omega,rfl,by show (1:Int)≤1;omega,rfl,fun _=>⟨rfl,⟨.inl rfl,by show (0:Int)≤1000;omega⟩,.inl ⟨rfl,rfl⟩⟩,fun h=>qo (show (1:Int)=2 from h) (by omega),fun h=>qo (show (1:Int)=3 from h) (by omega),fun e he=>qo he qp,rfl⟩
theorem jst {t:Trust} (hi:i<10) (hT:T i t) (ht:validT t=0) (hv:1≤v.size∧v.size≤200) (hz:sizeT t≤100000) :
 (newS i 1 t v 0).2=0∧(prefS' (newS i 1 t v 0).1 v).2=0∧∃ s,(prefS' (newS i 1 t v 0).1 v).1=s∧US T v i s∧s.mach.t=t∧s.tm=⟨0,-1⟩∧s.mach.heard=[]∧s.mach.seq≤3∧stepG s.mach=s.mach∧s.mach=restM (propM (m0 i t) v):=by
 have q0:=jmT (T:=T) hi hT ht hv hz
 have hm0:m0 i t=m0 i t:=rfl
 have hq0:(propM (m0 i t) v).seq=1:=by rw [jeW hv.1]
 have hh0:(propM (m0 i t) v).heard=[]:=by rw [jeW hv.1];rfl
 have ht0:(propM (m0 i t) v).t=t:=by rw [jeW hv.1];rfl
 have e1:numM (m0 i t) (propM (m0 i t) v)=restM (propM (m0 i t) v):=by
  unfold numM
  rw [q0.adv_eq,qe (by rw [q0.rest.zb];decide),qe (by rw [show zB (m0 i t).bal=true from jax];simp)]
 have q1:UM T v i (numM (m0 i t) (propM (m0 i t) v)):=by rw [e1];exact q0.rest
 have hsf:=(jbb q0.inv.inv).2
 obtain ⟨m,d,x,hn,hmm,hd,hx⟩:=jhh (k:=i) (t:=t) hi ht hv q1.check q1.prop
 have hns:=NV.start (t:=t) hv hi ht
 have ck:checkM m=true:=by
  rcases hmm with rfl | rfl
  ·exact jiV hi ht
  ·exact q1.check
 have hmn:m.node=(i:Int)∧m.slot=1∧m.t=t:=by
  rcases hmm with rfl | rfl
  ·exact ⟨rfl,rfl,rfl⟩
  ·exact ⟨q1.node,q1.slot,by rw [e1,hsf.t];exact ht0⟩
 have cs:checkS ⟨(startN i 1 t v).1,m,⟨0,-1⟩,1,2,d,x⟩=true :=
  jdN ck hns.1.valid (hns.1.node.trans hmn.1.symm) (hns.1.slot.trans hmn.2.1.symm) (hns.2.trans hmn.2.2.symm) (show vTm ⟨0,-1⟩=true by decide) (by show (1:Int)≤1∧(1:Int)≤1000;omega) (by show (0:Int)≤2∧(2:Int)≤212;omega) hd hx
 rw [hn]
 -- the machine after the proposal
 have hfin:UM T v i (numM m (propM m v))∧(numM m (propM m v)).t=t∧(numM m (propM m v)).heard=[]∧(numM m (propM m v)).seq≤3∧stepG (numM m (propM m v))=numM m (propM m v)∧numM m (propM m v)=restM (propM (m0 i t) v):=by
  rcases hmm with rfl | rfl
  ·rw [e1]
   exact ⟨q0.rest,by rw [hsf.t];exact ht0,by rw [hsf.heard];exact hh0,by rw [hsf.seq,hq0];decide,jiK q0.inv.inv,rfl⟩
  ·have hpm:propM (numM (m0 i t) (propM (m0 i t) v)) v=numM (m0 i t) (propM (m0 i t) v):=by
    generalize numM (m0 i t) (propM (m0 i t) v)=y at q1
    unfold propM
    rw [qe (by rw [q1.zb];decide)]
    have:=q1.prop
    cases y
    simp only at this
    subst this;rfl
   rw [hpm,e1]
   have hq2:(restM (propM (m0 i t) v)).seq=1:=by rw [hsf.seq,hq0]
   have hfix:=jiK q0.inv.inv
   have hrr:restM (restM (propM (m0 i t) v))=restM (propM (m0 i t) v):=jcO hfix
   have hsame:sameE { envR (restM (propM (m0 i t) v)) with seq:=0 } { envR (restM (propM (m0 i t) v)) with seq:=0 }=true:=by simp [sameE,jcN,beqB]
   have e2:numM (restM (propM (m0 i t) v)) (restM (propM (m0 i t) v))=restM (propM (m0 i t) v):=by
    unfold numM
    rw [q0.rest.adv_eq,hrr,qe (by rw [q0.rest.zb];decide),hsame,qe (by simp)]
   rw [e2]
   exact ⟨q0.rest,by rw [hsf.t];exact ht0,by rw [hsf.heard];exact hh0,by rw [hq2];decide,hfix,rfl⟩
 obtain ⟨f1,f2,f3,f4,f5,f6⟩:=hfin
 have hpv:=jiL (v:=v) ck hv
 have hpr:prefS' ⟨(startN i 1 t v).1,m,⟨0,-1⟩,1,2,d,x⟩ v=(setS ⟨(startN i 1 t v).1,numM m (propM m v),⟨0,-1⟩,1,2,d,x⟩,0):=by
  unfold prefS'
  rw [qe (by rw [cs];decide)]
  simp only [hpv]
  rw [qe (by simp)]
 rw [hpr]
 obtain ⟨g1,g2,g3⟩:=US.set (s:=⟨(startN i 1 t v).1,numM m (propM m v),⟨0,-1⟩,1,2,d,x⟩) hns.1 f1 (hns.2.trans f2.symm) (show vTm ⟨0,-1⟩=true by decide) (by show (1:Int)≤1∧(1:Int)≤1000;omega) (by show (0:Int)≤2∧(2:Int)≤212;omega)
 refine ⟨rfl,rfl,_,rfl,g1,?_,g3,?_,?_,?_,?_⟩<;>rw [g2]
 ·exact f2
 ·exact f3
 ·exact f4
 ·exact f5
 ·exact f6
end
theorem jdD (hq:q<1024) (h:q.testBit k=true):k<10:=by
 refine Classical.byContradiction fun hn=>?_
 have h1:q<2^k:=qy hq (Nat.pow_le_pow_right (by omega:0<2) (show 10≤k by omega))
 rw [Nat.testBit_lt_two_pow h1] at h;cases h
def TA (A:Nat) (τ:Nat→Trust) (j:Nat) (t:Trust):Prop:=A.testBit j=true∧t=τ j
def Qt (τ:Nat→Trust) (q:Nat):Prop:=∀ k:Nat,q.testBit k=true→sat (q:Nat) (τ k)=true
section
variable {v:Str} {A:Nat} {τ:Nat→Trust} {i:Nat} {T:Nat→Trust→Prop}
theorem UM.view (h:UM (TA A τ) v i m):VOK (TA A τ) (viewE m.node m.t (allM m)) :=
 ji4 (by rw [h.node];exact h.t) (fun e he _=>(h.all e he).t)
theorem UM.own_all (h:UM T v i m):envR m∈allM m:=by
 unfold allM
 rw [qe (by rw [h.zb];decide),← h.say_env]
 exact jfK.2 (.inl rfl)
theorem UM.heard_all (h:UM T v i m) (he:e∈m.heard):e∈allM m:=by
 unfold allM
 rw [qe (by rw [h.zb];decide)]
 exact jfK.2 (.inr he)
theorem UM.n10 (h:UM T v i m):0≤m.node∧m.node<10:=by have:=h.node;have:=h.i10;omega
theorem jnM (hV:VOK (TA A τ) V) (hd:(declC V).testBit k=true):tOf V k=τ k:=by
 obtain ⟨m,_,hm,hd⟩:=jbD.1 hd
 rw [ja9 hm]
 exact (hV k m hm hd).2
theorem UM.great_in (h:UM (TA A τ) v i m) {p:Evp→Bool} (hq:q<1024) (hQ:Qt τ q) (hi:q.testBit i=true) (hp:∀ j,q.testBit j=true→∃ e∈allM m,e.node.toNat=j∧p e=true) :
 has (great (viewE m.node m.t (allM m)) (setP p (allM m):Nat):Nat) m.node=true:=by
 have hs:=jdJ p (allM m)
 have hV:=h.view
 have hd:Sub q (declC (viewE m.node m.t (allM m))):=fun j hj=>by
  obtain ⟨e,he,hj',_⟩:=hp j hj
  obtain ⟨x,hx,hxd⟩:=jtc (node:=m.node) (t:=m.t) h.n10 he (h.all e he).ok
  rw [hj'] at hx
  exact jbD.2 ⟨x,jdD hq hj,hx,hxd⟩
 have hsub:Sub q (setP p (allM m)):=fun j hj=>by
  obtain ⟨e,he,hj',hpe⟩:=hp j hj
  have:=jcC (h.all e he).ok
  exact jcE.2 ⟨e,he,⟨hpe,by omega,by omega⟩,hj'⟩
 have hIs:IsQ (viewE m.node m.t (allM m)) q:=fun k hk=>by
  have h1:=(jaY hq).1 hk
  have e:((k.toNat:Nat):Int)=k:=by omega
  have:=jnM hV (hd _ h1.2.2)
  rw [e] at this
  rw [this]
  exact hQ _ h1.2.2
 have hm:=(jbP (viewE m.node m.t (allM m)) hs).most q hq hsub hd hIs
 refine (jaY (jcG _ _)).2 ⟨h.n10.1,h.n10.2,?_⟩
 have:=h.node
 rw [show m.node.toNat=i by omega]
 exact hm i hi
theorem jnA (hV:VOK (TA A τ) V) {s:Nat} (hs:s<1024):Qt τ (great V s)∧Sub (great V s) s∧Sub (great V s) A:=by
 have g:=jbP V hs
 refine ⟨fun k hk=>?_,g.within,fun k hk=>?_⟩
 ·have h10:=jdD g.lt hk
  have h1:=g.quorum k ((jaY g.lt).2 ⟨by omega,by omega,by rw [qr];exact hk⟩)
  rwa [jnM hV (g.decl k hk)] at h1
 ·obtain ⟨m,_,hm,hd⟩:=jbD.1 (g.decl k hk)
  exact (hV k m hm hd).1
theorem UM.great_out (h:UM (TA A τ) v i m) {s:Nat} (hs:s<1024) (hh:has (great (viewE m.node m.t (allM m)) (s:Nat):Nat) m.node=true):∃ q,q<1024∧Qt τ q∧q.testBit i=true∧Sub q s∧Sub q A:=by
 have g:=jnA h.view hs
 have h1:=((jaY (jcG _ _)).1 hh).2.2
 have:=h.node
 rw [show m.node.toNat=i by omega] at h1
 exact ⟨_,jcG _ _,g.1,h1,g.2.1,g.2.2⟩
theorem UM.noblock (h:UM (TA A τ) v i m) (hτ:∀ j,A.testBit j=true→validT (τ j)=0):blocksC (viewE m.node m.t (allM m)) m.node ((0:Nat):Int)=false:=by
 refine jf1 (fun x hx hd=>?_)
 have:=h.view _ x hx hd
 rw [this.2];exact hτ _ this.1
theorem jj8 {node:Int} {t:Trust} {l:List Evp} {p q:Bal} {w:Str} {b:Bal}:∀ {bs:List Bal},b∈bs→((!decide (w=noS)&&!decide (b.v=w))||prB (raiseB p) (raiseB q) b)=false→acc25 node t l b=true→nextGo node t l p q w bs∈bs
 | x::r,hb,h1,h2=>by
  rw [nextGo]
  rcases List.mem_cons.1 hb with rfl | hb
  ·rw [qe (by rw [h1];decide),qf h2];exact List.mem_cons_self ..
  ·have ih:=jj8 (p:=p) (q:=q) (w:=w) hb h1 h2
   split
   ·exact qi _ ih
   ·split
    ·exact List.mem_cons_self ..
    ·exact qi _ ih
theorem jkY {node:Int} {t:Trust} {l:List Evp} {a b:Bal}:∀ {bs:List Bal},b∈bs→b.n≤1000→lB a b=true→Tq.cnf25 node t l b=true→highGo node t l a bs∈bs
 | x::r,hb,h1,h2,h3=>by
  rw [highGo]
  rcases List.mem_cons.1 hb with rfl | hb
  ·rw [qf (by rw [qg h1,h2,h3];rfl)];exact List.mem_cons_self ..
  ·have ih:=jkY hb h1 h2 h3
   split
   ·exact List.mem_cons_self ..
   ·exact qi _ ih
theorem jdQ {node:Int} {t:Trust} {l:List Evp} {p q:Bal} {w:Str}:∀ {ns:List Int} {b:Bal},(∀ n∈ns,1≤n)→1≤b.n→1≤(bestN node t l p q w ns b).n
 | [],b,_,h=>h
 | n::r,b,hn,h=>by
  rw [bestN]
  apply jdQ (fun x hx=>hn x (qi _ hx))
  split
  ·exact hn n (List.mem_cons_self ..)
  ·exact h
theorem jmq {node:Int} {t:Trust} {l:List Evp} {p q:Bal} {w:Str} {k:Int}:∀ {ns:List Int} {b:Bal},(∀ n∈ns,1≤n)→(b=Bal.none∨1≤b.n)→k∈ns→freeV p q k w=true→acc26 node t l w k k=true→1≤(bestN node t l p q w ns b).n
 | n::r,b,hn,hb,hk,h1,h2=>by
  rw [bestN]
  have hn':∀ x∈r,1≤x:=fun x hx=>hn x (qi _ hx)
  have hn1:=hn n (List.mem_cons_self ..)
  rcases List.mem_cons.1 hk with rfl | hk
  ·rcases hb with rfl | hb
   ·rw [h1,h2,show lB Bal.none ⟨k,w⟩=true by rw [jlZ,qe (by show ¬ (0:Int)=k;omega)];exact qg (by show (0:Int)<k;omega),qf (by decide)]
    exact jdQ hn' hn1
   ·refine jdQ hn' ?_
    split
    ·exact hn1
    ·exact hb
  ·refine jmq hn' ?_ hk h1 h2
   split
   ·exact .inr hn1
   ·exact hb
theorem jjZ {node:Int} {t:Trust} {l:List Evp} {p q:Bal}:∀ {vs:List Str} {b:Bal},1≤b.n→1≤(bestS node t l p q vs b).n
 | [],b,h=>h
 | w::r,b,h=>by
  rw [bestS]
  exact jjZ (jdQ (fun n hn=>(jaU l w n hn).1) h)
theorem jm6 {node:Int} {t:Trust} {l:List Evp} {p q:Bal} {w:Str}:∀ {ns:List Int} {b:Bal},(∀ n∈ns,1≤n)→(b=Bal.none∨1≤b.n)→bestN node t l p q w ns b=Bal.none∨1≤(bestN node t l p q w ns b).n
 | [],b,_,h=>h
 | n::r,b,hn,h=>by
  rw [bestN]
  apply jm6 (fun x hx=>hn x (qi _ hx))
  split
  ·exact .inr (hn n (List.mem_cons_self ..))
  ·exact h
theorem jnF {node:Int} {t:Trust} {l:List Evp} {p q:Bal} {w:Str} {k:Int}:∀ {vs:List Str} {b:Bal},(b=Bal.none∨1≤b.n)→w∈vs→k∈boundsV l w→freeV p q k w=true→acc26 node t l w k k=true→1≤(bestS node t l p q vs b).n
 | x::r,b,hb,hw,hk,h1,h2=>by
  rw [bestS]
  rcases List.mem_cons.1 hw with rfl | hw
  ·exact jjZ (jmq (fun n hn=>(jaU l _ n hn).1) hb hk h1 h2)
  ·exact jnF (jm6 (fun n hn=>(jaU l _ n hn).1) hb) hw hk h1 h2
theorem jub {node:Int} {t:Trust} {p q:Bal} {w:Str} {k:Int} (hw:w∈valuesV l) (hk:k∈boundsV l w) (h1:freeV p q k w=true) (h2:acc26 node t l w k k=true):(firstV node t l p q).2.2.2=true:=by
 have:=jnF (node:=node) (t:=t) (l:=l) (p:=p) (q:=q) (b:=Bal.none) (.inl rfl) hw hk h1 h2
 unfold firstV
 rw [qe (by rw [show bestV node t l p q=bestS node t l p q (valuesV l) Bal.none from rfl,jb5 this];decide)]
theorem jtS {node:Int} {t:Trust} {w:Str} {k:Int} (ns:List Int):k∈ns→cnf26 node t l w k k=true→(finGo node t l w ns).2.2=true:=by
 induction ns with
 | nil=>intro h;cases h
 | cons n r ih =>
  intro hk h
  cases hc:cnf26 node t l w n n with
  | true=>rw [jiz hc]
  | false =>
   rw [jjb hc]
   rcases List.mem_cons.1 hk with rfl | hk
   ·rw [h] at hc;cases hc
   ·exact ih hk h
theorem jpx {node:Int} {t:Trust} {w:Str} (ns:List Int):(finGo node t l w ns).2.2=true→(finGo node t l w ns).2.1∈ns:=by
 induction ns with
 | nil=>intro h;cases h
 | cons n r ih =>
  intro h
  cases hc:cnf26 node t l w n n with
  | true=>rw [jiz hc];exact List.mem_cons_self ..
  | false =>
   rw [jjb hc] at h ⊢
   exact qi _ (ih h)
end
structure NE (e:Evp):Prop where
 kind:¬ e.kind=3
 bal:e.bal.n=1
 prep:e.prep.n≤1
 low:¬ e.low=0→e.low=1∧e.high=1
def LE (e:Evp):Prop:=¬ e.low=0→e.low=1∧e.high=1
def Q2 (τ:Nat→Trust) (v:Str) (i:Nat) (l:List Evp):Prop:=∃ q,q<1024∧Qt τ q∧q.testBit i=true∧∀ j,¬ j=i→q.testBit j=true→∃ e∈l,e.node.toNat=j∧acR e v 1 1=true
structure W1 (τ:Nat→Trust) (v:Str) (i:Nat) (m:Mach):Prop where
 p1:m.phase=1→m.bal.n=1∧m.prep.n≤1∧m.conf.n≤1∧m.low=m.conf.n
 p2:m.phase=2→(m.low=1∧m.high=1)∧((m.prep.n=1∧m.bal.n=1)∨Q2 τ v i m.heard)
 p3:m.phase=3→m.low=1∧m.high=1
theorem juy (h:vE e=true) (hk:¬ e.kind=1):1≤e.low∧e.low≤e.high:=by
 unfold vE at h
 rw [qh] at h
 have h2:=h.2
 unfold kindE at h2
 rw [qe hk] at h2
 split at h2
 ·unfold rngE at h2
  simp only [qh,qm] at h2
  exact ⟨h2.2.2.2.2.1.1,h2.2.2.2.2.1.2.1⟩
 ·split at h2
  ·unfold rngE at h2
   simp only [qh,qm] at h2
   exact ⟨h2.2.2.2.1,h2.2.2.2.2.1⟩
  ·cases h2
section
variable {v:Str} {A:Nat} {τ:Nat→Trust} {i:Nat} {T:Nat→Trust→Prop}
theorem jmC (h:UE T v e) (hk:¬ e.kind=1) (hl:e.low=1):acR e v 1 1=true:=by
 have h1:=juy h.ok hk
 unfold acR
 rw [h.ok,qx hk,qg h.bal,qg (p:=e.low≤1) (by omega),qg (p:=(1:Int)≤e.high) (by omega)]
 simp
theorem UM.high1 (h:UM T v i m) (hp:m.phase=1):(envR m).high=m.conf.n:=by
 show (if m.phase=1 then (if (!zB m.conf&&cB m.conf m.bal)=true then m.conf.n else 0) else m.high)=_
 rw [qf hp]
 rcases h.confo with hc | hc
 ·rw [hc,qe (by rw [jax];simp)];rfl
 ·rw [jb5 hc.2,jsn hc.1 h.balv,qf (show (!false&&true)=true from rfl)]
theorem UM.high2 (hp:¬ m.phase=1):(envR m).high=m.high:=by
 show (if m.phase=1 then _ else m.high)=_
 rw [qe hp]
theorem UM.eprep (hp:¬ m.phase=3) (h:m.phase=1∨m.phase=2∨m.phase=3):(envR m).prep=m.prep:=by
 show (if m.phase=1∨m.phase=2 then m.prep else Bal.none)=_
 rw [qf (by omega)]
theorem W1.own_le (h:UM T v i m) (w:W1 τ v i m):LE (envR m):=by
 intro h0
 have h0:¬ m.low=0:=h0
 have e:(envR m).low=m.low:=rfl
 rw [e]
 rcases h.ph with hp | hp | hp
 ·have h1:=w.p1 hp
  have hl:=h.inv.inv.low
  rw [h.high1 hp]
  omega
 ·rw [UM.high2 (by omega)];exact (w.p2 hp).1
 ·rw [UM.high2 (by omega)];exact w.p3 hp
theorem UM.bounds1 (h:UM T v i m) (ho:LE (envR m)) (hl:∀ e∈m.heard,LE e):∀ n∈boundsV (allM m) v,n=1:=by
 intro n hn
 obtain ⟨e,he,_,_,h0,h1⟩:=jeL.1 hn
 have:LE e:=by
  rcases jeq he with rfl | he
  ·rw [h.say_env];exact ho
  ·exact hl e he
 have h2:=this h0
 omega
theorem jo3 {node:Int} {a b:Nat} (hb:b=0) (hbl:blocksC V node ((0:Nat):Int)=false) (h:acceptsC V node (a:Int) (b:Int)=true):has (great V (a:Nat):Nat) node=true:=by
 subst hb
 unfold acceptsC at h
 rw [hbl,Bool.false_or] at h
 simp only [qh] at h
 have:=h.2.2
 simpa using this
theorem UM.beyond (h:UM (TA A τ) v i m) (hτ:∀ j,A.testBit j=true→validT (τ j)=0) (hN:∀ e∈m.heard,NE e) (hp:¬ m.phase=3) (h1:m.phase=1→m.bal.n=1) (h2:m.prep.n≤1) (hb:b.v=v) (hb1:1<b.n)
 (ha:acc25 m.node m.t (allM m) b=true):m.phase=2∧Q2 τ v i m.heard:=by
 have hap:∀ e∈allM m,apR e b=false:=fun e he=>by
  have hu:=h.all e he
  have hk:¬ e.kind=3∧e.prep.n≤1:=by
   rcases jeq he with rfl | he
   ·rw [h.say_env]
    exact ⟨hp,by rw [UM.eprep hp h.ph];exact h2⟩
   ·exact ⟨(hN e he).kind,(hN e he).prep⟩
  unfold apR
  rw [qe hk.1,hu.prime,jsd hu.prep hb (by omega),qx (by omega)]
  simp
 unfold acc25 at ha
 have hg:=jo3 (jc0 hap) (h.noblock hτ) ha
 obtain ⟨q,hq,hQ,hi,hs,_⟩:=h.great_out (jdJ _ _) hg
 have hv:∀ j,q.testBit j=true→∃ e∈allM m,e.node.toNat=j∧vpR e b=true:=fun j hj=>by
  obtain ⟨e,he,⟨h3,_⟩,h4⟩:=jcE.1 (hs j hj)
  rw [hap e he,Bool.false_or] at h3
  exact ⟨e,he,h4,h3⟩
 have hvk:∀ e,UE (TA A τ) v e→vpR e b=true→e.kind=1→b.n≤e.bal.n:=fun e hu h3 hk=>by
  unfold vpR at h3
  rw [qf hk,jh2 hu.balb hb (by omega)] at h3
  simp only [qh,qm] at h3
  exact h3.2
 have hp2:m.phase=2:=by
  obtain ⟨e,he,h3,h4⟩:=hv i hi
  rw [h.own he h3] at h4
  refine Classical.byContradiction fun hn=>?_
  have h5:m.phase=1:=by have:=h.ph;omega
  have h6:b.n≤m.bal.n:=hvk _ h.env_ue h4 h5
  have:=h1 h5
  omega
 refine ⟨hp2,q,hq,hQ,hi,fun j hj hqj=>?_⟩
 obtain ⟨e,he,h3,h4⟩:=hv j hqj
 have heh:e∈m.heard:=by
  rcases jeq he with rfl | he
  ·have:=h.node
   exact qo (show m.node.toNat=j from h3) (by omega)
  ·exact he
 have hn:=hN e heh
 have hu:=h.all e he
 have hk:¬ e.kind=1:=fun hk=>by
  have:=hvk e hu h4 hk
  have:=hn.bal
  omega
 have hl:=juy hu.ok hk
 exact ⟨e,heh,h3,jmC hu hk (hn.low (by omega)).1⟩
theorem W1.prepM (h:UM (TA A τ) v i m) (hτ:∀ j,A.testBit j=true→validT (τ j)=0) (hN:∀ e∈m.heard,NE e) (w:W1 τ v i m):W1 τ v i (prepM m):=by
 by_cases hp:m.phase=3
 ·have:Tq.prepM m=m:=by unfold Tq.prepM;rw [qf (.inl hp)]
  rw [this];exact w
 ·rw [h.prep_eq hp]
  have key:m.prep.n≤1→(prepB m).n≤1∨(m.phase=2∧Q2 τ v i m.heard):=fun h2=>by
   refine Classical.byContradiction fun hn=>?_
   have hn1:¬ (prepB m).n≤1:=fun h'=>hn (.inl h')
   rcases jch m.node m.t (allM m) m.prep m.prime (if m.phase=2 then m.bal.v else noS) (ballotsV (allM m)) with h3 | ⟨h3,_,h4⟩
   ·refine hn1 ?_
    show (finB1 (nextV m.node m.t (allM m) m.prep m.prime (if m.phase=2 then m.bal.v else noS))).n≤1
    unfold nextV
    rw [h3];decide
   ·have hb:=jcd h.all _ h3
    refine hn (.inr (h.beyond hτ hN hp (fun h'=>(w.p1 h').1) h2 hb.1 ?_ h4))
    have hf:=(jpB (v:=v) (.inr hb)).2.2
    have e:(prepB m).n=min (nextGo m.node m.t (allM m) m.prep m.prime (if m.phase=2 then m.bal.v else noS) (ballotsV (allM m))).n 1000:=hf
    omega
  refine ⟨fun h1=>?_,fun h1=>?_,fun h1=>qo h1 hp⟩
  ·have h1:m.phase=1:=h1
   have w1:=w.p1 h1
   refine ⟨w1.1,?_,w1.2.2⟩
   show (prepN m).n≤1
   unfold Tq.prepN
   rcases key w1.2.1 with k | k
   ·split<;>omega
   ·omega
  ·have h1:m.phase=2:=h1
   have w2:=w.p2 h1
   refine ⟨w2.1,?_⟩
   rcases w2.2 with h2 | h2
   ·rcases key (by omega) with k | k
    ·left
     refine ⟨?_,h2.2⟩
     show (prepN m).n=1
     unfold Tq.prepN
     split<;>omega
    ·exact .inr k.2
   ·exact .inr h2
theorem W1.confS (h:UM (TA A τ) v i m) (w:W1 τ v i m):W1 τ v i (confS m):=by
 by_cases hp:m.phase=1
 ·cases hz:zB (confB m) with
  | true =>
   have:Tq.confS m=m:=by unfold Tq.confS;rw [qe (by rw [h.zb];simp [hp]),qf hz]
   rw [this];exact w
  | false =>
   obtain ⟨hb,hb2,hb3,hb4⟩:=h.confB hz
   have w1:=w.p1 hp
   have hb5:=hb4 (.inl hp)
   rw [h.conf_eq hp hz]
   refine ⟨fun _=>⟨?_,w1.2.1,?_,?_⟩,fun h1=>qo (show m.phase=2 from h1) (by omega),fun h1=>qo (show m.phase=3 from h1) (by omega)⟩
   ·show (if m.bal.n<(Tq.confB m).n then Tq.confB m else m.bal).n=1
    split<;>omega
   ·show (Tq.confB m).n≤1;omega
   ·show (if m.low=0∧m.bal.n≤(Tq.confB m).n then (Tq.confB m).n else m.low)=(Tq.confB m).n
    have h0:=h.confo.n0
    rw [qf (by omega)]
 ·have:Tq.confS m=m:=by unfold Tq.confS;rw [qf (.inl hp)]
  rw [this];exact w
theorem UM.com1 (h:UM T v i m) (ho:LE (envR m)) (hl:∀ e∈m.heard,LE e) (hf:(Tq.comF m).2.2.2=true):(Tq.comF m).2.1=1∧(Tq.comF m).2.2.1=1:=by
 have h1:=h.comF hf
 have h2:(Tq.comF m).2.2.1=1:=by
  unfold Tq.comF firstV at hf ⊢
  split at hf
  ·cases hf
  ·rename_i hz
   rw [qe hz]
   rcases jl4 m.node m.t (allM m) m.prep m.prime with e | ⟨a1,a2,_⟩
   ·rw [e] at hz;exact qo jax hz
   ·rw [jjV h.all _ a1] at a2
    exact h.bounds1 ho hl _ a2
 omega
theorem jrZ {ok:Int→Bool} {l:List Int} (h:∀ x∈l,x=1):lowGo ok l 1=1:=by
 induction l with
 | nil=>rfl
 | cons x r ih =>
  rw [lowGo,qf (by rw [h x (List.mem_cons_self ..)];exact Int.le_refl _)]
  exact ih (fun y hy=>h y (qi _ hy))
theorem UM.ext1 (h:UM T v i m) (ho:LE (envR m)) (hl:∀ e∈m.heard,LE e) (h1:m.low=1∧m.high=1):comX m=(1,1):=by
 have hb:∀ x∈(boundsV (allM m) m.bal.v).reverse,x=1:=fun x hx=>by
  rw [h.balv] at hx
  exact h.bounds1 ho hl x (List.mem_reverse.1 hx)
 have he:extGo m.node m.t (allM m) m.bal.v (boundsV (allM m) m.bal.v).reverse (m.low,m.high)=(1,1):=by
  rw [h1.1,h1.2]
  cases hr:(boundsV (allM m) m.bal.v).reverse with
  | nil=>rfl
  | cons x r =>
   rw [jhe]
   rw [hb x (by rw [hr];exact List.mem_cons_self ..)];decide
 unfold comX extendV
 rw [he]
 show (downV m.node m.t (allM m) m.bal.v 1 1,(1:Int))=(1,1)
 unfold downV
 rw [jrZ hb]
theorem W1.comM (h:UM (TA A τ) v i m) (hN:∀ e∈m.heard,LE e) (w:W1 τ v i m):W1 τ v i (comM m):=by
 have ho:=w.own_le h
 by_cases hp:m.phase=1
 ·by_cases hf:(comF m).2.2.2=true
  ·have hc:=h.com1 ho hN hf
   have hv:=(h.comF hf).1
   have w1:=w.p1 hp
   have hbv:(comB m).v=v:=hv
   have hbn:(comB m).n=1:=hc.2
   unfold Tq.comM
   rw [qf hp,qf hf]
   refine ⟨fun h1=>qo (show (2:Int)=1 from h1) (by omega),fun _=>⟨hc,.inl ⟨?_,?_⟩⟩,fun h1=>qo (show (2:Int)=3 from h1) (by omega)⟩
   ·show (if covB m.prep (comB m)=true then m.prep else comB m).n=1
    split
    ·rename_i hcv
     rw [jh2 h.prepo hbv (by omega)] at hcv
     have:=qc hcv
     omega
    ·exact hbn
   ·show (if (!cB m.bal (comB m)||lB m.bal (comB m))=true then (⟨max m.bal.n (comB m).n,(comB m).v⟩:Bal) else m.bal).n=1
    split
    ·show max m.bal.n (comB m).n=1;omega
    ·exact w1.1
  ·have:Tq.comM m=m:=by unfold Tq.comM;rw [qf hp,qe hf]
   rw [this];exact w
 ·by_cases hp2:m.phase=2
  ·have w2:=w.p2 hp2
   have hx:=h.ext1 ho hN w2.1
   have hb:=h.baln
   unfold Tq.comM
   rw [qe hp,qf hp2,hx]
   refine ⟨fun h1=>qo h1 hp,fun _=>⟨⟨rfl,rfl⟩,?_⟩,fun h1=>qo (show m.phase=3 from h1) (by omega)⟩
   rcases w2.2 with h2 | h2
   ·exact .inl ⟨by show max m.prep.n 1=1;omega,by show max m.bal.n 1=1;omega⟩
   ·exact .inr h2
  ·have:Tq.comM m=m:=by unfold Tq.comM;rw [qe hp,qe hp2]
   rw [this];exact w
theorem UM.fin1 (h:UM T v i m) (ho:LE (envR m)) (hl:∀ e∈m.heard,LE e) (hf:(finF m).2.2=true):(finF m).1=1∧(finF m).2.1=1:=by
 have h1:=jiQ hf
 have h2:=jnL hf
 have h3:(finF m).2.1=1:=by
  have:=jpx _ hf
  rw [h.balv] at this
  have h4:=h.bounds1 ho hl _ (List.mem_reverse.1 this)
  rw [← h4]
  unfold finF finalB
  rw [h.balv]
 refine ⟨?_,h3⟩
 have h4:1≤(finF m).1:=h1.1.1
 have h5:(finF m).1≤(finF m).2.1:=h2
 omega
theorem W1.finM (h:UM (TA A τ) v i m) (hN:∀ e∈m.heard,LE e) (w:W1 τ v i m):W1 τ v i (finM m):=by
 by_cases hp:m.phase=2
 ·by_cases hf:(finF m).2.2=true
  ·have h1:=h.fin1 (w.own_le h) hN hf
   unfold Tq.finM
   rw [qe (fun h'=>h' hp),qf hf]
   exact ⟨fun h1=>qo (show (3:Int)=1 from h1) (by omega),fun h1=>qo (show (3:Int)=2 from h1) (by omega),fun _=>h1⟩
  ·have:Tq.finM m=m:=by unfold Tq.finM;rw [qe (fun h'=>h' hp),qe hf]
   rw [this];exact w
 ·have:Tq.finM m=m:=by unfold Tq.finM;rw [qf hp]
  rw [this];exact w
theorem UM.noahead (h:UM (TA A τ) v i m) (hτ:∀ j,A.testBit j=true→validT (τ j)=0) {n:Int} (hN:∀ e∈m.heard,cntR e≤n):aheadV m n=false:=by
 unfold aheadV
 rw [jc0 (fun e he=>qx (by have:=hN e he;omega))]
 exact h.noblock hτ
theorem NE.cnt (h:NE e):cntR e≤1:=by
 unfold cntR cntE
 rw [qe h.kind,h.bal]
 split<;>omega
theorem W1.cauM (h:UM (TA A τ) v i m) (hτ:∀ j,A.testBit j=true→validT (τ j)=0) (hN:∀ e∈m.heard,NE e) (w:W1 τ v i m):cauM m=m:=by
 unfold Tq.cauM
 rw [qf (.inr (h.noahead hτ (fun e he=>by have:=(hN e he).cnt;have:=h.baln;omega)))]
theorem W1.stepG (h:UM (TA A τ) v i m) (hτ:∀ j,A.testBit j=true→validT (τ j)=0) (hN:∀ e∈m.heard,NE e) (w:W1 τ v i m):W1 τ v i (stepG m):=by
 unfold Tq.stepG
 split
 ·exact w.prepM h hτ hN
 split
 ·exact w.confS h
 split
 ·exact w.comM h (fun e he=>(hN e he).low)
 split
 ·exact w.finM h (fun e he=>(hN e he).low)
 ·rw [w.cauM h hτ hN];exact w
theorem W1.rest (h:UM (TA A τ) v i m) (hτ:∀ j,A.testBit j=true→validT (τ j)=0) (hN:∀ e∈m.heard,NE e) (w:W1 τ v i m):W1 τ v i (restM m):=by
 have:=jjp (P:=fun c=>(UM (TA A τ) v i c∧c.heard=m.heard)∧W1 τ v i c) (fun c hc ⟨⟨h1,h2⟩,h3⟩=>⟨⟨h1.stepG,((jbo hc).1.heard).trans h2⟩,h3.stepG h1 hτ (by rw [h2];exact hN)⟩) h.inv.inv ⟨⟨h,rfl⟩,w⟩
 exact this.2
end
def bal1 (v:Str):Bal:=⟨1,v⟩
section
variable {v:Str} {A:Nat} {τ:Nat→Trust} {i:Nat} {T:Nat→Trust→Prop}
def Said (p:Evp→Bool) (q i:Nat) (l:List Evp):Prop:=∀ j,¬ j=i→q.testBit j=true→∃ e∈l,e.node.toNat=j∧p e=true
theorem UM.said (h:UM T v i m) {p:Evp→Bool} (hs:Said p q i m.heard) (ho:q.testBit i=true→p (envR m)=true):∀ j,q.testBit j=true→∃ e∈allM m,e.node.toNat=j∧p e=true:=by
 intro j hj
 by_cases e:j=i
 ·subst e
  exact ⟨envR m,h.own_all,by have:=h.node;show m.node.toNat=j;omega,ho hj⟩
 ·obtain ⟨x,hx,h1,h2⟩:=hs j e hj
  exact ⟨x,h.heard_all hx,h1,h2⟩
theorem juv {node:Int} {a b:Nat} (ha:a<1024) (hb:b<1024) (hs:∀ k,b.testBit k=true→a.testBit k=true) (h:has (great V (a:Nat):Nat) node=true):acceptsC V node (a:Int) (b:Int)=true:=by
 unfold acceptsC
 have e:a|||b=a:=Nat.eq_of_testBit_eq fun k=>by
  rw [Nat.testBit_or]
  cases hbk:b.testBit k with
  | false=>simp
  | true=>rw [hs k hbk];rfl
 rw [ja4.2 ⟨by omega,by omega⟩,ja4.2 ⟨by omega,by omega⟩,qr,qr,e,h]
 simp
theorem jjN {p p':Evp→Bool} (h:∀ e,p e=true→p' e=true):∀ k,(setP p l).testBit k=true→(setP p' l).testBit k=true:=fun k hk=>by
 obtain ⟨e,he,⟨h1,h2⟩,h3⟩:=jcE.1 hk
 exact jcE.2 ⟨e,he,⟨h e h1,h2⟩,h3⟩
def vote1 (v:Str) (e:Evp):Bool:=apR e (bal1 v)||vpR e (bal1 v)
theorem UE.vote (h:UE T v e):vote1 v e=true:=by
 unfold vote1 vpR
 have hb:=(jm1 h.ok).1
 rw [h.ok,show zB (bal1 v)=false from jb5 (by show (1:Int)≤1;omega)]
 by_cases hk:e.kind=1
 ·rw [qf hk,jh2 h.balb rfl (by show (1:Int)≤1;omega),qg (by show (1:Int)≤e.bal.n;omega)]
  simp
 ·rw [qe hk,show cB e.bal (bal1 v)=true from jsn h.bal rfl]
  simp
theorem UE.ap (h:UE T v e) (hk:¬ e.kind=3):apR e (bal1 v)=decide (1≤e.prep.n):=by
 unfold apR
 rw [h.ok,show zB (bal1 v)=false from jb5 (by show (1:Int)≤1;omega),qe hk,h.prime,jsd h.prep rfl (by show (1:Int)≤1;omega)]
 rfl
theorem UM.bal_in (h:UM T v i m) (hp:m.phase=1) (hb:m.bal.n=1):bal1 v∈ballotsV (allM m):=by
 refine jgS.2 ⟨envR m,h.own_all,h.env_ue.ok,?_,jb5 (by show (1:Int)≤1;omega)⟩
 unfold ownB
 rw [qf (show (envR m).kind=1 from hp)]
 have:(envR m).bal=bal1 v:=jeH hb h.balv
 rw [this];exact List.mem_cons_self ..
theorem jys (h:UM (TA A τ) v i m) (hr:AtRest m) (hb:m.phase=1→m.bal.n=1) (hq:q<1024) (hQ:Qt τ q) (hi:q.testBit i=true) (hs:Said (vote1 v) q i m.heard):m.phase=3∨1≤m.prep.n:=by
 rcases h.ph with hp | hp | hp
 ·right
  refine Classical.byContradiction fun hn=>?_
  have hp3:¬ m.phase=3:=by omega
  have h0:m.prep=Bal.none:=h.prepo.zero (by have:=h.prepo.n0;omega)
  have hg:=h.great_in hq hQ hi (h.said hs (fun _=>h.env_ue.vote))
  have ha:acc25 m.node m.t (allM m) (bal1 v)=true:=juv (jdJ _ _) (jdJ _ _) (jjN (fun e he=>by rw [he];rfl)) hg
  have hin:=jj8 (node:=m.node) (t:=m.t) (l:=allM m) (p:=m.prep) (q:=m.prime) (w:=if m.phase=2 then m.bal.v else noS) (h.bal_in hp (hb hp)) (by
   rw [qe (by omega),h0,h.prime,qg (rfl:noS=noS)]
   rw [show raiseB Bal.none=Bal.none from rfl,jqW];rfl) ha
  have hb2:=jcd h.all _ hin
  have hf:=(jpB (v:=v) (.inr hb2)).2.2
  have e:(prepB m).n=min (nextGo m.node m.t (allM m) m.prep m.prime (if m.phase=2 then m.bal.v else noS) (ballotsV (allM m))).n 1000:=hf
  have h1:=hr.prep
  rw [h.prep_eq hp3] at h1
  have h2:(prepN m).n=m.prep.n:=by
   have:({ m with prep:=prepN m }:Mach).prep.n=m.prep.n:=by rw [h1]
   exact this
  unfold prepN at h2
  split at h2<;>omega
 ·right;exact (h.p2 hp).1.2.1
 ·exact .inl hp
theorem jyl (h:UM (TA A τ) v i m) (hr:AtRest m) (hp:m.phase=1) (hb:m.bal.n=1) (hpr:1≤m.prep.n) (hq:q<1024) (hQ:Qt τ q) (hi:q.testBit i=true) (hs:Said (fun e=>apR e (bal1 v)) q i m.heard):1≤m.conf.n:=by
 refine Classical.byContradiction fun hn=>?_
 have h0:m.conf=Bal.none:=h.confo.zero (by have:=h.confo.n0;omega)
 have hg:=h.great_in hq hQ hi (h.said hs (fun _=>by
  show apR (envR m) (bal1 v)=true
  rw [h.env_ue.ap (by show ¬ m.phase=3;omega),UM.eprep (by omega) h.ph]
  exact qg hpr))
 have hin:=jkY (node:=m.node) (t:=m.t) (l:=allM m) (a:=m.conf) (h.bal_in hp hb) (by show (1:Int)≤1000;omega) (by rw [h0,jlZ,qe (by show ¬ (0:Int)=1;omega)];rfl) hg
 have hb2:=jcd h.all _ hin
 have hz:zB (confB m)=false:=jb5 hb2.2
 have h1:=hr.conf
 rw [h.conf_eq hp hz] at h1
 have h2:(confB m).n=m.conf.n:=by
  have:({ m with conf:=confB m,bal:=(if m.bal.n<(confB m).n then confB m else m.bal),low:=(if m.low=0∧m.bal.n≤(confB m).n then (confB m).n else m.low) }:Mach).conf.n=m.conf.n:=by rw [h1]
  exact this
 have h3:1≤(confB m).n:=hb2.2
 omega
def com1 (v:Str) (e:Evp):Bool:=acR e v 1 1||vcR e v 1 1
theorem far4 (h:UM (TA A τ) v i m) (hr:AtRest m) (hp:m.phase=1) (hq:q<1024) (hQ:Qt τ q) (hi:q.testBit i=true) (hs:Said (com1 v) q i m.heard) (hl:m.low=1) (hc:1≤m.conf.n):False:=by
 have hhi:(envR m).high=m.conf.n:=h.high1 hp
 have hown:com1 v (envR m)=true:=by
  unfold com1 vcR
  rw [h.env_ue.ok,qg h.env_ue.bal,hhi]
  show (acR (envR m) v 1 1||((true&&(decide ((1:Int)≤1)&&(decide ((1:Int)≤1)&&(true&&(!decide (m.low=0)&&decide (m.low≤1))))))&&(!decide ((envR m).kind=1)||decide (1≤m.conf.n))))=true
  rw [hl,qg hc];simp
 have hg:=h.great_in hq hQ hi (h.said hs (fun _=>hown))
 have ha:acc26 m.node m.t (allM m) v 1 1=true:=juv (jdJ _ _) (jdJ _ _) (jjN (fun e he=>by rw [he];rfl)) hg
 have hv:v∈valuesV (allM m):=jia.2 ⟨envR m,h.own_all,h.env_ue.ok,h.env_ue.bal.symm⟩
 have hbd:(1:Int)∈boundsV (allM m) v:=jeL.2 ⟨envR m,h.own_all,h.env_ue.ok,h.env_ue.bal,by show ¬ m.low=0;omega,.inl hl.symm⟩
 have hf:(comF m).2.2.2=true:=by
  unfold comF
  refine jub hv hbd ?_ ha
  rw [h.prime];exact jvC h.prepo
 have h1:=hr.com
 have h2:(comM m).phase=2:=by unfold comM;rw [qf hp,qf hf]
 rw [h1] at h2
 omega
theorem jyt (h:UM (TA A τ) v i m) (hr:AtRest m) (hp:m.phase=2) (hl:m.low=1) (hq:q<1024) (hQ:Qt τ q) (hi:q.testBit i=true) (hs:Said (fun e=>acR e v 1 1) q i m.heard):False:=by
 have hg:=h.great_in hq hQ hi (h.said hs (fun _=>jmC h.env_ue (by show ¬ m.phase=1;omega) hl))
 have hbd:(1:Int)∈boundsV (allM m) v:=jeL.2 ⟨envR m,h.own_all,h.env_ue.ok,h.env_ue.bal,by show ¬ m.low=0;omega,.inl hl.symm⟩
 have hf:(finF m).2.2=true:=by
  unfold finF finalB
  rw [h.balv]
  exact jtS _ (List.mem_reverse.2 hbd) hg
 have h1:=hr.fin
 have h2:(finM m).phase=3:=by unfold finM;rw [qe (fun h'=>h' hp),qf hf]
 rw [h1] at h2
 omega
theorem Q2.far (h:UM (TA A τ) v i m) (hr:AtRest m) (hp:m.phase=2) (hl:m.low=1) (hq:Q2 τ v i m.heard):False:=by
 obtain ⟨q,h1,h2,h3,h4⟩:=hq
 exact jyt h hr hp hl h1 h2 h3 h4
theorem W1.ne (h:UM (TA A τ) v i m) (w:W1 τ v i m) (hr:AtRest m) (hp:¬ m.phase=3):NE (envR m)∧(m.phase=2→m.prep.n=1∧m.bal.n=1):=by
 have h2:m.phase=2→m.prep.n=1∧m.bal.n=1:=fun hp2=>by
  have w2:=w.p2 hp2
  rcases w2.2 with h3 | h3
  ·exact h3
  ·exact (Q2.far h hr hp2 w2.1.1 h3).elim
 refine ⟨⟨hp,?_,?_,w.own_le h⟩,h2⟩
 ·rcases h.ph with h1 | h1 | h1
  ·exact (w.p1 h1).1
  ·exact (h2 h1).2
  ·exact qo h1 hp
 ·rw [UM.eprep hp h.ph]
  rcases h.ph with h1 | h1 | h1
  ·exact (w.p1 h1).2.1
  ·have:=(h2 h1).1;omega
  ·exact qo h1 hp
def W5 (m:Mach):Prop:=(m.phase=2∨m.phase=3)∧m.low=1∧m.high=1
theorem W5.own_le (w:W5 m):LE (envR m):=fun _=>by
 rw [UM.high2 (by have:=w.1;omega)];exact w.2
theorem W5.stepG (h:UM T v i m) (w:W5 m) (hl:∀ e∈m.heard,LE e):W5 (stepG m):=by
 have ho:=w.own_le
 have hprep:W5 (prepM m):=by
  by_cases hp:m.phase=3
  ·have:prepM m=m:=by unfold prepM;rw [qf (.inl hp)]
   rw [this];exact w
  ·rw [h.prep_eq hp];exact w
 have hconf:confS m=m:=by unfold confS;rw [qf (.inl (by have:=w.1;omega))]
 have hcom:W5 (comM m):=by
  rcases w.1 with hp | hp
  ·unfold comM
   rw [qe (by omega),qf hp,h.ext1 ho hl w.2]
   exact ⟨.inl hp,rfl,rfl⟩
  ·have:comM m=m:=by unfold comM;rw [qe (by omega),qe (by omega)]
   rw [this];exact w
 have hfin:W5 (finM m):=by
  rcases w.1 with hp | hp
  ·by_cases hf:(finF m).2.2=true
   ·have h1:=h.fin1 ho hl hf
    unfold finM
    rw [qe (fun h'=>h' hp),qf hf]
    exact ⟨.inr rfl,h1⟩
   ·have:finM m=m:=by unfold finM;rw [qe (fun h'=>h' hp),qe hf]
    rw [this];exact w
  ·have:finM m=m:=by unfold finM;rw [qf (by omega)]
   rw [this];exact w
 have hcau:W5 (cauM m):=by
  by_cases hc:m.phase=3∨aheadV m m.bal.n=false
  ·have:cauM m=m:=by unfold cauM;rw [qf hc]
   rw [this];exact w
  ·rw [h.cau_eq hc];exact w
 unfold Tq.stepG
 split
 ·exact hprep
 split
 ·rw [hconf];exact w
 split
 ·exact hcom
 split
 ·exact hfin
 ·exact hcau
theorem W5.rest (h:UM T v i m) (w:W5 m) (hl:∀ e∈m.heard,LE e):W5 (restM m):=by
 have:=jjp (P:=fun c=>(UM T v i c∧c.heard=m.heard)∧W5 c) (fun c hc ⟨⟨h1,h2⟩,h3⟩=>⟨⟨h1.stepG,((jbo hc).1.heard).trans h2⟩,h3.stepG h1 (by rw [h2];exact hl)⟩) h.inv.inv ⟨⟨h,rfl⟩,w⟩
 exact this.2
end
theorem jqh {a b:Pcl}:befV a b=true↔a.due<b.due∨(a.due=b.due∧(a.src<b.src∨(a.src=b.src∧(a.dst<b.dst∨(a.dst=b.dst∧a.num<b.num))))):=by
 unfold befV
 split
 ·rw [decide_eq_true_iff];omega
 ·split
  ·rw [decide_eq_true_iff];omega
  ·split
   ·rw [decide_eq_true_iff];omega
   ·rw [decide_eq_true_iff];omega
theorem jjF {a b c:Pcl} (h:befV a b=true) (k:befV b c=true):befV a c=true:=by
 rw [jqh] at *;omega
theorem jgg {n:Ntw}:∀ (l:List Pcl) (q:Option Pcl),pclGo n q l=true↔(∀ p∈l,pclOk n p=true)∧l.Pairwise (fun a b=>befV a b=true)∧(∀ x,q=some x→∀ p∈l,befV x p=true)
 | [],q=>by simp [pclGo]
 | x::r,q=>by
  have ih:=jgg (n:=n) r (some x)
  have e1:pclGo n q (x::r)=true↔pclOk n x=true∧(∀ y,q=some y→befV y x=true)∧pclGo n (some x) r=true:=by
   cases q with
   | none=>simp [pclGo]
   | some y=>simp [pclGo,and_assoc]
  rw [e1,ih,List.pairwise_cons]
  constructor
  ·rintro ⟨h1,h2,h3,h4,h5⟩
   refine ⟨fun e he=>?_,⟨fun e he=>h5 _ rfl e he,h4⟩,fun y hy e he=>?_⟩
   ·rcases List.mem_cons.1 he with rfl | he
    ·exact h1
    ·exact h3 e he
   ·rcases List.mem_cons.1 he with rfl | he
    ·exact h2 y hy
    ·exact jjF (h2 y hy) (h5 _ rfl e he)
  ·rintro ⟨h1,⟨h2,h3⟩,h4⟩
   exact ⟨h1 x (List.mem_cons_self ..),fun y hy=>h4 y hy x (List.mem_cons_self ..),fun e he=>h1 e (qi _ he),h3,fun y hy e he=>by cases hy;exact h2 e he⟩
theorem jhq {p:Pcl} {l:List Pcl}:∀ i,i≤l.length→(∀ j,frontGo p l i≤j→j<i→∃ x,l[j]?=some x∧befV p x=true)∧(0<frontGo p l i→∃ x,l[frontGo p l i - 1]?=some x∧befV p x=false)
 | 0,_=>⟨fun j _ h=>by omega,fun h=>by simp [frontGo] at h⟩
 | i+1,hi=>by
  have hx:=List.getElem?_eq_getElem (show i<l.length by omega)
  unfold frontGo
  rw [hx]
  simp only
  by_cases hb:befV p l[i]=true
  ·rw [qf hb]
   have ih:=jhq (p:=p) (l:=l) i (by omega)
   refine ⟨fun j h1 h2=>?_,ih.2⟩
   by_cases e:j=i
   ·subst e;exact ⟨_,hx,hb⟩
   ·exact ih.1 j h1 (by omega)
  ·rw [qe hb]
   exact ⟨fun j h1 h2=>by omega,fun _=>⟨l[i],by rw [Nat.add_sub_cancel];exact hx,by simpa using hb⟩⟩
theorem joT {m:Ntw} {p:Pcl} (h:pclOk n p=true) (hn:n.next≤m.next):pclOk m p=true:=by
 unfold pclOk at *
 simp only [qh,qm] at h ⊢
 exact ⟨h.1,by omega⟩
theorem jo0 {p:Pcl} {l:List Pcl} (hs:l.Pairwise (fun a b=>befV a b=true)) (hn:∀ x∈l,x.num<p.num):(l.take (frontP p l)++[p]++l.drop (frontP p l)).Pairwise (fun a b=>befV a b=true):=by
 have hf:=jhq (p:=p) (l:=l) l.length (Nat.le_refl _)
 have hle:=jfT p l
 have hl:=hs
 rw [← List.take_append_drop (frontP p l) l,List.pairwise_append] at hl
 have h1:∀ x∈l.drop (frontP p l),befV p x=true:=fun x hx=>by
  obtain ⟨k,hk⟩:=List.getElem?_of_mem hx
  rw [List.getElem?_drop] at hk
  obtain ⟨y,hy,hb⟩:=hf.1 (frontP p l+k) (by show frontGo p l l.length≤frontGo p l l.length+k;omega) (List.getElem?_eq_some_iff.1 hk).1
  rw [hk] at hy;cases hy;exact hb
 have h2:∀ x∈l.take (frontP p l),befV x p=true:=fun x hx=>by
  obtain ⟨k,hk⟩:=List.getElem?_of_mem hx
  have hkl:=(List.getElem?_eq_some_iff.1 hk).1
  rw [List.length_take] at hkl
  rw [List.getElem?_take,qf (by omega)] at hk
  obtain ⟨y,hy,hb⟩:=hf.2 (by show 0<frontP p l;omega)
  have hyl:=qj hy
  have hyp:befV y p=true:=by
   have hn1:=hn y hyl
   have:¬ befV p y=true:=by rw [show befV p y=false from hb];decide
   rw [jqh] at this ⊢
   omega
  by_cases e:k=frontP p l - 1
  ·subst e
   have hy:l[frontP p l - 1]?=some y:=hy
   rw [hk] at hy;cases hy;exact hyp
  ·have:befV x y=true:=by
    have hy:l[frontP p l - 1]?=some y:=hy
    have hk2:=List.getElem?_eq_some_iff.1 hk
    have hy2:=List.getElem?_eq_some_iff.1 hy
    rw [List.pairwise_iff_getElem] at hs
    have:=hs k (frontP p l - 1) hk2.1 hy2.1 (by omega)
    rw [hk2.2,hy2.2] at this;exact this
   exact jjF this hyp
 rw [List.append_assoc,List.pairwise_append]
 refine ⟨hl.1,?_,fun a ha b hb=>?_⟩
 ·show (p::l.drop (frontP p l)).Pairwise _
  rw [List.pairwise_cons]
  exact ⟨h1,hl.2.1⟩
 ·have hb:b∈p::l.drop (frontP p l):=hb
  rcases List.mem_cons.1 hb with rfl | hb
  ·exact h2 a ha
  ·exact hl.2.2 a ha b hb
theorem jh7 (h1:n.pcs.length≤4000) (h2:0≤n.next∧n.next≤1000000000) (h3:partsV n.parts=true) (h4:n.dls=[]) (h5:pclGo n none n.pcs=true):checkNt n=true:=by
 unfold checkNt headNt
 rw [h3,h4,h5,qg (p:=n.pcs.length≤4000) h1,qg (p:=n.next≥0) h2.1,qg (p:=n.next≤1000000000) h2.2];rfl
theorem jvk {i:Nat} {l:Ltr} (hc:checkNt n=true) (hd:n.dls=[]) (hi:i<10) (hk:k<10) (hne:¬ i=k) (hn:0≤now∧now≤200) (hl:n.pcs.length<4000) (hx:n.next<1000000000) :
 (sendV n i k l now).2=0∧checkNt (sendV n i k l now).1=true∧(sendV n i k l now).1.dls=[]∧(sendV n i k l now).1.parts=n.parts∧(sendV n i k l now).1.pcs.length=n.pcs.length+1∧(sendV n i k l now).1.next=n.next+1∧(∀ x,x∈(sendV n i k l now).1.pcs↔x=⟨now+1,i,k,n.next,l⟩∨x∈n.pcs):=by
 obtain ⟨a1,a2,a3,_,_,a6⟩:=jbj hc
 have hnod:∀ j:Nat,j<10→nodeN (j:Int)=true:=fun j hj=>by
  unfold nodeN
  rw [qg (p:=(j:Int)≥0) (by omega),qg (p:=(j:Int)≤9) (by omega)];rfl
 have hnp:newPc n i k l now=⟨now+1,i,k,n.next,l⟩:=by unfold newPc delayV;rw [hd];rfl
 have e:sendV n i k l now=({ n with pcs:=n.pcs.take (frontP ⟨now+1,i,k,n.next,l⟩ n.pcs)++[⟨now+1,i,k,n.next,l⟩]++n.pcs.drop (frontP ⟨now+1,i,k,n.next,l⟩ n.pcs),next:=n.next+1 },0):=by
  unfold sendV
  rw [qe (by rw [hc];decide),qe (by rw [hnod i hi,hnod k hk];simp;omega),qe (by omega),qe (by omega),hnp]
 rw [e]
 have hle:=jfT (⟨now+1,i,k,n.next,l⟩:Pcl) n.pcs
 have hg:=(jgg n.pcs none).1 a6
 have hlen:(n.pcs.take (frontP ⟨now+1,i,k,n.next,l⟩ n.pcs)++[(⟨now+1,i,k,n.next,l⟩:Pcl)]++n.pcs.drop (frontP ⟨now+1,i,k,n.next,l⟩ n.pcs)).length=n.pcs.length+1:=by simp;omega
 have hmem:∀ x,x∈n.pcs.take (frontP ⟨now+1,i,k,n.next,l⟩ n.pcs)++[(⟨now+1,i,k,n.next,l⟩:Pcl)]++n.pcs.drop (frontP ⟨now+1,i,k,n.next,l⟩ n.pcs)↔x=⟨now+1,i,k,n.next,l⟩∨x∈n.pcs:=fun x=>by
  have e2:x∈n.pcs↔x∈n.pcs.take (frontP ⟨now+1,i,k,n.next,l⟩ n.pcs)∨x∈n.pcs.drop (frontP ⟨now+1,i,k,n.next,l⟩ n.pcs):=by rw [← List.mem_append,List.take_append_drop]
  rw [List.mem_append,List.mem_append,List.mem_singleton,e2]
  constructor
  ·rintro ((h | h) | h)
   ·exact .inr (.inl h)
   ·exact .inl h
   ·exact .inr (.inr h)
  ·rintro (h | h | h)
   ·exact .inl (.inr h)
   ·exact .inl (.inl h)
   ·exact .inr h
 refine ⟨rfl,jh7 ?_ ?_ a3 hd ?_,hd,rfl,hlen,rfl,hmem⟩
 ·show List.length _≤4000
  rw [hlen];omega
 ·show 0≤n.next+1∧n.next+1≤1000000000;omega
 ·refine (jgg _ none).2 ⟨fun p hp=>?_,?_,fun x hx=>by cases hx⟩
  ·rcases (hmem p).1 hp with rfl | hp
   ·unfold pclOk
    simp only [hnod i hi,hnod k hk,qh,qm,Bool.not_eq_true',decide_eq_false_iff_not,true_and]
    omega
   ·exact joT (hg.1 p hp) (by show n.next≤n.next+1;omega)
  ·refine jo0 hg.2.1 (fun x hx=>?_)
   have:=hg.1 x hx
   unfold pclOk at this
   simp only [qh,qm] at this
   exact this.2
structure Snt (now:Int) (Q:Nat→Nat→Ltr→Prop) (n m:Ntw) (c:Nat):Prop where
 chk:checkNt m=true
 dls:m.dls=[]
 parts:m.parts=n.parts
 len:m.pcs.length≤n.pcs.length+c
 next:m.next≤n.next+c
 keep:∀ x∈n.pcs,x∈m.pcs
 only:∀ x∈m.pcs,x∈n.pcs∨(x.due=now+1∧∃ i k:Nat,x.src=i∧x.dst=k∧Q i k x.l)
 all:∀ i k l,Q i k l→∃ x∈m.pcs,x.src=(i:Int)∧x.dst=(k:Int)∧x.l=l
theorem Snt.none {Q:Nat→Nat→Ltr→Prop} {c:Nat} (hc:checkNt n=true) (hd:n.dls=[]) (hq:∀ i k l,¬ Q i k l):Snt now Q n n c :=
 ⟨hc,hd,rfl,by omega,by omega,fun x h=>h,fun x h=>.inl h,fun i k l h=>qo h (hq i k l)⟩
theorem Snt.fold {α:Type} {now:Int} {f:Ntw→α→Ntw} {Q:α→Nat→Nat→Ltr→Prop} {c:Nat}:∀ (l:List α) (n:Ntw),(∀ m x,x∈l→checkNt m=true→m.dls=[]→m.pcs.length+c≤3999→m.next+c≤999999999→Snt now (Q x) m (f m x) c) →
 checkNt n=true→n.dls=[]→n.pcs.length+c * l.length≤3999→n.next+((c * l.length:Nat):Int)≤999999999→Snt now (fun i k y=>∃ x∈l,Q x i k y) n (l.foldl f n) (c * l.length)
 | [],n,_,hc,hd,_,_=>Snt.none hc hd (fun i k y ⟨x,hx,_⟩=>qo hx qp)
 | x::r,n,hf,hc,hd,h1,h2=>by
  rw [qk,Nat.mul_add,Nat.mul_one] at h1 h2 ⊢
  have a:=hf n x (List.mem_cons_self ..) hc hd (by omega) (by omega)
  have al:=a.len
  have an:=a.next
  have b:=Snt.fold r (f n x) (fun m y hy=>hf m y (qi _ hy)) a.chk a.dls (by omega) (by omega)
  have bl:=b.len
  have bn:=b.next
  refine ⟨b.chk,b.dls,b.parts.trans a.parts,by rw [List.foldl_cons];omega,by rw [List.foldl_cons];omega,fun y hy=>b.keep y (a.keep y hy),fun y hy=>?_,fun i k y ⟨z,hz,hq⟩=>?_⟩
  ·rcases b.only y hy with h | ⟨h,i,k,h3,h4,z,hz,hq⟩
   ·rcases a.only y h with h | ⟨h,i,k,h3,h4,hq⟩
    ·exact .inl h
    ·exact .inr ⟨h,i,k,h3,h4,x,List.mem_cons_self ..,hq⟩
   ·exact .inr ⟨h,i,k,h3,h4,z,qi _ hz,hq⟩
  ·rcases List.mem_cons.1 hz with rfl | hz
   ·obtain ⟨w,hw,h3⟩:=a.all i k y hq
    exact ⟨w,b.keep w hw,h3⟩
   ·exact b.all i k y ⟨z,hz,hq⟩
theorem Snt.mono {Q R:Nat→Nat→Ltr→Prop} {m:Ntw} {c d:Nat} (h:Snt now Q n m c) (hq:∀ i k l,Q i k l↔R i k l) (hcd:c≤d):Snt now R n m d :=
 ⟨h.chk,h.dls,h.parts,by have:=h.len;omega,by have:=h.next;omega,h.keep,fun x hx=>(h.only x hx).imp_right fun ⟨a,i,k,b,c,e⟩=>⟨a,i,k,b,c,(hq _ _ _).1 e⟩,fun i k l hr=>h.all i k l ((hq _ _ _).2 hr)⟩
theorem jwq {i:Nat} {l:Ltr} (hi:i<10) (hk:k<10) (hn:0≤now∧now≤200) (hc:checkNt n=true) (hd:n.dls=[]) (hl:n.pcs.length+1≤3999) (hx:n.next+(1:Nat)≤999999999) :
 Snt now (fun a b y=>(a=i∧b=k∧y=l)∧¬ k=i) n (sndN now i l n k) 1:=by
 unfold sndN
 by_cases e:k=i
 ·rw [qf e];exact Snt.none hc hd (fun _ _ _ h=>h.2 e)
 ·rw [qe e]
  obtain ⟨s1,s2,s3,s4,s5,s6,s7⟩:=jvk (l:=l) hc hd hi hk (fun h=>e h.symm) hn (by omega) (by omega)
  rw [qf s1]
  refine ⟨s2,s3,s4,by omega,by omega,fun x hx=>(s7 x).2 (.inr hx),fun x hx=>?_,fun a b y ⟨⟨h1,h2,h3⟩,_⟩=>?_⟩
  ·rcases (s7 x).1 hx with rfl | hx
   ·exact .inr ⟨rfl,i,k,rfl,rfl,⟨rfl,rfl,rfl⟩,e⟩
   ·exact .inl hx
  ·subst h1;subst h2;subst h3
   exact ⟨_,(s7 _).2 (.inl rfl),rfl,rfl,rfl⟩
theorem jv5 {w:Wld} {i:Nat} (hi:i<w.nodes.length) (hw:w.nodes.length≤10) (hn:0≤now∧now≤200) (hlt:∀ p,w.nodes[i]?=some p→sickV w i=false→(lettersP p).length≤2) (hc:checkNt n=true) (hd:n.dls=[]) (hl:n.pcs.length+20≤3999) (hx:n.next+(20:Nat)≤999999999) :
 Snt now (fun a b y=>a=i∧b<w.nodes.length∧¬ b=i∧sickV w i=false∧∃ p,w.nodes[i]?=some p∧y∈lettersP p) n (outN now w n i) 20:=by
 unfold outN
 cases hs:sickV w i with
 | true=>rw [qf rfl];exact Snt.none hc hd (fun _ _ _ h=>by cases h.2.2.2.1)
 | false =>
  rw [qe (by decide)]
  have hp:=List.getElem?_eq_getElem hi
  rw [hp]
  have h2:=hlt _ hp hs
  have hm:∀ (c:Nat),w.nodes.length * c≤10 * c:=fun c=>Nat.mul_le_mul_right c hw
  have hlen:w.nodes.length * (lettersP w.nodes[i]).length≤20:=Nat.le_trans (hm _) (by omega)
  have key:=Snt.fold (now:=now) (f:=outL now w.nodes.length i) (Q:=fun l a b y=>∃ k∈List.range w.nodes.length,(a=i∧b=k∧y=l)∧¬ k=i) (c:=w.nodes.length) (lettersP w.nodes[i]) n (fun m l _ hc hd h1 h2=>by
   have:=Snt.fold (now:=now) (f:=sndN now i l) (Q:=fun k a b y=>(a=i∧b=k∧y=l)∧¬ k=i) (c:=1) (List.range w.nodes.length) m (fun m' k hk hc hd h1 h2=>jwq (by omega) (by have:=List.mem_range.1 hk;omega) hn hc hd h1 h2) hc hd (by rw [List.length_range];omega) (by rw [List.length_range];omega)
   rw [List.length_range,Nat.one_mul] at this
   exact this) hc hd (by omega) (by omega)
  refine key.mono (fun a b y=>?_) hlen
  constructor
  ·rintro ⟨l,hl,k,hk,⟨rfl,rfl,rfl⟩,hne⟩
   exact ⟨rfl,List.mem_range.1 hk,hne,rfl,_,rfl,hl⟩
  ·rintro ⟨rfl,hb,hne,_,p,hpp,hy⟩
   cases hpp
   exact ⟨y,hy,b,List.mem_range.2 hb,⟨rfl,rfl,rfl⟩,hne⟩
theorem juY (hc:checkNt n=true) (h:∀ p∈n.pcs,p.due≤now):(dueV n now).1=n.pcs.filter (fun p=>!apartV n p.src p.dst)∧(dueV n now).2={ n with pcs:=[] }:=by
 have hk:dueK n now=n.pcs.length:=by
  unfold dueK
  have:∀ l:List Pcl,(∀ p∈l,p.due≤now)→posG (dueB now) l=l.length:=by
   intro l
   induction l with
   | nil=>intro _;rfl
   | cons x r ih =>
    intro hl
    rw [posG,qf (show dueB now x=true from qg (hl x (List.mem_cons_self ..))),ih (fun p hp=>hl p (qi _ hp))];rfl
  exact this _ h
 unfold dueV
 rw [qe (by rw [hc];decide),hk,List.take_length,List.drop_length]
 exact ⟨rfl,rfl⟩
theorem jiI (hc:checkNt n=true) (hd:n.dls=[]):checkNt { n with pcs:=[] }=true:=by
 obtain ⟨_,a2,a3,_⟩:=jbj hc
 exact jh7 (by simp) a2 a3 hd rfl
def inP (now:Int) (i:Nat) (p:Ptc) (x:Pcl):Ptc:=if x.dst=(i:Int) then (if (hearP p x.l now).2=0 then (hearP p x.l now).1 else p) else p
def tkP (now:Int) (p:Ptc):Ptc:=if (tickP p now).2=0 then (tickP p now).1 else p
theorem jw4 {w:Wld} {x:Pcl} (hW:WI w) (hl:LB x.l) (hd:0≤x.dst) {i:Nat} (hp:w.nodes[i]?=some p) (hs:sickV w i=false):(inW now w x).nodes[i]?=some (inP now i p x):=by
 have hi:=(List.getElem?_eq_some_iff.1 hp).1
 unfold inP
 unfold inW
 by_cases e:x.dst=(i:Int)
 ·rw [qf e,e,hs,qx (p:=(i:Int)≥w.nodes.length) (by omega),qe (by decide),qr,hp]
  simp only
  split
  ·rename_i h0
   have hn:=(hW.nd i p hp)
   have h1:=jdY hn.2 hl h0
   rw [ja5 (h1.2.trans hn.1) hi,qf rfl]
  ·exact hp
 ·rw [qe e]
  split
  ·exact hp
  ·rename_i hc
   simp only [Bool.or_eq_true,not_or,qm,Bool.not_eq_true] at hc
   have hlt:x.dst.toNat<w.nodes.length:=by omega
   have hq:=List.getElem?_eq_getElem hlt
   rw [hq]
   simp only
   split
   ·rename_i h0
    have hn:=hW.nd _ _ hq
    have h1:=jdY hn.2 hl h0
    rw [ja5 (i:=x.dst.toNat) (h1.2.trans hn.1) hlt,qe (by omega)]
    exact hp
   ·exact hp
theorem jnI {now:Int}:∀ (P:List Pcl) (w:Wld),WI w→(∀ x∈P,LB x.l∧0≤x.dst)→∀ (i:Nat) p,w.nodes[i]?=some p→sickV w i=false→(P.foldl (inW now) w).nodes[i]?=some (P.foldl (inP now i) p)
 | [],w,_,_,i,p,hp,_=>hp
 | x::r,w,hW,hP,i,p,hp,hs=>by
  have hx:=hP x (List.mem_cons_self ..)
  have h1:=jw4 (now:=now) hW hx.1 hx.2 hp hs
  have hl:=jjj (w:=w) (now:=now) (p:=x)
  exact jnI r (inW now w x) (juU hW hx.1) (fun y hy=>hP y (qi _ hy)) i _ h1 (by unfold sickV at *;rw [hl.2.2.2.1];exact hs)
theorem jw7 {w:Wld} (hW:WI w) {i:Nat} (hp:w.nodes[i]?=some p) (hs:sickV w i=false):(tkW now w k).nodes[i]?=some (if k=i then tkP now p else p):=by
 have hi:=(List.getElem?_eq_some_iff.1 hp).1
 unfold tkW
 by_cases e:k=i
 ·subst e
  rw [qf rfl,hs,qe (by decide),hp]
  simp only
  unfold tkP
  split
  ·rename_i h0
   have hn:=hW.nd k p hp
   have h1:=jdW hn.2 h0
   rw [ja5 (h1.2.trans hn.1) hi,qf rfl]
  ·exact hp
 ·rw [qe e]
  split
  ·exact hp
  ·cases hx:w.nodes[k]? with
   | none=>exact hp
   | some q =>
    simp only
    split
    ·rename_i h0
     have hn:=hW.nd k q hx
     have h1:=jdW hn.2 h0
     rw [ja5 (i:=k) (h1.2.trans hn.1) (List.getElem?_eq_some_iff.1 hx).1,qe e]
     exact hp
    ·exact hp
theorem jnC {now:Int}:∀ (l:List Nat) (w:Wld),WI w→l.Nodup→∀ (i:Nat) p,w.nodes[i]?=some p→sickV w i=false→(l.foldl (tkW now) w).nodes[i]?=some (if i∈l then tkP now p else p)
 | [],w,_,_,i,p,hp,_=>by rw [qe qp];exact hp
 | k::r,w,hW,hn,i,p,hp,hs=>by
  have hn':=List.nodup_cons.1 hn
  have h1:=jw7 (now:=now) (k:=k) hW hp hs
  have hl:=ji2 (w:=w) (now:=now) (i:=k)
  have h2:=jnC (now:=now) r (tkW now w k) (juP hW) hn'.2 i _ h1 (by unfold sickV at *;rw [hl.2.2.2.1];exact hs)
  rw [List.foldl_cons,h2]
  by_cases e:k=i
  ·subst e
   rw [qe hn'.1,qf rfl,qf (List.mem_cons_self ..)]
  ·rw [qe e]
   by_cases hr:i∈r
   ·rw [qf hr,qf (qi _ hr)]
   ·rw [qe hr,qe (fun h=>(List.mem_cons.1 h).elim (fun h=>e h.symm) hr)]
theorem jhm (w:Wld):(tickC w).nodes.length=w.nodes.length∧(tickC w).time=w.time+1∧(tickC w).net=(dueV w.net (w.time+1)).2∧(tickC w).ill=w.ill∧(tickC w).trs=w.trs:=by
 have hb:∀ (P:List Pcl) (v:Wld),(P.foldl (Tq.inW (w.time+1)) v).nodes.length=v.nodes.length∧(P.foldl (Tq.inW (w.time+1)) v).time=v.time∧(P.foldl (Tq.inW (w.time+1)) v).net=v.net∧(P.foldl (Tq.inW (w.time+1)) v).ill=v.ill∧(P.foldl (Tq.inW (w.time+1)) v).trs=v.trs:=by
  intro P
  induction P with
  | nil=>intro v;exact ⟨rfl,rfl,rfl,rfl,rfl⟩
  | cons p r ih =>
   intro v
   have h1:=jjj (w:=v) (now:=w.time+1) (p:=p)
   have h2:=ih (Tq.inW (w.time+1) v p)
   exact ⟨h2.1.trans h1.1,h2.2.1.trans h1.2.1,h2.2.2.1.trans h1.2.2.1,h2.2.2.2.1.trans h1.2.2.2.1,h2.2.2.2.2.trans h1.2.2.2.2⟩
 have hc:∀ (l:List Nat) (v:Wld),(l.foldl (Tq.tkW (w.time+1)) v).nodes.length=v.nodes.length∧(l.foldl (Tq.tkW (w.time+1)) v).time=v.time∧(l.foldl (Tq.tkW (w.time+1)) v).net=v.net∧(l.foldl (Tq.tkW (w.time+1)) v).ill=v.ill∧(l.foldl (Tq.tkW (w.time+1)) v).trs=v.trs:=by
  intro l
  induction l with
  | nil=>intro v;exact ⟨rfl,rfl,rfl,rfl,rfl⟩
  | cons p r ih =>
   intro v
   have h1:=ji2 (w:=v) (now:=w.time+1) (i:=p)
   have h2:=ih (Tq.tkW (w.time+1) v p)
   exact ⟨h2.1.trans h1.1,h2.2.1.trans h1.2.1,h2.2.2.1.trans h1.2.2.1,h2.2.2.2.1.trans h1.2.2.2.1,h2.2.2.2.2.trans h1.2.2.2.2⟩
 have a:=hc (List.range (tickB w).nodes.length) (tickB w)
 have b:=hb (dueV w.net (w.time+1)).1 (tickA w)
 exact ⟨a.1.trans b.1,a.2.1.trans b.2.1,a.2.2.1.trans b.2.2.1,a.2.2.2.1.trans b.2.2.2.1,a.2.2.2.2.trans b.2.2.2.2⟩
def comes (w:Wld):List Pcl:=w.net.pcs.filter (fun p=>!apartV w.net p.src p.dst)
def nodeT (w:Wld) (i:Nat) (p:Ptc):Ptc:=tkP (w.time+1) ((comes w).foldl (inP (w.time+1) i) p)
theorem jvy {w:Wld} (hW:WI w) (ht:0≤w.time∧w.time<200) (hc:checkNt w.net=true) (hd:w.net.dls=[]) (hdue:∀ x∈w.net.pcs,x.due≤w.time+1) (hnx:w.net.next≤999999000)
 (hlt:∀ (i:Nat) p,w.nodes[i]?=some p→sickV w i=false→(lettersP (nodeT w i p)).length≤2) :
 (∀ (i:Nat) p,w.nodes[i]?=some p→sickV w i=false→(tickD w).nodes[i]?=some (nodeT w i p))∧((tickD w).time=w.time+1∧(tickD w).ill=w.ill∧(tickD w).trs=w.trs∧(tickD w).nodes.length=w.nodes.length)∧WI (tickD w)
   ∧ Snt (w.time+1) (fun a b y=>b<w.nodes.length∧¬ b=a∧sickV w a=false∧∃ p,(tickD w).nodes[a]?=some p∧y∈lettersP p) { w.net with pcs:=[] } (tickD w).net 200:=by
 have hda:=juY hc hdue
 have hs:=jhm w
 have hsk:∀ i:Nat,sickV (tickC w) i=sickV w i:=fun i=>by unfold sickV;rw [hs.2.2.2.1]
 have hN:∀ (i:Nat) p,w.nodes[i]?=some p→sickV w i=false→(tickC w).nodes[i]?=some (nodeT w i p):=fun i p hp hsi=>by
  have hB:=jnI (now:=w.time+1) (dueV w.net (w.time+1)).1 (tickA w) (jfo hW ht.2) (fun x hx=>⟨(jf8 hW.net).2 x hx,(jiU x hx).1.1⟩) i p hp hsi
  have hWB:=jmp hW ht.2
  have hlen:(tickB w).nodes.length=w.nodes.length:=by
   have:=hs.1
   have h2:(tickC w).nodes.length=(tickB w).nodes.length:=by
    have:∀ (l:List Nat) (v:Wld),(l.foldl (Tq.tkW (w.time+1)) v).nodes.length=v.nodes.length:=by
     intro l
     induction l with
     | nil=>intro v;rfl
     | cons p r ih=>intro v;exact (ih _).trans (ji2 (w:=v) (now:=w.time+1) (i:=p)).1
    exact this _ _
   omega
  have hskB:sickV (tickB w) i=false:=by
   have:∀ (P:List Pcl) (v:Wld),(P.foldl (Tq.inW (w.time+1)) v).ill=v.ill:=by
    intro P
    induction P with
    | nil=>intro v;rfl
    | cons p r ih=>intro v;exact (ih _).trans (jjj (w:=v) (now:=w.time+1) (p:=p)).2.2.2.1
   have e:(tickB w).ill=w.ill:=this _ _
   unfold sickV at *;rw [e];exact hsi
  have hC:=jnC (now:=w.time+1) (List.range (tickB w).nodes.length) (tickB w) hWB List.nodup_range i _ hB hskB
  rw [qf (List.mem_range.2 (by rw [hlen];exact (List.getElem?_eq_some_iff.1 hp).1)),hda.1] at hC
  exact hC
 refine ⟨hN,⟨hs.2.1,hs.2.2.2.1,hs.2.2.2.2,hs.1⟩,jie hW ht.2,?_⟩
 have hnet:(tickC w).net={ w.net with pcs:=[] }:=by rw [hs.2.2.1,hda.2]
 have hlen:=hW.len
 have key:=Snt.fold (now:=w.time+1) (f:=outN (w.time+1) (tickC w)) (Q:=fun i a b y=>a=i∧b<(tickC w).nodes.length∧¬ b=i∧sickV (tickC w) i=false∧∃ p,(tickC w).nodes[i]?=some p∧y∈lettersP p) (c:=20) (List.range (tickC w).nodes.length) { w.net with pcs:=[] } (fun m i hi hc hd h1 h2=>jv5 (List.mem_range.1 hi) (by rw [hs.1];omega) (by omega) (fun p hp hsi=>by
  rw [hsk] at hsi
  have hi':i<w.nodes.length:=by have:=List.mem_range.1 hi;rw [hs.1] at this;exact this
  have hq:=List.getElem?_eq_getElem hi'
  have:=hN i _ hq hsi
  rw [this] at hp;cases hp
  exact hlt i _ hq hsi) hc hd h1 h2) (jiI hc hd) hd (by rw [List.length_range,hs.1];show 0+_≤_;omega) (by rw [List.length_range,hs.1];show w.net.next+_≤_;omega)
 have e:(tickD w).net=(List.range (tickC w).nodes.length).foldl (outN (w.time+1) (tickC w)) { w.net with pcs:=[] }:=by
  unfold tickD
  rw [hnet]
 rw [e]
 refine key.mono (fun a b y=>?_) (by rw [List.length_range,hs.1];omega)
 constructor
 ·rintro ⟨i,hi,rfl,h1,h2,h3,p,h4,h5⟩
  exact ⟨by rw [← hs.1];exact h1,h2,by rw [← hsk];exact h3,p,h4,h5⟩
 ·rintro ⟨h1,h2,h3,p,h4,h5⟩
  exact ⟨a,List.mem_range.2 (List.getElem?_eq_some_iff.1 (show (tickC w).nodes[a]?=some p from h4)).1,rfl,by rw [hs.1];exact h1,h2,by rw [hsk];exact h3,p,h4,h5⟩
theorem jtp (y:Mach) (k:Int):({ ({ y with seq:=k }:Mach) with seq:=y.seq }:Mach)=y:=rfl
section
variable {v:Str} {T:Nat→Trust→Prop} {i:Nat}
def AR (T:Nat→Trust→Prop) (v:Str) (i:Nat) (m:Mach):Prop:=∃ k,UM T v i { m with seq:=k }∧AtRest { m with seq:=k }
theorem AR.rest {x:Mach} (h:UM T v i x) (k:Int):AR T v i { restM x with seq:=k }:=by
 refine ⟨(restM x).seq,?_⟩
 rw [jtp]
 exact ⟨h.rest,jrg h.inv.inv⟩
theorem AR.of {x:Mach} (h:UM T v i x) (hr:AtRest x):AR T v i x:=⟨x.seq,h,hr⟩
structure NodeL (T:Nat→Trust→Prop) (v:Str) (i:Nat) (tr:Trust) (p:Ptc) (s:Slt):Prop where
 node:p.node=(i:Int)
 stop:p.stopped=false
 t:p.t=tr
 vt:validT tr=0
 slots:p.slots=[s]
 us:US T v i s
 mt:s.mach.t=tr
variable {tr:Trust} {p:Ptc} {s:Slt}
theorem NodeL.check (h:NodeL T v i tr p s):checkP p=true:=by
 have h10:=h.us.mach.i10
 unfold checkP
 rw [h.node,h.t,qg h.vt,qg (p:=(i:Int)≥0) (by omega),qg (p:=(i:Int)≤9) (by omega),h.slots]
 simp only [psGo,h.us.check,h.us.mach.node,h.node,h.mt,h.t,jcN,decide_true,Bool.and_true,qs,qk,qt]
 rfl
theorem NodeL.letters (h:NodeL T v i tr p s):lettersP p=ltrN s++[⟨2,1,zNmn,envR s.mach⟩]:=by
 unfold lettersP
 rw [h.check,h.stop,qe (by decide),h.slots]
 simp only [List.flatMap_cons,List.flatMap_nil,List.append_nil]
 exact h.us.letters
theorem NodeL.with {s':Slt} (h:NodeL T v i tr p s) (hu:US T v i s') (ht:s'.mach.t=tr):NodeL T v i tr { p with slots:=[s'] } s':=⟨h.node,h.stop,h.t,h.vt,rfl,hu,ht⟩
theorem NodeL.hear (h:NodeL T v i tr p s) {l:Ltr} (hl:l.slot=1) (hk:l.kind=1∨(l.kind=2∧l.env.slot=1)):hearP p l now=withP p 0 (if l.kind=1 then nomS s l.nom else balS s l.env):=by
 have h1:=h.us.mach.slot
 have hr:readyP p 1 sZ now=(p,0):=by unfold readyP;rw [qf (jkL h.slots h1)]
 have hb:badL l=false:=by
  unfold badL
  rcases hk with hk | ⟨hk,he⟩
  ·rw [hk];rfl
  ·rw [hk,he,hl];rfl
 unfold hearP
 rw [qe (by rw [h.check];decide),qe (by rw [h.stop];decide),qe (by rw [hb];decide),hl,hr,qe (by simp)]
 unfold onP
 simp only [jmO h.slots h1]
 rw [show p.slots[0]?=some s by rw [h.slots];rfl]
theorem jfF {r:Slt × Int} (hs:p.slots=[s]) (h0:r.2=0):withP p 0 r=({ p with slots:=[r.1] },0):=by
 unfold withP
 rw [qe (fun h=>h h0),hs];rfl
theorem jfD {r:Slt × Int} (h0:¬ r.2=0):withP p 0 r=(zPtc,r.2):=by
 unfold withP
 rw [qf h0]
theorem NodeL.nom (h:NodeL T v i tr p s) {x:Pcl} (hd:x.dst=(i:Int)) (hk:x.l.kind=1) (hl:x.l.slot=1) (hm:OneM v x.l.nom):∃ s',NodeL T v i tr (inP now i p x) s'∧s'.mach=s.mach∧s'.tm=s.tm:=by
 unfold inP
 rw [qf hd,h.hear hl (.inl hk),qf hk]
 by_cases h0:(nomS s x.l.nom).2=0
 ·rw [jfF h.slots h0,qf rfl]
  obtain ⟨a,b,c⟩:=h.us.nomS hm h0
  exact ⟨_,h.with a (by rw [b];exact h.mt),b,c⟩
 ·rw [jfD h0,qe h0]
  exact ⟨s,h,rfl,rfl⟩
theorem NodeL.env (h:NodeL T v i tr p s) {x:Pcl} (hd:x.dst=(i:Int)) (hk:x.l.kind=2) (hl:x.l.slot=1) (he:UE T v x.l.env) (hn:¬ x.l.env.node=(i:Int)) (hz:sizeT x.l.env.t≤100000) (hlt:s.mach.seq<1000000) :
 ∃ s',NodeL T v i tr (inP now i p x) s'∧s'.tm=s.tm∧(((recV s.mach x.l.env).2=0∧s'.mach=(recV s.mach x.l.env).1)∨(¬ (recV s.mach x.l.env).2=0∧s'=s)):=by
 unfold inP
 rw [qf hd,h.hear hl (.inr ⟨hk,he.slot⟩),qe (show ¬ x.l.kind=1 by omega)]
 rcases h.us.balS he (by rw [h.us.mach.node];exact hn) hz hlt with ⟨h0,a,b,c,d⟩ | ⟨h0,c⟩
 ·rw [jfF h.slots h0,qf rfl]
  refine ⟨_,h.with a ?_,d,.inl ⟨c,b⟩⟩
  rw [b]
  rcases h.us.mach.recv he (by rw [h.us.mach.node];exact hn) hz hlt with ⟨_,⟨q,k,_,hq,h5⟩,_⟩ | ⟨h1,_⟩
  ·rw [h5]
   show (restM { s.mach with heard:=q }).t=tr
   rw [(jbb hq.inv.inv).2.t]
   exact h.mt
  ·exact qo c h1
 ·rw [jfD h0,qe h0]
  exact ⟨s,h,rfl,.inr ⟨c,rfl⟩⟩
structure Dl (T:Nat→Trust→Prop) (v:Str) (i:Nat) (K N:Nat→Option Evp) (P:Mach→Prop) (m:Mach) (D:Nat→Prop) (q:Int):Prop where
 ar:AR T v i m
 pm:P m
 hk:∀ x∈m.heard,K x.node.toNat=some x∨N x.node.toNat=some x
 done:∀ j e,D j→N j=some e→e∈m.heard
 sq:m.seq≤q
structure NOk (T:Nat→Trust→Prop) (v:Str) (i:Nat) (K N:Nat→Option Evp):Prop where
 ok:∀ j e,N j=some e→¬ j=i∧e.node=(j:Int)∧UE T v e∧sizeT e.t≤100000
 fr:∀ j x,K j=some x→∃ e,N j=some e∧Fresh x e
def Kept (T:Nat→Trust→Prop) (v:Str) (i:Nat) (K N:Nat→Option Evp) (P:Mach→Prop):Prop :=
 (∀ m k,P m→P { m with seq:=k })∧∀ m q e,UM T v i m→AR T v i m→P m→UM T v i { m with heard:=q }→PutOk m.heard q e→N e.node.toNat=some e→(∀ x∈m.heard,K x.node.toNat=some x∨N x.node.toNat=some x)→(∀ x∈q,K x.node.toNat=some x∨N x.node.toNat=some x)→P (restM { m with heard:=q })
theorem Dl.recv {K N:Nat→Option Evp} {P:Mach→Prop} {D:Nat→Prop} {q:Int} (hu:UM T v i m) (h:Dl T v i K N P m D q) (hN:NOk T v i K N) (hP:Kept T v i K N P) {j:Nat} (he:N j=some e) (hq:q<1000000) :
 Dl T v i K N P (if (recV m e).2=0 then (recV m e).1 else m) (fun k=>D k∨k=j) (q+1)∧Fresh (envR m) (envR (if (recV m e).2=0 then (recV m e).1 else m)):=by
 obtain ⟨hji,hen,hue,hz⟩:=hN.ok j e he
 have hsq:=h.sq
 have hnode:=hu.node
 rcases hu.recv hue (by omega) hz (by omega) with ⟨h0,⟨l,k,hput,hul,hr⟩,h2,h3,h4⟩ | ⟨h0,x,hx,hxn,hxs⟩
 ·rw [qf h0]
  refine ⟨⟨?_,?_,?_,?_,by omega⟩,h3⟩
  ·rw [hr];exact AR.rest hul k
  ·rw [hr]
   refine hP.1 _ k (hP.2 m l e hu h.ar h.pm hul hput (by rw [hen];exact he) h.hk (fun x hx=>?_))
   rcases (hput.mem x).1 hx with rfl | hx
   ·right;rw [hen];exact he
   ·exact h.hk x hx.1
  ·intro x hx
   have hx':x∈l:=by
    rw [hr] at hx
    have hx:x∈(restM { m with heard:=l }).heard:=hx
    rwa [(jbb hul.inv.inv).2.heard] at hx
   rcases (hput.mem x).1 hx' with rfl | hx
   ·right;rw [hen];exact he
   ·exact h.hk x hx.1
  ·intro a b hab hb
   have hl:∀ y,y∈l→y∈(recV m e).1.heard:=fun y hy=>by
    rw [hr]
    show y∈(restM { m with heard:=l }).heard
    rw [(jbb hul.inv.inv).2.heard];exact hy
   refine hl b ((hput.mem b).2 ?_)
   by_cases ej:a=j
   ·subst ej
    rw [he] at hb;cases hb;exact .inl rfl
   ·rcases hab with hab | hab
    ·have:=(hN.ok a b hb).2.1
     exact .inr ⟨h.done a b hab hb,by omega⟩
    ·exact qo hab ej
 ·rw [qe h0]
  refine ⟨⟨h.ar,h.pm,h.hk,fun a b hab hb=>?_,by omega⟩,.inl rfl⟩
  rcases hab with hab | hab
  ·exact h.done a b hab hb
  ·subst hab
   rw [he] at hb;cases hb
   have hxe:x=e:=by
    have hxa:x.node.toNat=a:=by omega
    rcases h.hk x hx with h1 | h1
    ·rw [hxa] at h1
     obtain ⟨y,hy,hf⟩:=hN.fr a x h1
     rw [he] at hy;cases hy
     rcases hf with hf | hf
     ·exact hf
     ·omega
    ·rw [hxa,he] at h1;cases h1;rfl
   rw [← hxe];exact hx
def Comes (v:Str) (i:Nat) (N:Nat→Option Evp) (x:Pcl):Prop:=x.dst=(i:Int)→x.l.slot=1∧((x.l.kind=1∧OneM v x.l.nom)∨(x.l.kind=2∧N x.l.env.node.toNat=some x.l.env))
theorem NodeL.fold {K N:Nat→Option Evp} {P:Mach→Prop} {now:Int} (hN:NOk T v i K N) (hP:Kept T v i K N P):∀ (L:List Pcl) (p:Ptc) (s:Slt) (D:Nat→Prop) (q:Int),NodeL T v i tr p s→Dl T v i K N P s.mach D q→(∀ x∈L,Comes v i N x)→q+L.length≤1000000 →
 ∃ s',NodeL T v i tr (L.foldl (inP now i) p) s'∧s'.tm=s.tm∧Dl T v i K N P s'.mach (fun j=>D j∨∃ x∈L,x.dst=(i:Int)∧x.l.kind=2∧x.l.env.node.toNat=j) (q+L.length)∧Fresh (envR s.mach) (envR s'.mach)
 | [],p,s,D,q,h,hd,_,_=>⟨s,h,rfl,⟨hd.ar,hd.pm,hd.hk,fun j e hj he=>hd.done j e (hj.resolve_right (fun ⟨x,hx,_⟩=>qo hx qp)) he,by have:=hd.sq;simpa using this⟩,.inl rfl⟩
 | x::r,p,s,D,q,h,hd,hL,hq=>by
  rw [qk] at hq
  have hx:=hL x (List.mem_cons_self ..)
  have step:∃ s1,NodeL T v i tr (inP now i p x) s1∧s1.tm=s.tm∧Dl T v i K N P s1.mach (fun j=>D j∨(x.dst=(i:Int)∧x.l.kind=2∧x.l.env.node.toNat=j)) (q+1)∧Fresh (envR s.mach) (envR s1.mach):=by
   by_cases e:x.dst=(i:Int)
   ·obtain ⟨h1,h2 | h2⟩:=hx e
    ·obtain ⟨s1,a,b,c⟩:=h.nom (now:=now) e h2.1 h1 h2.2
     refine ⟨s1,a,c,?_,by rw [b];exact .inl rfl⟩
     rw [b]
     exact ⟨hd.ar,hd.pm,hd.hk,fun j y hj hy=>hd.done j y (hj.resolve_right (fun hh=>by have:=hh.2.1;omega)) hy,by have:=hd.sq;omega⟩
    ·have hok:=hN.ok _ _ h2.2
     obtain ⟨s1,a,b,c⟩:=h.env (now:=now) e h2.1 h1 hok.2.2.1 (by omega) hok.2.2.2 (by have:=hd.sq;omega)
     obtain ⟨d1,d2⟩:=hd.recv h.us.mach hN hP h2.2 (by omega)
     have e1:s1.mach=(if (recV s.mach x.l.env).2=0 then (recV s.mach x.l.env).1 else s.mach):=by
      rcases c with ⟨c1,c2⟩ | ⟨c1,c2⟩
      ·rw [qf c1];exact c2
      ·rw [qe c1,c2]
     rw [← e1] at d1 d2
     exact ⟨s1,a,b,⟨d1.ar,d1.pm,d1.hk,fun j y hj hy=>d1.done j y (hj.imp_right (fun hh=>hh.2.2.symm)) hy,d1.sq⟩,d2⟩
   ·refine ⟨s,?_,rfl,⟨hd.ar,hd.pm,hd.hk,fun j y hj hy=>hd.done j y (hj.resolve_right (fun hh=>e hh.1)) hy,by have:=hd.sq;omega⟩,.inl rfl⟩
    unfold inP;rw [qe e];exact h
  obtain ⟨s1,a1,a2,a3,a4⟩:=step
  obtain ⟨s2,b1,b2,b3,b4⟩:=NodeL.fold hN hP r (inP now i p x) s1 _ (q+1) a1 a3 (fun y hy=>hL y (qi _ hy)) (by omega)
  refine ⟨s2,b1,b2.trans a2,⟨b3.ar,b3.pm,b3.hk,fun j y hj hy=>b3.done j y ?_ hy,by have:=b3.sq;rw [qk];omega⟩,a4.trans b4⟩
  rcases hj with hj | ⟨z,hz,hj⟩
  ·exact .inl (.inl hj)
  ·rcases List.mem_cons.1 hz with rfl | hz
   ·exact .inl (.inr hj)
   ·exact .inr ⟨z,hz,hj⟩
theorem NodeL.tick (h:NodeL T v i tr p s) (hn:0≤now∧now≤200) (hlt:s.mach.seq<1000000) (ha:AR T v i s.mach) :
 ∃ s',NodeL T v i tr (tkP now p) s'∧s'.tm=(stepV s.tm s.mach now).1∧AR T v i s'.mach∧Fresh (envR s.mach) (envR s'.mach)∧s'.mach.seq≤s.mach.seq+1∧s'.mach.heard=s.mach.heard
  ∧ (s'.mach=s.mach∨((stepV s.tm s.mach now).2=true∧(s.mach.phase=1∨s.mach.phase=2)∧∃ k,UM T v i { s.mach with bal:=⟨s.mach.bal.n+1,v⟩ }∧s'.mach={ restM { s.mach with bal:=⟨s.mach.bal.n+1,v⟩ } with seq:=k })):=by
 obtain ⟨a1,a2,a3,a4⟩:=h.us.tick hn hlt
 have hk:tksGo now p.slots []=([(tickSl s now).1],0):=by
  rw [h.slots,tksGo,qe (fun h=>h a1),tksGo];rfl
 have e0:tickP p now=({ p with slots:=[(tickSl s now).1] },0):=by
  unfold tickP
  rw [qe (by rw [h.check];decide),qe (by rw [h.stop];decide),hk,qe (by simp)]
 have e:tkP now p={ p with slots:=[(tickSl s now).1] }:=by
  unfold tkP
  rw [e0,qf rfl]
 rw [e]
 rcases a4 with a4 | ⟨b1,b2,b3⟩
 ·refine ⟨_,h.with a2 (by rw [a4];exact h.mt),a3,?_,?_,?_,?_,?_⟩
  ·rw [a4];exact ha
  ·rw [a4];exact .inl rfl
  ·rw [a4];omega
  ·rw [a4]
  ·exact .inl a4
 ·rcases h.us.mach.tmo hlt with ⟨_,⟨k,c1,c2,c3⟩,c4,c5,c6⟩ | c
  ·have hh:=(jbb c2.inv.inv).2
   refine ⟨_,h.with a2 ?_,a3,?_,?_,?_,?_,.inr ⟨b1,c1,k,c2,b3.trans c3⟩⟩
   ·rw [b3,c3]
    show (restM { s.mach with bal:=⟨s.mach.bal.n+1,v⟩ }).t=tr
    rw [hh.t];exact h.mt
   ·rw [b3,c3];exact AR.rest c2 k
   ·rw [b3];exact c5
   ·rw [b3];exact c6
   ·rw [b3,c3]
    show (restM { s.mach with bal:=⟨s.mach.bal.n+1,v⟩ }).heard=s.mach.heard
    rw [hh.heard]
  ·exact qo b2 c
end
structure LS where
 n:Nat
 tr:Nat→Trust
 trs:List (List Trust)
 ill:Nat
 act:Nat→Bool
 vv:Nat→Str
 T:Nat→Nat→Trust→Prop
 parts:List Int
variable {S:LS}
def apN (parts:List Int) (a b:Nat):Bool:=apartV ⟨[],0,parts,[]⟩ a b
def LS.lk (S:LS) (i j:Nat):Bool:=decide (j<S.n)&&(!S.ill.testBit j&&(S.act j&&(!decide (j=i)&&!apN S.parts j i)))
def LS.on (S:LS) (i:Nat):Prop:=i<S.n∧S.ill.testBit i=false∧S.act i=true
structure LS.Ok (S:LS):Prop where
 n10:1≤S.n∧S.n≤10
 link:∀ i j,i<S.n→S.ill.testBit i=false→S.lk i j=true→S.act i=true∧S.vv j=S.vv i∧S.T j=S.T i
theorem LS.lk_iff {i j:Nat}:S.lk i j=true↔S.on j∧¬ j=i∧apN S.parts j i=false:=by
 unfold LS.lk LS.on
 simp only [qh,qm,Bool.not_eq_true',decide_eq_false_iff_not]
 constructor
 ·rintro ⟨a,b,c,d,e⟩;exact ⟨⟨a,b,c⟩,d,e⟩
 ·rintro ⟨⟨a,b,c⟩,d,e⟩;exact ⟨a,b,c,d,e⟩
def envOf (w:Wld) (j:Nat):Evp:=match w.nodes[j]? with | some p=>(match p.slots with | s::_=>envR s.mach | []=>zEvp) | none=>zEvp
theorem jbB {w:Wld} {j:Nat} (hp:w.nodes[j]?=some p) (hs:p.slots=[s]):envOf w j=envR s.mach:=by
 unfold envOf;rw [hp];simp only [hs]
def nxtN (S:LS) (w:Wld) (N:Nat→Nat→Option Evp) (i j:Nat):Option Evp:=if S.lk i j=true then some (envOf w j) else N i j
structure NdA (S:LS) (t:Nat) (K:Nat→Option Evp) (i:Nat) (p:Ptc) (s:Slt):Prop where
 nl:NodeL (S.T i) (S.vv i) i (S.tr i) p s
 ar:AR (S.T i) (S.vv i) i s.mach
 sq:s.mach.seq≤5000 * ((t:Int)+1)
 hk:∀ x∈s.mach.heard,K x.node.toNat=some x
 hl:∀ j e,K j=some e→e∈s.mach.heard
structure LK (S:LS) (t:Nat) (K N:Nat→Nat→Option Evp) (w:Wld):Prop where
 wi:WI w
 time:w.time=(t:Int)
 il:w.ill=(S.ill:Int)
 trs:w.trs=S.trs
 len:w.nodes.length=S.n
 chk:checkNt w.net=true
 dls:w.net.dls=[]
 parts:w.net.parts=S.parts
 next:w.net.next≤1000 * ((t:Int)+1)
 nd:∀ i,S.on i→∃ p s,w.nodes[i]?=some p∧NdA S t (K i) i p s
 no:∀ i,i<S.n→S.ill.testBit i=false→S.act i=false→∃ p,w.nodes[i]?=some p∧(p.node=(i:Int)∧p.stopped=false∧p.t=S.tr i)∧p.slots=[]∧checkP p=true
 nok:∀ i,S.on i→NOk (S.T i) (S.vv i) i (K i) (N i)
 due:∀ x∈w.net.pcs,x.due≤(t:Int)+1
 com:∀ x∈comes w,∀ i:Nat,x.dst=(i:Int)→i<S.n→S.ill.testBit i=false→S.act i=true∧Comes (S.vv i) i (N i) x
 all:∀ i j e,S.on i→N i j=some e→K i j=some e∨∃ x∈comes w,x.dst=(i:Int)∧x.l.kind=2∧x.l.env.node.toNat=j
 lkN:∀ i j,S.on i→S.lk i j=true→N i j=none∨N i j=some (envOf w j)
theorem LK.sick {K N:Nat→Nat→Option Evp} {w:Wld} (h:LK S t K N w) (i:Nat):sickV w (i:Int)=S.ill.testBit i:=by
 unfold sickV
 rw [h.il,qr,qr]
theorem jv9 (hs:p.slots=[]):tkP now p=p:=by
 unfold tkP tickP
 by_cases hc:checkP p=false
 ·rw [qf hc];simp
 ·rw [qe hc]
  by_cases hst:p.stopped=true
  ·rw [qf hst];simp
  ·rw [qe hst,hs]
   simp [tksGo]
   cases p;simp only at hs;rw [hs]
theorem jpu {now:Int} {i:Nat}:∀ (L:List Pcl) (p:Ptc),(∀ x∈L,¬ x.dst=(i:Int))→L.foldl (inP now i) p=p
 | [],p,_=>rfl
 | x::r,p,h=>by
  rw [List.foldl_cons,show inP now i p x=p by unfold inP;rw [qe (h x (List.mem_cons_self ..))]]
  exact jpu r p (fun y hy=>h y (qi _ hy))
structure Went (S:LS) (t:Nat) (N:Nat→Option Evp) (P:Mach→Prop) (i:Nat) (s s':Slt) (m:Mach):Prop where
 pm:P m
 um:UM (S.T i) (S.vv i) i m
 ar:AR (S.T i) (S.vv i) i m
 hk:∀ x∈m.heard,N x.node.toNat=some x
 hl:∀ j e,N j=some e→e∈m.heard
 tm:s'.tm=(stepV s.tm m ((t:Int)+1)).1
 go:s'.mach=m∨((stepV s.tm m ((t:Int)+1)).2=true∧(m.phase=1∨m.phase=2)∧∃ k,UM (S.T i) (S.vv i) i { m with bal:=⟨m.bal.n+1,S.vv i⟩ }∧s'.mach={ restM { m with bal:=⟨m.bal.n+1,S.vv i⟩ } with seq:=k })
theorem LK.node {K N:Nat→Nat→Option Evp} {w:Wld} (h:LK S t K N w) (ht:t<150) {i:Nat} (hi:S.on i) {P:Mach→Prop} (hP:Kept (S.T i) (S.vv i) i (K i) (N i) P) (hp:w.nodes[i]?=some p) (ha:NdA S t (K i) i p s) (h0:P s.mach) :
 ∃ s' m,NdA S (t+1) (N i) i (nodeT w i p) s'∧Went S t (N i) P i s s' m∧Fresh (envR s.mach) (envR s'.mach):=by
 have hNok:=h.nok i hi
 have hcl:(comes w).length≤4000:=Nat.le_trans (List.length_filter_le _ _) (jbj h.chk).1
 have hnow:w.time+1=(t:Int)+1:=by rw [h.time]
 have hdl:Dl (S.T i) (S.vv i) i (K i) (N i) P s.mach (fun j=>∃ e,K i j=some e∧N i j=some e) (5000 * ((t:Int)+1)) :=
  ⟨ha.ar,h0,fun x hx=>.inl (ha.hk x hx),fun j e ⟨x,h1,h2⟩ h3=>(by rw [h2] at h3;cases h3;exact ha.hl j _ h1),ha.sq⟩
 obtain ⟨s1,b1,b2,b3,b4⟩:=NodeL.fold (now:=w.time+1) hNok hP (comes w) p s _ _ ha.nl hdl (fun x hx hd=>(h.com x hx i hd hi.1 hi.2.1).2 hd) (by omega)
 have hsq:=b3.sq
 obtain ⟨s2,c1,c2,c3,c4,c5,c6,c7⟩:=b1.tick (now:=w.time+1) (by omega) (by omega) b3.ar
 have hby:=(jdb.1 b1.us.mach.hh).2
 have hdone:∀ j e,N i j=some e→e∈s1.mach.heard:=fun j e he=>by
  refine b3.done j e ?_ he
  rcases h.all i j e hi he with h1 | ⟨x,hx,h1⟩
  ·exact .inl ⟨e,h1,he⟩
  ·exact .inr ⟨x,hx,h1⟩
 have hhk:∀ x∈s1.mach.heard,N i x.node.toNat=some x:=fun x hx=>by
  rcases b3.hk x hx with h1 | h1
  ·obtain ⟨e,he,hf⟩:=hNok.fr _ _ h1
   have hin:=hdone _ _ he
   have hen:=(hNok.ok _ _ he).2.1
   have hxn:0≤x.node:=(jcC (b1.us.mach.hd x hx).ok).1
   have:x=e:=by
    unfold ByN at hby
    refine Classical.byContradiction fun hne=>?_
    obtain ⟨a,ha1⟩:=List.getElem?_of_mem hx
    obtain ⟨b,hb1⟩:=List.getElem?_of_mem hin
    have ha2:=List.getElem?_eq_some_iff.1 ha1
    have hb2:=List.getElem?_eq_some_iff.1 hb1
    rw [List.pairwise_iff_getElem] at hby
    rcases Nat.lt_trichotomy a b with hab | hab | hab
    ·have:=hby a b ha2.1 hb2.1 hab
     rw [ha2.2,hb2.2] at this;omega
    ·subst hab;rw [ha1] at hb1;cases hb1;exact hne rfl
    ·have:=hby b a hb2.1 ha2.1 hab
     rw [ha2.2,hb2.2] at this;omega
   rw [he,this]
  ·exact h1
 refine ⟨s2,s1.mach,⟨c1,c3,by omega,?_,?_⟩,⟨b3.pm,b1.us.mach,b3.ar,hhk,hdone,?_,?_⟩,b4.trans c4⟩
 ·rw [c6];exact hhk
 ·rw [c6];exact hdone
 ·rw [c2,b2,hnow]
 ·rw [← b2,← hnow];exact c7
theorem jso (s:Slt):(ltrN s).length≤1:=by unfold ltrN;split<;>simp
theorem LK.tick (hS:S.Ok) {K N:Nat→Nat→Option Evp} {w:Wld} (h:LK S t K N w) (ht:t<150) {P:Nat→Mach→Prop} (hP:∀ i,S.on i→Kept (S.T i) (S.vv i) i (K i) (N i) (P i))
 (h0:∀ i p s,S.on i→w.nodes[i]?=some p→NdA S t (K i) i p s→P i s.mach) :
 LK S (t+1) N (nxtN S (tickD w) N) (tickD w)∧∀ i,S.on i→∃ p s p' s' m,w.nodes[i]?=some p∧NdA S t (K i) i p s∧(tickD w).nodes[i]?=some p'∧NdA S (t+1) (N i) i p' s'∧Went S t (N i) (P i) i s s' m:=by
 have hA:∀ i,S.on i→∃ p s s' m,w.nodes[i]?=some p∧NdA S t (K i) i p s∧NdA S (t+1) (N i) i (nodeT w i p) s'∧Went S t (N i) (P i) i s s' m∧Fresh (envR s.mach) (envR s'.mach):=fun i hi=>by
  obtain ⟨p,s,hp,ha⟩:=h.nd i hi
  obtain ⟨s',m,a,b,c⟩:=h.node ht hi (hP i hi) hp ha (h0 i p s hi hp ha)
  exact ⟨p,s,s',m,hp,ha,a,b,c⟩
 have hB:∀ i p,i<S.n→S.ill.testBit i=false→S.act i=false→w.nodes[i]?=some p→nodeT w i p=p:=fun i p hi hil hac hp=>by
  obtain ⟨q,hq,_,hs,_⟩:=h.no i hi hil hac
  rw [hp] at hq;cases hq
  unfold nodeT
  rw [jpu _ _ (fun x hx hd=>by have:=(h.com x hx i hd hi hil).1;rw [hac] at this;cases this),jv9 hs]
 have hlen:=h.len
 have hlt:∀ (i:Nat) p,w.nodes[i]?=some p→sickV w i=false→(lettersP (nodeT w i p)).length≤2:=fun i p hp hsk=>by
  rw [h.sick] at hsk
  have hi:=(List.getElem?_eq_some_iff.1 hp).1
  rw [hlen] at hi
  cases hac:S.act i with
  | true =>
   obtain ⟨q,s,s',m,hq,_,a,_⟩:=hA i ⟨hi,hsk,hac⟩
   rw [hp] at hq;cases hq
   rw [a.nl.letters]
   have:=jso s'
   simp;omega
  | false =>
   rw [hB i p hi hsk hac hp]
   obtain ⟨q,hq,_,hs,_⟩:=h.no i hi hsk hac
   rw [hp] at hq;cases hq
   rw [jc4 hs];simp
 have hnx:=h.next
 obtain ⟨t1,⟨t2,t3,t4,t5⟩,t6,t7⟩:=jvy h.wi (by rw [h.time];omega) h.chk h.dls (fun x hx=>by rw [h.time];exact h.due x hx) (by omega) hlt
 have htm:w.time+1=((t+1:Nat):Int):=by rw [h.time];omega
 have hnew:∀ i,S.on i→∃ p s p' s' m,w.nodes[i]?=some p∧NdA S t (K i) i p s∧(tickD w).nodes[i]?=some p'∧NdA S (t+1) (N i) i p' s'∧Went S t (N i) (P i) i s s' m∧Fresh (envR s.mach) (envR s'.mach):=fun i hi=>by
  obtain ⟨p,s,s',m,a1,a2,a3,a4,a5⟩:=hA i hi
  exact ⟨p,s,_,s',m,a1,a2,t1 i p a1 (by rw [h.sick];exact hi.2.1),a3,a4,a5⟩
 have hparts:(tickD w).net.parts=S.parts:=t7.parts.trans h.parts
 have hap:∀ a b:Int,apartV (tickD w).net a b=apartV ⟨[],0,S.parts,[]⟩ a b:=fun a b=>jdF hparts a b
 have hpc:∀ x∈(tickD w).net.pcs,x.due=w.time+1+1∧∃ a b:Nat,x.src=(a:Int)∧x.dst=(b:Int)∧(b<w.nodes.length∧¬ b=a∧sickV w a=false∧∃ p,(tickD w).nodes[a]?=some p∧x.l∈lettersP p):=fun x hx=>by
  rcases t7.only x hx with h1 | h1
  ·exact qo h1 qp
  ·exact h1
 -- who has sent
 have hsnd:∀ a p l,a<S.n→S.ill.testBit a=false→(tickD w).nodes[a]?=some p→l∈lettersP p→S.act a=true∧l.slot=1∧((l.kind=1∧OneM (S.vv a) l.nom)∨(l.kind=2∧l.env=envOf (tickD w) a)):=fun a p l ha hil hp hl=>by
  cases hac:S.act a with
  | true =>
   obtain ⟨_,_,p',s',m,_,_,b3,b4,_⟩:=hnew a ⟨ha,hil,hac⟩
   rw [hp] at b3;cases b3
   rw [b4.nl.letters] at hl
   refine ⟨rfl,?_⟩
   rcases List.mem_append.1 hl with hl | hl
   ·unfold ltrN at hl
    split at hl
    ·cases hl
    ·rw [List.mem_singleton.1 hl]
     exact ⟨b4.nl.us.mach.slot,.inl ⟨rfl,jrE b4.nl.us.nom.one⟩⟩
   ·rw [List.mem_singleton.1 hl]
    exact ⟨rfl,.inr ⟨rfl,(jbB hp b4.nl.slots).symm⟩⟩
  | false =>
   obtain ⟨q,hq,_,hs,_⟩:=h.no a ha hil hac
   have:=t1 a q hq (by rw [h.sick];exact hil)
   rw [hB a q ha hil hac hq,hp] at this
   cases this
   rw [jc4 hs] at hl;cases hl
 have hcomes:∀ x,x∈comes (tickD w)↔x∈(tickD w).net.pcs∧apartV ⟨[],0,S.parts,[]⟩ x.src x.dst=false:=fun x=>by
  unfold comes
  rw [List.mem_filter,hap]
  simp
 refine ⟨⟨t6,by rw [t2,htm],by rw [t3];exact h.il,by rw [t4];exact h.trs,by rw [t5];exact hlen,t7.chk,t7.dls,hparts,?_,?_,?_,?_,?_,?_,?_,?_⟩,fun i hi=>?_⟩
 ·have:=t7.next
  have e:({ w.net with pcs:=[] }:Ntw).next=w.net.next:=rfl
  omega
 ·intro i hi
  obtain ⟨_,_,p',s',_,_,_,b3,b4,_⟩:=hnew i hi
  exact ⟨p',s',b3,b4⟩
 ·intro i hi hil hac
  obtain ⟨q,hq,hqr⟩:=h.no i hi hil hac
  have:=t1 i q hq (by rw [h.sick];exact hil)
  rw [hB i q hi hil hac hq] at this
  exact ⟨q,this,hqr⟩
 ·intro i hi
  have hok:=h.nok i hi
  refine ⟨fun j e he=>?_,fun j x hx=>?_⟩
  ·unfold nxtN at he
   by_cases hlk:S.lk i j=true
   ·rw [qf hlk,ql] at he
    have hl:=LS.lk_iff.1 hlk
    obtain ⟨_,e1,e2⟩:=hS.link i j hi.1 hi.2.1 hlk
    obtain ⟨_,_,p',s',_,_,_,b3,b4,_⟩:=hnew j hl.1
    rw [jbB b3 b4.nl.slots] at he
    subst he
    have hu:=b4.nl.us.mach.env_ue
    rw [e1,e2] at hu
    exact ⟨hl.2.1,b4.nl.us.mach.node,hu,b4.nl.us.mach.inv.inv.sz⟩
   ·rw [qe hlk] at he
    exact hok.ok j e he
  ·unfold nxtN
   by_cases hlk:S.lk i j=true
   ·rw [qf hlk]
    have hl:=LS.lk_iff.1 hlk
    refine ⟨_,rfl,?_⟩
    obtain ⟨p,s,p',s',_,b1,b2,b3,b4,_,b6⟩:=hnew j hl.1
    rw [jbB b3 b4.nl.slots]
    rcases h.lkN i j hi hlk with h1 | h1
    ·rw [h1] at hx;cases hx
    ·rw [h1,jbB b1 b2.nl.slots,ql] at hx
     rw [← hx];exact b6
   ·rw [qe hlk];exact ⟨x,hx,.inl rfl⟩
 ·intro x hx
  have:=(hpc x hx).1
  omega
 ·intro x hx i hd hi hil
  obtain ⟨hx1,hx2⟩:=(hcomes x).1 hx
  obtain ⟨_,a,b,e1,e2,h1,h2,h3,p,h4,h5⟩:=hpc x hx1
  have hbi:b=i:=by omega
  subst hbi
  have ha:a<S.n:=by have:=(List.getElem?_eq_some_iff.1 h4).1;omega
  rw [h.sick] at h3
  have hsd:=hsnd a p x.l ha h3 h4 h5
  have hlk:S.lk b a=true:=LS.lk_iff.2 ⟨⟨ha,h3,hsd.1⟩,fun e=>h2 e.symm,by unfold apN;rw [← e1,← e2];exact hx2⟩
  obtain ⟨f1,f2,f3⟩:=hS.link b a hi hil hlk
  refine ⟨f1,fun _=>⟨hsd.2.1,?_⟩⟩
  rcases hsd.2.2 with h6 | h6
  ·left;rw [← f2];exact h6
  ·right
   refine ⟨h6.1,?_⟩
   obtain ⟨_,_,p',s',_,_,_,b3,b4,_⟩:=hnew a ⟨ha,h3,hsd.1⟩
   have hen:x.l.env.node.toNat=a:=by
    rw [h6.2,jbB b3 b4.nl.slots]
    have:=b4.nl.us.mach.node
    show s'.mach.node.toNat=a
    omega
   rw [hen]
   unfold nxtN
   rw [qf hlk,h6.2]
 ·intro i j e hi he
  unfold nxtN at he
  by_cases hlk:S.lk i j=true
  ·rw [qf hlk,ql] at he
   right
   have hl:=LS.lk_iff.1 hlk
   obtain ⟨_,_,p',s',_,_,_,b3,b4,_⟩:=hnew j hl.1
   obtain ⟨x,hx,e1,e2,e3⟩:=t7.all j i ⟨2,1,zNmn,envR s'.mach⟩ ⟨by rw [hlen];exact hi.1,fun e=>hl.2.1 e.symm,by rw [h.sick];exact hl.1.2.1,p',b3,by rw [b4.nl.letters];exact List.mem_append_right _ (List.mem_singleton.2 rfl)⟩
   refine ⟨x,(hcomes x).2 ⟨hx,by rw [e1,e2];exact hl.2.2⟩,e2,by rw [e3],?_⟩
   rw [e3]
   have:=b4.nl.us.mach.node
   show s'.mach.node.toNat=j
   omega
  ·rw [qe hlk] at he;exact .inl he
 ·intro i j hi hlk
  unfold nxtN
  rw [qf hlk];exact .inr rfl
 ·obtain ⟨p,s,p',s',m,a1,a2,a3,a4,a5,_⟩:=hnew i hi
  exact ⟨p,s,p',s',m,a1,a2,a3,a4,a5⟩
section
variable {v:Str} {A:Nat} {τ:Nat→Trust} {i:Nat}
theorem W1.seqS (w:W1 τ v i m) (k:Int):W1 τ v i { m with seq:=k }:=⟨w.p1,w.p2,w.p3⟩
theorem AR.ne (ha:AR (TA A τ) v i m) (w:W1 τ v i m) (hp:¬ m.phase=3):NE (envR m)∧(m.phase=2→m.prep.n=1∧m.bal.n=1):=by
 obtain ⟨k,hu,hr⟩:=ha
 have h:=(w.seqS k).ne hu hr hp
 exact ⟨⟨h.1.kind,h.1.bal,h.1.prep,h.1.low⟩,h.2⟩
theorem W1.hear (ha:AR (TA A τ) v i m) (w:W1 τ v i m) (q:List Evp):W1 τ v i { m with heard:=q }:=by
 refine ⟨w.p1,fun hp=>?_,w.p3⟩
 have hp:m.phase=2:=hp
 exact ⟨(w.p2 hp).1,.inl ((ha.ne w (by omega)).2 hp)⟩
theorem W1.kept {K N:Nat→Option Evp} (hτ:∀ j,A.testBit j=true→validT (τ j)=0) (hK:∀ j e,K j=some e∨N j=some e→NE e):Kept (TA A τ) v i K N (W1 τ v i):=by
 refine ⟨fun m k w=>w.seqS k,fun m q e hu ha w huq hput he hold hq=>?_⟩
 exact (W1.hear ha w q).rest huq hτ (fun x hx=>hK _ x (hq x hx))
theorem W5.kept {K N:Nat→Option Evp} (hK:∀ j e,K j=some e∨N j=some e→LE e):Kept (TA A τ) v i K N W5:=by
 refine ⟨fun m k w=>w,fun m q e hu ha w huq hput he hold hq=>?_⟩
 exact W5.rest huq w (fun x hx=>hK _ x (hq x hx))
theorem jtA (h:InvM m) (hp:m.phase=3):restM m=m:=by
 refine jcO ?_
 have e1:prepM m=m:=by unfold prepM;rw [qf (.inl hp)]
 have e2:confS m=m:=by unfold confS;rw [qf (.inl (by omega))]
 have e3:comM m=m:=by unfold comM;rw [qe (by omega),qe (by omega)]
 have e4:finM m=m:=by unfold finM;rw [qf (by omega)]
 have e5:cauM m=m:=by unfold cauM;rw [qf (.inl hp)]
 unfold stepG
 rw [e1,e2,e3,e4,e5,jaV]
 simp
theorem jt3 {T:Nat→Trust→Prop} {K N:Nat→Option Evp}:Kept T v i K N (fun m=>m.phase=3):=by
 refine ⟨fun m k w=>w,fun m q e hu ha w huq hput he hold hq=>?_⟩
 show (restM { m with heard:=q }).phase=3
 rw [jtA huq.inv.inv w];exact w
theorem jqB {T:Nat→Trust→Prop} {K N:Nat→Option Evp}:Kept T v i K N (fun _=>True):=⟨fun _ _ _=>trivial,fun _ _ _ _ _ _ _ _ _ _ _=>trivial⟩
theorem jj7 (h:UM (TA A τ) v i m) (ht:togM m=true):∃ q,q<1024∧Qt τ q∧q.testBit i=true∧Sub q A∧∀ j,¬ j=i→q.testBit j=true→∃ e∈m.heard,e.node.toNat=j:=by
 unfold togM at ht
 split at ht
 ·cases ht
 ·split at ht
  ·cases ht
  ·have hl:∀ e∈m.heard++[msgM m],UE (TA A τ) v e:=fun e he=>by
    rcases List.mem_append.1 he with he | he
    ·exact h.hd e he
    ·rw [List.mem_singleton.1 he,h.msg_env];exact h.env_ue
   have hV:VOK (TA A τ) (viewE m.node m.t (m.heard++[msgM m])):=ji4 (by rw [h.node];exact h.t) (fun e he _=>(hl e he).t)
   have hbit:∀ k,(whoE (fun e=>decide (m.bal.n≤cntE e)) (rights (m.heard++[msgM m]))).testBit k=true→∃ e∈m.heard++[msgM m],vE e=true∧e.node.toNat=k:=fun k hk=>by
    unfold whoE at hk
    rw [jga] at hk
    simp only [Nat.zero_testBit,Bool.false_eq_true,false_or] at hk
    obtain ⟨e,he,_,h2⟩:=hk
    have:=List.mem_filter.1 he
    exact ⟨e,this.1,this.2,h2⟩
   have hw:whoE (fun e=>decide (m.bal.n≤cntE e)) (rights (m.heard++[msgM m]))<1024:=by
    have:=je2 (s:=whoE (fun e=>decide (m.bal.n≤cntE e)) (rights (m.heard++[msgM m]))) (n:=10) (fun k hk=>by
     obtain ⟨e,_,h1,h2⟩:=hbit k hk
     have:=jcC h1
     omega)
    exact this
   have g:=jnA hV hw
   have h1:=((jaY (jcG _ _)).1 ht).2.2
   have hnode:=h.node
   rw [show m.node.toNat=i by omega] at h1
   refine ⟨_,jcG _ _,g.1,h1,g.2.2,fun j hj hq=>?_⟩
   obtain ⟨e,he,h2,h3⟩:=hbit j (g.2.1 j hq)
   rcases List.mem_append.1 he with he | he
   ·exact ⟨e,he,h3⟩
   ·rw [List.mem_singleton.1 he] at h3
    exact qo (show m.node.toNat=j from h3) (by omega)
theorem AR.alone (h:UM (TA A τ) v i m) (ha:AR (TA A τ) v i m) (w:W1 τ v i m) (hq:q<1024) (hQ:Qt τ q) (hi:q.testBit i=true) (hs:∀ p:Evp→Bool,Said p q i m.heard):m.phase=3:=by
 obtain ⟨k,hu,hr⟩:=ha
 have wk:=w.seqS k
 refine Classical.byContradiction fun hp=>?_
 have h2:1≤m.prep.n:=by
  rcases jys hu hr (fun h1=>(w.p1 h1).1) hq hQ hi (hs _) with h1 | h1
  ·exact qo h1 hp
  ·exact h1
 rcases h.ph with h1 | h1 | h1
 ·have w1:=w.p1 h1
  have h3:1≤m.conf.n:=jyl (m:={ m with seq:=k }) hu hr h1 w1.1 h2 hq hQ hi (hs _)
  exact far4 hu hr h1 hq hQ hi (hs _) (by show m.low=1;omega) h3
 ·exact jyt hu hr h1 (w.p2 h1).1.1 hq hQ hi (hs _)
 ·exact hp h1
structure ZZ (τ:Nat→Trust) (v:Str) (G i t:Nat) (m:Mach):Prop where
 w:W1 τ v i m
 l2:G.testBit i=true→2≤t→1≤m.prep.n
 l3:G.testBit i=true→3≤t→m.phase=1→1≤m.conf.n
 l4:G.testBit i=true→4≤t→m.phase=2
def TmOk (t:Nat) (tm:Tm):Prop:=tm.due=-1∨(2≤t∧4≤tm.due∧tm.n=1)
theorem jvw {tm:Tm} (h:TmOk t tm) (ht:t+1≤3) (hb:m.bal.n=1) (h0:t=0→togM m=false):(stepV tm m ((t:Int)+1)).2=false∧TmOk (t+1) (stepV tm m ((t:Int)+1)).1:=by
 unfold stepV
 split
 ·exact ⟨rfl,.inl rfl⟩
 split
 ·exact ⟨rfl,.inl rfl⟩
 ·rename_i htog
  have ht0:¬ t=0:=fun e=>htog (h0 e)
  split
  ·refine ⟨rfl,.inr ⟨by omega,?_,hb⟩⟩
   show 4≤(t:Int)+1+waitV m.bal.n
   rw [hb]
   have:waitV 1=2:=by decide
   omega
  ·rename_i hnew
   unfold stepNew at hnew
   simp only [Bool.or_eq_true,not_or,qm,Bool.not_eq_true',decide_eq_false_iff_not,Classical.not_not] at hnew
   rcases h with h | h
   ·exact qo h hnew.1
   ·rw [qe (by omega)]
    exact ⟨rfl,.inr ⟨by omega,h.2.1,h.2.2⟩⟩
end
structure Grp (S:LS) (A:Nat) (τ:Nat→Trust) (v:Str) (G:Nat):Prop where
 on:∀ i,A.testBit i=true→S.on i∧S.T i=TA A τ∧S.vv i=v
 lk:∀ i j,A.testBit i=true→(S.lk i j=true↔A.testBit j=true∧¬ j=i)
 vt:∀ j,A.testBit j=true→validT (τ j)=0
 g1:G<1024
 gq:Qt τ G
 ga:Sub G A
 gm:∀ q,q<1024→Qt τ q→Sub q A→Sub q G
structure GS (S:LS) (A:Nat) (τ:Nat→Trust) (v:Str) (G t:Nat) (K N:Nat→Nat→Option Evp) (w:Wld):Prop where
 lk:LK S t K N w
 kne:∀ i j e,A.testBit i=true→(K i j=some e∨N i j=some e)→NE e
 n0:t=0→∀ i j,A.testBit i=true→N i j=none
 nn:∀ i j,A.testBit i=true→(A.testBit j=true∧¬ j=i→1≤t→N i j=some (envOf w j))∧(¬ (A.testBit j=true∧¬ j=i)→N i j=none)
 nd:∀ i p s,A.testBit i=true→w.nodes[i]?=some p→p.slots=[s]→ZZ τ v G i t s.mach∧¬ s.mach.phase=3∧TmOk t s.tm
def Fin (A:Nat) (w:Wld):Prop:=∃ i p s,A.testBit i=true∧w.nodes[i]?=some p∧p.slots=[s]∧s.mach.phase=3
theorem GS.step (hS:S.Ok) {τ:Nat→Trust} {G:Nat} {K N:Nat→Nat→Option Evp} {w:Wld} (hg:Grp S A τ v G) (h:GS S A τ v G t K N w) (ht:t+1≤3):Fin A (tickD w)∨GS S A τ v G (t+1) N (nxtN S (tickD w) N) (tickD w):=by
 obtain ⟨hlk,hw⟩:=LK.tick hS h.lk (by omega) (P:=fun i m=>A.testBit i=true→W1 τ v i m) (fun i hi=>by
  by_cases hA:A.testBit i=true
  ·obtain ⟨_,hT,hv⟩:=hg.on i hA
   rw [hT,hv]
   have:=W1.kept (A:=A) (v:=v) (i:=i) (K:=K i) (N:=N i) hg.vt (fun j e he=>h.kne i j e hA he)
   exact ⟨fun m k w _=>this.1 m k (w hA),fun m q e a b c d f g o r _=>this.2 m q e a b (c hA) d f g o r⟩
  ·exact ⟨fun m k w hA'=>qo hA' hA,fun m q e a b c d f g o r hA'=>qo hA' hA⟩)
  (fun i p s hi hp ha hA=>(h.nd i p s hA hp ha.nl.slots).1.w)
 by_cases hfin:Fin A (tickD w)
 ·exact .inl hfin
 right
 -- each node of the group
 have hN:∀ i p' s',A.testBit i=true→(tickD w).nodes[i]?=some p'→p'.slots=[s']→ZZ τ v G i (t+1) s'.mach∧¬ s'.mach.phase=3∧TmOk (t+1) s'.tm∧NE (envR s'.mach):=fun i p' s' hA hp' hs'=>by
  obtain ⟨hon,hT,hv⟩:=hg.on i hA
  obtain ⟨p,s,p2,s2,m,a1,a2,a3,a4,a5⟩:=hw i hon
  rw [hp'] at a3;cases a3
  have e2:=a4.nl.slots
  rw [hs',List.cons.injEq] at e2
  obtain ⟨rfl,_⟩:=e2
  obtain ⟨z,z3,ztm⟩:=h.nd i p s hA a1 a2.nl.slots
  have hum:=a5.um
  have har:=a5.ar
  rw [hT,hv] at hum har
  have w1:=a5.pm hA
  have hm3:¬ m.phase=3:=fun hp3=>by
   have:s'.mach=m:=by
    rcases a5.go with h1 | ⟨_,h1,_⟩
    ·exact h1
    ·omega
   exact hfin ⟨i,p',s',hA,hp',hs',by rw [this];exact hp3⟩
  have hne:=har.ne w1 hm3
  have hbal:m.bal.n=1:=hne.1.bal
  -- what all others have said
  have hsaid:∀ p:Evp→Bool,(1≤t→∀ j pj sj,G.testBit j=true→¬ j=i→w.nodes[j]?=some pj→pj.slots=[sj]→p (envR sj.mach)=true)→1≤t→Said p G i m.heard:=fun pr hpr h1 j hj hGj=>by
   have hAj:=hg.ga j hGj
   have hnn:=(h.nn i j hA).1 ⟨hAj,hj⟩ h1
   obtain ⟨pj,sj,b1,b2⟩:=h.lk.nd j (hg.on j hAj).1
   rw [jbB b1 b2.nl.slots] at hnn
   refine ⟨_,a5.hl j _ hnn,?_,hpr h1 j pj sj hGj hj b1 b2.nl.slots⟩
   have:=b2.nl.us.mach.node
   show sj.mach.node.toNat=j
   omega
  have htog:t=0→togM m=false:=fun e=>by
   cases htg:togM m with
   | false=>rfl
   | true =>
    obtain ⟨q,q1,q2,q3,q4,q5⟩:=jj7 hum htg
    have hno:∀ j,¬ j=i→q.testBit j=true→False:=fun j hj hq=>by
     obtain ⟨x,hx,hxj⟩:=q5 j hj hq
     have:=a5.hk x hx
     rw [hxj] at this
     rw [h.n0 e i j hA] at this;cases this
    exact qo (AR.alone hum har w1 q1 q2 q3 (fun p j hj hq=>(hno j hj hq).elim)) hm3
  obtain ⟨t1,t2⟩:=jvw ztm ht hbal htog
  have hgo:s'.mach=m:=by
   rcases a5.go with h1 | ⟨h1,_⟩
   ·exact h1
   ·rw [t1] at h1;cases h1
  obtain ⟨kk,hu,hr⟩:=har
  have hb1:m.phase=1→m.bal.n=1:=fun _=>hbal
  rw [hgo]
  have l2:G.testBit i=true→2≤t+1→1≤m.prep.n:=fun hG h2=>by
   have hs2:Said (vote1 v) G i m.heard:=hsaid _ (fun _ j pj sj hGj hj hpj hsj=>by
    obtain ⟨pj',sj',b1,b2⟩:=h.lk.nd j (hg.on j (hg.ga j hGj)).1
    rw [hpj] at b1;cases b1
    have e2:=b2.nl.slots
    rw [hsj,List.cons.injEq] at e2
    obtain ⟨rfl,_⟩:=e2
    have:=b2.nl.us.mach.env_ue
    rw [(hg.on j (hg.ga j hGj)).2.2] at this
    exact this.vote) (by omega)
   rcases jys hu hr hb1 hg.g1 hg.gq hG hs2 with h3 | h3
   ·exact qo h3 hm3
   ·exact h3
  refine ⟨⟨w1,l2,fun hG h3 hp1=>?_,fun _ h4=>qo h4 (by omega)⟩,hm3,by rw [a5.tm];exact t2,hne.1⟩
  have hs3:Said (fun e=>apR e (bal1 v)) G i m.heard:=hsaid _ (fun _ j pj sj hGj hj hpj hsj=>by
   have hAj:=hg.ga j hGj
   obtain ⟨z,z3,_⟩:=h.nd j pj sj hAj hpj hsj
   obtain ⟨pj',sj',b1,b2⟩:=h.lk.nd j (hg.on j hAj).1
   rw [hpj] at b1;cases b1
   have e2:=b2.nl.slots
   rw [hsj,List.cons.injEq] at e2
   obtain ⟨rfl,_⟩:=e2
   have hue:=b2.nl.us.mach.env_ue
   rw [(hg.on j hAj).2.2] at hue
   show apR (envR sj.mach) (bal1 v)=true
   rw [hue.ap (by show ¬ sj.mach.phase=3;exact z3),UM.eprep z3 b2.nl.us.mach.ph]
   exact qg (z.l2 hGj (by omega))) (by omega)
  exact jyl (m:={ m with seq:=kk }) hu hr hp1 hbal (l2 hG (by omega)) hg.g1 hg.gq hG hs3
 refine ⟨hlk,fun i j e hA he=>?_,fun h0=>qo h0 (by omega),fun i j hA=>⟨fun hj _=>?_,fun hj=>?_⟩,fun i p s hA hp hs=>?_⟩
 ·rcases he with he | he
  ·exact h.kne i j e hA (.inr he)
  ·unfold nxtN at he
   by_cases hl:S.lk i j=true
   ·rw [qf hl,ql] at he
    have hj:=(hg.lk i j hA).1 hl
    obtain ⟨pj,sj,b1,b2⟩:=hlk.nd j (hg.on j hj.1).1
    rw [← he,jbB b1 b2.nl.slots]
    exact (hN j pj sj hj.1 b1 b2.nl.slots).2.2.2
   ·rw [qe hl] at he;exact h.kne i j e hA (.inr he)
 ·unfold nxtN
  rw [qf ((hg.lk i j hA).2 hj)]
 ·unfold nxtN
  rw [qe (fun hl=>hj ((hg.lk i j hA).1 hl))]
  exact (h.nn i j hA).2 hj
 ·have:=hN i p s hA hp hs
  exact ⟨this.1,this.2.1,this.2.2.1⟩
theorem jqF {tm:Tm} (h:(stepV tm m now).2=true):togM m=true:=by
 unfold stepV at h
 split at h
 ·cases h
 split at h
 ·cases h
 ·rename_i h1
  cases e:togM m with
  | true=>rfl
  | false=>exact qo e h1
structure G4 (S:LS) (A:Nat) (τ:Nat→Trust) (v:Str) (G t:Nat) (K N:Nat→Nat→Option Evp) (w:Wld):Prop where
 lk:LK S t K N w
 kne:∀ i j e,A.testBit i=true→(K i j=some e∨N i j=some e)→LE e
 nn:∀ i j,A.testBit i=true→A.testBit j=true∧¬ j=i→N i j=some (envOf w j)
 nd:∀ i p s,G.testBit i=true→w.nodes[i]?=some p→p.slots=[s]→W5 s.mach
theorem NdA.one {K:Nat→Option Evp} {i:Nat} {s':Slt} (h:NdA S t K i p s) (hs:p.slots=[s']):s'=s:=by
 have e2:=h.nl.slots
 rw [hs,List.cons.injEq] at e2
 exact e2.1
theorem GS.four (hS:S.Ok) {τ:Nat→Trust} {G:Nat} {K N:Nat→Nat→Option Evp} {w:Wld} (hg:Grp S A τ v G) (h:GS S A τ v G 3 K N w):Fin A (tickD w)∨G4 S A τ v G 4 N (nxtN S (tickD w) N) (tickD w):=by
 obtain ⟨hlk,hw⟩:=LK.tick hS h.lk (by omega) (P:=fun i m=>A.testBit i=true→W1 τ v i m) (fun i hi=>by
  by_cases hA:A.testBit i=true
  ·obtain ⟨_,hT,hv⟩:=hg.on i hA
   rw [hT,hv]
   have:=W1.kept (A:=A) (v:=v) (i:=i) (K:=K i) (N:=N i) hg.vt (fun j e he=>h.kne i j e hA he)
   exact ⟨fun m k w _=>this.1 m k (w hA),fun m q e a b c d f g o r _=>this.2 m q e a b (c hA) d f g o r⟩
  ·exact ⟨fun m k w hA'=>qo hA' hA,fun m q e a b c d f g o r hA'=>qo hA' hA⟩)
  (fun i p s hi hp ha hA=>(h.nd i p s hA hp ha.nl.slots).1.w)
 by_cases hfin:Fin A (tickD w)
 ·exact .inl hfin
 right
 have hN:∀ i p' s',A.testBit i=true→(tickD w).nodes[i]?=some p'→p'.slots=[s']→LE (envR s'.mach)∧(G.testBit i=true→W5 s'.mach):=fun i p' s' hA hp' hs'=>by
  obtain ⟨hon,hT,hv⟩:=hg.on i hA
  obtain ⟨p,s,p2,s2,m,a1,a2,a3,a4,a5⟩:=hw i hon
  rw [hp'] at a3;cases a3
  obtain rfl:=a4.one hs'
  have hum:=a5.um
  have har:=a5.ar
  rw [hT,hv] at hum har
  have w1:=a5.pm hA
  have hm3:¬ m.phase=3:=fun hp3=>by
   have:s'.mach=m:=by
    rcases a5.go with h1 | ⟨_,h1,_⟩
    ·exact h1
    ·omega
   exact hfin ⟨i,p',s',hA,hp',hs',by rw [this];exact hp3⟩
  have hne:=har.ne w1 hm3
  have hbal:m.bal.n=1:=hne.1.bal
  have hph2:G.testBit i=true→m.phase=2:=fun hG=>by
   refine Classical.byContradiction fun hn=>?_
   have hp1:m.phase=1:=by have:=hum.ph;omega
   have hsaid:∀ pr:Evp→Bool,(∀ j pj sj,G.testBit j=true→¬ j=i→w.nodes[j]?=some pj→NdA S 3 (K j) j pj sj→pr (envR sj.mach)=true)→Said pr G i m.heard:=fun pr hpr j hj hGj=>by
    have hAj:=hg.ga j hGj
    have hnn:=(h.nn i j hA).1 ⟨hAj,hj⟩ (by omega)
    obtain ⟨pj,sj,b1,b2⟩:=h.lk.nd j (hg.on j hAj).1
    rw [jbB b1 b2.nl.slots] at hnn
    refine ⟨_,a5.hl j _ hnn,?_,hpr j pj sj hGj hj b1 b2⟩
    have:=b2.nl.us.mach.node
    show sj.mach.node.toNat=j
    omega
   have hue:∀ j pj sj,G.testBit j=true→NdA S 3 (K j) j pj sj→UE (S.T j) v (envR sj.mach):=fun j pj sj hGj b2=>by
    have:=b2.nl.us.mach.env_ue
    rw [(hg.on j (hg.ga j hGj)).2.2] at this
    exact this
   obtain ⟨kk,hu,hr⟩:=har
   have hpr:1≤m.prep.n:=by
    have:=jys (m:={ m with seq:=kk }) hu hr (fun _=>hbal) hg.g1 hg.gq hG (hsaid _ (fun j pj sj hGj _ _ b2=>(hue j pj sj hGj b2).vote))
    rcases this with h3 | h3
    ·exact qo h3 hm3
    ·exact h3
   have hz:∀ j pj sj,G.testBit j=true→w.nodes[j]?=some pj→NdA S 3 (K j) j pj sj→ZZ τ v G j 3 sj.mach∧¬ sj.mach.phase=3:=fun j pj sj hGj b1 b2=>by
    have:=h.nd j pj sj (hg.ga j hGj) b1 b2.nl.slots
    exact ⟨this.1,this.2.1⟩
   have hcf:1≤m.conf.n:=jyl (m:={ m with seq:=kk }) hu hr hp1 hbal hpr hg.g1 hg.gq hG (hsaid _ (fun j pj sj hGj _ b1 b2=>by
    obtain ⟨z,z3⟩:=hz j pj sj hGj b1 b2
    show apR (envR sj.mach) (bal1 v)=true
    rw [(hue j pj sj hGj b2).ap (by show ¬ sj.mach.phase=3;exact z3),UM.eprep z3 b2.nl.us.mach.ph]
    exact qg (z.l2 hGj (by omega))))
   have hw1:=w1.p1 hp1
   exact far4 (m:={ m with seq:=kk }) hu hr hp1 hg.g1 hg.gq hG (hsaid (com1 v) (fun j pj sj hGj _ b1 b2=>by
    obtain ⟨z,z3⟩:=hz j pj sj hGj b1 b2
    have hu:=hue j pj sj hGj b2
    unfold com1
    rcases b2.nl.us.mach.ph with hpj | hpj | hpj
    ·have zc:=z.l3 hGj (by omega) hpj
     have zw:=z.w.p1 hpj
     have hhi:(envR sj.mach).high=sj.mach.conf.n:=b2.nl.us.mach.high1 hpj
     unfold vcR
     rw [hu.ok,qg hu.bal,hhi]
     show (acR (envR sj.mach) v 1 1||((true&&(decide ((1:Int)≤1)&&(decide ((1:Int)≤1)&&(true&&(!decide (sj.mach.low=0)&&decide (sj.mach.low≤1))))))&&(!decide ((envR sj.mach).kind=1)||decide (1≤sj.mach.conf.n))))=true
     rw [show sj.mach.low=1 by omega,qg zc];simp
    ·rw [jmC hu (by show ¬ sj.mach.phase=1;omega) (z.w.p2 hpj).1.1];rfl
    ·exact qo hpj z3)) (by show m.low=1;omega) hcf
  rcases a5.go with h1 | ⟨h1,_,k,h2,h3⟩
  ·rw [h1]
   exact ⟨w1.own_le hum,fun hG=>⟨.inl (hph2 hG),(w1.p2 (hph2 hG)).1⟩⟩
  ·have htg:=jqF h1
   obtain ⟨q,q1,q2,q3,q4,_⟩:=jj7 hum htg
   have hG:=hg.gm q q1 q2 q4 i q3
   have w5:W5 { m with bal:=⟨m.bal.n+1,S.vv i⟩ }:=⟨.inl (hph2 hG),(w1.p2 (hph2 hG)).1⟩
   have hle:∀ e∈m.heard,LE e:=fun e he=>(h.kne i _ e hA (.inr (a5.hk e he))).low
   have w6:=W5.rest h2 w5 hle
   rw [h3]
   have w7:W5 { restM { m with bal:=⟨m.bal.n+1,S.vv i⟩ } with seq:=k }:=w6
   exact ⟨w7.own_le,fun _=>w7⟩
 refine ⟨hlk,fun i j e hA he=>?_,fun i j hA hj=>?_,fun i p s hG hp hs=>(hN i p s (hg.ga i hG) hp hs).2 hG⟩
 ·rcases he with he | he
  ·exact (h.kne i j e hA (.inr he)).low
  ·unfold nxtN at he
   by_cases hl:S.lk i j=true
   ·rw [qf hl,ql] at he
    have hj:=(hg.lk i j hA).1 hl
    obtain ⟨pj,sj,b1,b2⟩:=hlk.nd j (hg.on j hj.1).1
    rw [← he,jbB b1 b2.nl.slots]
    exact (hN j pj sj hj.1 b1 b2.nl.slots).1
   ·rw [qe hl] at he;exact (h.kne i j e hA (.inr he)).low
 ·unfold nxtN
  rw [qf ((hg.lk i j hA).2 hj)]
theorem G4.five (hS:S.Ok) {τ:Nat→Trust} {G:Nat} {K N:Nat→Nat→Option Evp} {w:Wld} (hg:Grp S A τ v G) (h:G4 S A τ v G t K N w) (ht:t<100) (hne:∃ i,G.testBit i=true):Fin A (tickD w):=by
 obtain ⟨hlk,hw⟩:=LK.tick hS h.lk (by omega) (P:=fun i m=>G.testBit i=true→W5 m) (fun i hi=>by
  by_cases hG:G.testBit i=true
  ·have:=W5.kept (A:=A) (τ:=τ) (v:=v) (i:=i) (K:=K i) (N:=N i) (fun j e he=>h.kne i j e (hg.ga i hG) he)
   obtain ⟨_,hT,hv⟩:=hg.on i (hg.ga i hG)
   rw [hT,hv]
   exact ⟨fun m k w _=>this.1 m k (w hG),fun m q e a b c d f g o r _=>this.2 m q e a b (c hG) d f g o r⟩
  ·exact ⟨fun m k w hA'=>qo hA' hG,fun m q e a b c d f g o r hA'=>qo hA' hG⟩)
  (fun i p s hi hp ha hG=>h.nd i p s hG hp ha.nl.slots)
 obtain ⟨i,hG⟩:=hne
 have hA:=hg.ga i hG
 obtain ⟨hon,hT,hv⟩:=hg.on i hA
 obtain ⟨p,s,p',s',m,a1,a2,a3,a4,a5⟩:=hw i hon
 have har:=a5.ar
 have hum:=a5.um
 rw [hT,hv] at hum har
 have w5:=a5.pm hG
 have hm:m.phase=3:=by
  refine Classical.byContradiction fun hn=>?_
  have hp2:m.phase=2:=by have:=w5.1;omega
  obtain ⟨kk,hu,hr⟩:=har
  refine jyt (m:={ m with seq:=kk }) hu hr hp2 w5.2.1 hg.g1 hg.gq hG (fun j hj hGj=>?_)
  have hAj:=hg.ga j hGj
  have hnn:=h.nn i j hA ⟨hAj,hj⟩
  obtain ⟨pj,sj,b1,b2⟩:=h.lk.nd j (hg.on j hAj).1
  rw [jbB b1 b2.nl.slots] at hnn
  have wj:=h.nd j pj sj hGj b1 b2.nl.slots
  have hue:=b2.nl.us.mach.env_ue
  rw [(hg.on j hAj).2.2] at hue
  refine ⟨_,a5.hl j _ hnn,?_,jmC hue (by show ¬ sj.mach.phase=1;have:=wj.1;omega) wj.2.1⟩
  have:=b2.nl.us.mach.node
  show sj.mach.node.toNat=j
  omega
 have hgo:s'.mach=m:=by
  rcases a5.go with h1 | ⟨_,h1,_⟩
  ·exact h1
  ·omega
 exact ⟨i,p',s',hA,a3,a4.nl.slots,by rw [hgo];exact hm⟩
theorem LK.fin (hS:S.Ok) (hA:∀ i,A.testBit i=true→S.on i) {K N:Nat→Nat→Option Evp} {w:Wld} (h:LK S t K N w) (ht:t<150) (hf:Fin A w):Fin A (tickD w):=by
 obtain ⟨i,p,s,hi,hp,hs,h3⟩:=hf
 obtain ⟨_,hw⟩:=LK.tick hS h ht (P:=fun j m=>j=i→m.phase=3) (fun j hj=>by
  by_cases e:j=i
  ·have:=jt3 (T:=S.T j) (v:=S.vv j) (i:=j) (K:=K j) (N:=N j)
   exact ⟨fun m k w _=>this.1 m k (w e),fun m q e' a b c d f g o r _=>this.2 m q e' a b (c e) d f g o r⟩
  ·exact ⟨fun m k w hA'=>qo hA' e,fun m q e' a b c d f g o r hA'=>qo hA' e⟩)
  (fun j pj sj hj hpj ha e=>by
    subst e
    rw [hp] at hpj;cases hpj
    rw [← ha.one hs];exact h3)
 obtain ⟨_,_,p',s',m,_,_,a3,a4,a5⟩:=hw i (hA i hi)
 have hm:=a5.pm rfl
 have hgo:s'.mach=m:=by
  rcases a5.go with h1 | ⟨_,h1,_⟩
  ·exact h1
  ·omega
 exact ⟨i,p',s',hi,a3,a4.nl.slots,by rw [hgo];exact hm⟩
theorem LK.go (hS:S.Ok) {K N:Nat→Nat→Option Evp} {w:Wld} (h:LK S t K N w) (ht:t<150):LK S (t+1) N (nxtN S (tickD w) N) (tickD w) :=
 (LK.tick hS h ht (P:=fun _ _=>True) (fun i hi=>jqB) (fun _ _ _ _ _ _=>trivial)).1
def tickI:Nat→Wld→Wld
 | 0,w=>w
 | n+1,w=>tickI n (tickD w)
theorem LK.goI {S:LS} (hS:S.Ok):∀ (n:Nat) {t:Nat} {K N:Nat→Nat→Option Evp} {w:Wld},LK S t K N w→t+n≤150→∃ K' N',LK S (t+n) K' N' (tickI n w)
 | 0,t,K,N,w,h,_=>⟨K,N,h⟩
 | n+1,t,K,N,w,h,ht=>by
  obtain ⟨K',N',h'⟩:=LK.goI hS n (h.go hS (by omega)) (by omega)
  exact ⟨K',N',by rw [show t+(n+1)=t+1+n by omega];exact h'⟩
theorem LK.finI {S:LS} (hS:S.Ok) {A:Nat} (hA:∀ i,A.testBit i=true→S.on i):∀ (n:Nat) {t:Nat} {K N:Nat→Nat→Option Evp} {w:Wld},LK S t K N w→t+n≤150→Fin A w→Fin A (tickI n w)
 | 0,t,K,N,w,h,_,hf=>hf
 | n+1,t,K,N,w,h,ht,hf=>LK.finI hS hA n (h.go hS (by omega)) (by omega) (h.fin hS hA (by omega) hf)
theorem jbN (n:Nat) (w:Wld):tickI (n+1) w=tickI n (tickD w):=rfl
theorem GS.decides (hS:S.Ok) {τ:Nat→Trust} {G:Nat} {K N:Nat→Nat→Option Evp} {w:Wld} (hg:Grp S A τ v G) (h:GS S A τ v G 0 K N w) (hne:∃ i,G.testBit i=true) (n:Nat) (hn:5≤n∧n≤100):Fin A (tickI n w):=by
 have hA:∀ i,A.testBit i=true→S.on i:=fun i hi=>(hg.on i hi).1
 obtain ⟨k,rfl⟩:∃ k,n=k+5:=⟨n - 5,by omega⟩
 have l1:=h.lk.go hS (by omega)
 have l2:=l1.go hS (by omega)
 have l3:=l2.go hS (by omega)
 have l4:=l3.go hS (by omega)
 have l5:=l4.go hS (by omega)
 rw [jbN]
 rcases h.step hS hg (by omega) with f | g1
 ·exact l1.finI hS hA _ (by omega) f
 ·rw [jbN]
  rcases g1.step hS hg (by omega) with f | g2
  ·exact l2.finI hS hA _ (by omega) f
  ·rw [jbN]
   rcases g2.step hS hg (by omega) with f | g3
   ·exact l3.finI hS hA _ (by omega) f
   ·rw [jbN]
    rcases g3.four hS hg with f | g4
    ·exact l4.finI hS hA _ (by omega) f
    ·rw [jbN]
     exact l5.finI hS hA k (by omega) (g4.five hS hg (by omega) hne)
theorem jmR:∀ (l:List Ptc) (f:Nat→Trust) (k:Nat),(∀ (j:Nat) p,l[j]?=some p→p.node=((k+j:Nat):Int)∧checkP p=true∧p.t=f (k+j))→wnGo l ((List.range' k l.length).map fun i=>[f i]) k=true
 | [],f,k,_=>by simp [wnGo]
 | p::r,f,k,h=>by
  have h0:=h 0 p rfl
  have ih:=jmR r f (k+1) (fun j q hq=>by rw [show k+1+j=k+(j+1) by omega];exact h (j+1) q (by simpa using hq))
  have hv:validT p.t=0:=by
   have:=h0.2.1
   unfold checkP at this
   simp only [qh,qm] at this
   exact this.1.1.2
  rw [qk,List.range'_succ,List.map_cons,wnGo,ih,h0.2.1,qg (p:=p.node=(k:Int)) (by have:=h0.1;omega)]
  have ht:f k=p.t:=by have:=h0.2.2;rw [Nat.add_zero] at this;exact this.symm
  rw [ht]
  simp only [hasTr,List.any_cons,List.any_nil,Bool.or_false,jcN,trsGo,qk,qt,Bool.and_true,qs,Bool.not_false,qg hv]
  rfl
def LS.Trs (S:LS):Prop:=S.trs=(List.range S.n).map fun i=>[S.tr i]
theorem LK.check (hS:S.Ok) {K N:Nat→Nat→Option Evp} {w:Wld} (h:LK S t K N w) (ht:t≤200) (hill:S.ill<2^S.n) (htr:S.Trs) (hsk:∀ i,i<S.n→S.ill.testBit i=true→∃ p,w.nodes[i]?=some p∧p.node=(i:Int)∧checkP p=true∧p.t=S.tr i):checkW w=true:=by
 have hn:=hS.n10
 have hnode:∀ (j:Nat) p,w.nodes[j]?=some p→p.node=((0+j:Nat):Int)∧checkP p=true∧p.t=S.tr (0+j):=fun j p hp=>by
  rw [Nat.zero_add]
  have hj:j<S.n:=by have:=(List.getElem?_eq_some_iff.1 hp).1;rw [h.len] at this;exact this
  cases hil:S.ill.testBit j with
  | true =>
   obtain ⟨q,hq,a,b,c⟩:=hsk j hj hil
   rw [hp] at hq;cases hq
   exact ⟨a,b,c⟩
  | false =>
   cases hac:S.act j with
   | true =>
    obtain ⟨q,s,hq,a⟩:=h.nd j ⟨hj,hil,hac⟩
    rw [hp] at hq;cases hq
    exact ⟨a.nl.node,a.nl.check,a.nl.t⟩
   | false =>
    obtain ⟨q,hq,a,_,b⟩:=h.no j hj hil hac
    rw [hp] at hq;cases hq
    exact ⟨a.1,b,a.2.2⟩
 have h1:=jmR w.nodes S.tr 0 hnode
 have e:w.trs=(List.range' 0 w.nodes.length).map fun i=>[S.tr i]:=by rw [h.trs,htr,h.len,List.range_eq_range']
 have h3:headW w=true:=by
  unfold headW
  rw [h.chk,h.len,h.il,h.time,h.trs,htr,qu,List.length_range]
  rw [qg (p:=(t:Int)≥0) (by omega),qg (p:=(t:Int)≤200) (by omega),qg (p:=1≤S.n) hn.1,qg (p:=S.n≤10) hn.2,qg (p:=(S.ill:Int)≥0) (by omega),qg (p:=(S.ill:Int)<(2^S.n:Nat)) (by omega),qg (p:=S.n=S.n) rfl]
  rfl
 unfold checkW
 rw [h3,e,h1];rfl
theorem juw {w:Wld}:∀ (l:List Ptc) (k i:Nat) (p:Ptc),l[i]?=some p→∀ o∈p.slots.flatMap (otcS w (k+i) p),o∈otcGo w l k
 | [],k,i,p,h,_,_=>by simp at h
 | q::r,k,0,p,h,o,ho=>by
  simp only [List.getElem?_cons_zero,ql] at h
  subst h
  rw [otcGo]
  exact List.mem_append_left _ ho
 | q::r,k,i+1,p,h,o,ho=>by
  rw [otcGo]
  refine List.mem_append_right _ (juw r (k+1) i p (by simpa using h) o ?_)
  rw [show k+1+i=k+(i+1) by omega];exact ho
theorem NdA.decided {K:Nat→Option Evp} {i:Nat} (h:NdA S t K i p s) (k:Int):decidedP p k=if k=1∧s.mach.phase=3 then (S.vv i,true) else (noS,false):=by
 have hd:=h.nl.us.mach.dcd
 have hsl:=h.nl.us.mach.slot
 unfold decidedP
 rw [qe (by rw [h.nl.check];decide)]
 by_cases hk:k=1
 ·subst hk
  rw [jmO h.nl.slots hsl,show p.slots[0]?=some s by rw [h.nl.slots];rfl]
  simp only
  rw [h.nl.us.done,h.nl.us.value,hd,hsl]
  by_cases hp:s.mach.phase=3
  ·rw [qf hp,qf (show (decide ((1:Int)=1)&&((S.vv i,true):Str × Bool).2)=true from rfl),qf (show True∧s.mach.phase=3 from ⟨trivial,hp⟩)]
  ·rw [qe hp,qe (show ¬ (decide ((1:Int)=1)&&((noS,false):Str × Bool).2)=true by decide),qe (show ¬ (True∧s.mach.phase=3) from fun h=>hp h.2)]
 ·rw [qe (fun h=>hk h.1)]
  cases hx:p.slots[atP p k]? with
  | none=>rfl
  | some y =>
   have hy:y=s:=by
    have:=qj hx
    rw [h.nl.slots] at this
    exact List.mem_singleton.1 this
   simp only
   rw [hy,hsl,qx (fun e=>hk e.symm),qv,qe (by decide)]
theorem LK.outs {K N:Nat→Nat→Option Evp} {w:Wld} (h:LK S t K N w):∀ o∈outcomes w,∃ i:Nat,S.on i∧o.node=(i:Int)∧o.slot=1∧o.val=S.vv i:=by
 intro o ho
 unfold outcomes at ho
 split at ho
 ·cases ho
 ·obtain ⟨j,p,h1,h2,h3,h4,h5⟩:=jjM _ _ _ ho
  rw [Nat.zero_add] at h2 h3
  rw [h.sick] at h3
  have hj:j<S.n:=by have:=(List.getElem?_eq_some_iff.1 h1).1;rw [h.len] at this;exact this
  cases hac:S.act j with
  | false =>
   obtain ⟨q,hq,_,hs,_⟩:=h.no j hj h3 hac
   rw [h1] at hq;cases hq
   rw [jna (fun s hss=>by rw [hs] at hss;cases hss)] at h4;cases h4
  | true =>
   obtain ⟨q,s,hq,a⟩:=h.nd j ⟨hj,h3,hac⟩
   rw [h1] at hq;cases hq
   rw [a.decided] at h4 h5
   by_cases hc:o.slot=1∧s.mach.phase=3
   ·rw [qf hc] at h5
    exact ⟨j,⟨hj,h3,hac⟩,h2,hc.1,h5⟩
   ·rw [qe hc] at h4;cases h4
theorem LK.out_fin {K N:Nat→Nat→Option Evp} {w:Wld} (h:LK S t K N w) (hc:checkW w=true) (hA:∀ i,A.testBit i=true→S.on i) (hf:Fin A w):∃ i:Nat,A.testBit i=true∧⟨(i:Int),1,S.vv i⟩∈outcomes w:=by
 obtain ⟨i,p,s,hi,hp,hs,h3⟩:=hf
 have hon:=hA i hi
 obtain ⟨q,s',hq,a⟩:=h.nd i hon
 rw [hp] at hq;cases hq
 obtain rfl:=a.one hs
 refine ⟨i,hi,?_⟩
 unfold outcomes
 rw [qe (by rw [hc];decide)]
 refine juw w.nodes 0 i p hp _ ?_
 rw [hs,List.flatMap_cons,List.flatMap_nil,List.append_nil,Nat.zero_add]
 have hd:=a.decided 1
 rw [qf (show (1:Int)=1∧s.mach.phase=3 from ⟨rfl,h3⟩)] at hd
 unfold otcS
 rw [a.nl.us.mach.slot,hd,h.sick,hon.2.1,qf (show (((S.vv i,true):Str × Bool).2&&!false)=true from rfl)]
 exact List.mem_singleton.2 rfl
theorem jmd:∀ (n:Nat) (w:Wld),w.time+n≤200→ticksW n w=(tickI n w,0)
 | 0,w,_=>rfl
 | n+1,w,h=>by
  have h1:tickW w=(tickD w,0):=by unfold tickW;rw [qe (by omega)]
  have ht:(tickD w).time=w.time+1:=(jhm w).2.1
  rw [ticksW,h1,qe (by simp),jbN]
  exact jmd n (tickD w) (by rw [ht];omega)
theorem jwP (c:List Mem):c.map (fun m=>[m.t])=(List.range c.length).map fun i:Nat=>[tOf c i]:=by
 refine List.ext_getElem (by simp) (fun i h1 h2=>?_)
 simp only [List.getElem_map,List.getElem_range]
 rw [ja9 (List.getElem?_eq_getElem (by simpa using h1))]
theorem jqq {w:Wld} {s:Sp} {f:Ptc→Ptc × Int} (hb:thereW w s.node=true) (h:(nodeW w s f).2=0):(nodeW w s f).1.net=w.net:=by
 unfold nodeW at h ⊢
 split at h
 ·cases h
 ·rename_i h1
  rw [qe h1]
  have hl:s.node.toNat<w.nodes.length:=by simp only [thereW,qh,qm] at hb;omega
  rw [List.getElem?_eq_getElem hl] at h ⊢
  simp only at h ⊢
  split at h
  ·rename_i h2;exact qo h h2
  ·rename_i h2;rw [qe h2];rfl
theorem jsX {w:Wld} {s:Sp} (hk:s.kind=8) (h:(doW w s).2=0):(doW w s).1.net=w.net:=by
 have hck:checkW w=true:=by
  cases e:checkW w with
  | true=>rfl
  | false=>unfold doW at h;rw [qf e] at h;cases h
 have hth:thereW w s.node=true:=by
  cases e:thereW w s.node with
  | true=>rfl
  | false =>
   unfold doW at h
   rw [qe (by rw [hck];decide),qe (by omega),qf ⟨⟨by omega,by omega⟩,e⟩] at h
   cases h
 rw [jxz hck hk hth] at h ⊢
 exact jqq hth h
theorem jhM:∀ (l:List Sp) (w w1:Wld) (k j:Nat),(∀ s∈l,s.kind=8)→runGo w l k=(w1,j,0)→w1.net=w.net
 | [],w,w1,k,j,_,h=>by
  simp only [runGo,Prod.mk.injEq] at h
  rw [← h.1]
 | s::r,w,w1,k,j,hs,h=>by
  rw [runGo] at h
  split at h
  ·rename_i h1
   simp only [Prod.mk.injEq] at h
   exact qo h.2.2 h1
  ·rename_i h1
   rw [jhM r _ w1 _ j (fun x hx=>hs x (qi _ hx)) h]
   exact jsX (hs s (List.mem_cons_self ..)) (by simpa using h1)
section
variable {c:List Mem} {v:Str}
theorem jdG (hl:c.length≤10) {i:Nat}:(co c 0).testBit i=true↔i<c.length:=by
 rw [jlu hl (by omega),Nat.zero_testBit]
 simp
def plainS (c:List Mem) (v:Str):LS:=⟨c.length,fun i=>tOf c i,c.map (fun m=>[m.t]),0,fun _=>true,fun _=>v,fun _=>TA (co c 0) (fun j=>tOf c j),[]⟩
theorem jx8 (a b:Nat):apN [] a b=false:=by
 unfold apN apartV partV
 split
 ·rfl
 ·simp [partGo]
theorem jfy (hl:c.length≤10) {i:Nat}:(plainS c v).on i↔i<c.length:=by
 unfold LS.on plainS
 simp
theorem jto (hc:CfgOk c):(plainS c v).Ok:=⟨hc.len,fun i j _ _ _=>⟨rfl,rfl,rfl⟩⟩
theorem jgH (hc:CfgOk c):Grp (plainS c v) (co c 0) (fun j=>tOf c j) v (great c (co c 0)):=by
 have hl:=hc.len.2
 have g:=jbP c (jxX (s:=0) hl)
 refine ⟨fun i hi=>⟨(jfy hl).2 ((jdG hl).1 hi),rfl,rfl⟩,fun i j hi=>?_,fun j hj=>?_,g.lt,fun k hk=>?_,g.within,fun q hq hQ hs=>?_⟩
 ·rw [LS.lk_iff,jfy hl,jdG hl]
  constructor
  ·rintro ⟨a,b,_⟩;exact ⟨a,b⟩
  ·rintro ⟨a,b⟩;exact ⟨a,b,jx8 j i⟩
 ·have:=(jdG hl).1 hj
  have hm:=List.getElem?_eq_getElem this
  rw [ja9 hm];exact (hc.ok j _ hm).2
 ·have h10:=jdD g.lt hk
  exact g.quorum k ((jaY g.lt).2 ⟨by omega,by omega,by rw [qr];exact hk⟩)
 ·refine g.most q hq hs (fun j hj=>?_) (fun k hk=>?_)
  ·have:=(jdG hl).1 (hs j hj)
   have hm:=List.getElem?_eq_getElem this
   exact jbD.2 ⟨_,by omega,hm,(hc.ok j _ hm).1⟩
  ·have h1:=(jaY hq).1 hk
   have e:((k.toNat:Nat):Int)=k:=by omega
   have:sat (q:Nat) (tOf c ((k.toNat:Nat):Int))=true:=hQ k.toNat h1.2.2
   rw [e] at this;exact this
def GSp (c:List Mem) (v:Str) (i:Nat) (s:Slt):Prop :=
 US (TA (co c 0) (fun j=>tOf c j)) v i s∧s.mach.t=tOf c i∧s.tm=⟨0,-1⟩∧s.mach.heard=[]∧s.mach.seq≤3∧i<c.length∧s.mach=restM (propM (m0 i (tOf c i)) v)∧UM (TA (co c 0) (fun j=>tOf c j)) v i (propM (m0 i (tOf c i)) v)
theorem juC:GSok c (GSp c v):=⟨fun i s h=>h.1.check,fun i s h=>h.1.mach.node,fun i s h=>h.2.1⟩
theorem jqC (hc:CfgOk c) (hv:1≤v.size∧v.size≤200) {i:Nat} (hi:i<c.length):(newS i 1 (tOf c i) v 0).2=0∧(prefS' (newS i 1 (tOf c i) v 0).1 v).2=0∧GSp c v i (prefS' (newS i 1 (tOf c i) v 0).1 v).1:=by
 have hl:=hc.len.2
 have hm:=List.getElem?_eq_getElem hi
 have ht:tOf c i=c[i].t:=ja9 hm
 have hT:TA (co c 0) (fun j=>tOf c j) i (tOf c i):=⟨(jdG hl).2 hi,rfl⟩
 have hvt:validT (tOf c i)=0:=by rw [ht];exact (hc.ok i _ hm).2
 have hz:sizeT (tOf c i)≤100000:=by rw [ht];exact hc.sz _ (List.getElem_mem hi)
 obtain ⟨a1,a2,s,a3,a4,a5,a6,a7,a8,_,a9⟩:=jst (T:=TA (co c 0) (fun j=>tOf c j)) (by omega:i<10) hT hvt hv hz
 exact ⟨a1,a2,by rw [a3];exact ⟨a4,a5,a6,a7,a8,hi,a9,jmT (by omega) hT hvt hv hz⟩⟩
theorem jua (hc:CfgOk c) {i:Nat} (h:GSp c v i s):W1 (fun j=>tOf c j) v i s.mach:=by
 have hum:=h.2.2.2.2.2.2.2
 have e:=jeW (v:=v) (k:=i) (t:=tOf c i) hum.vsz.1
 rw [h.2.2.2.2.2.2.1]
 have hw:W1 (fun j=>tOf c j) v i (propM (m0 i (tOf c i)) v):=by
  rw [e]
  exact ⟨fun _=>⟨rfl,by show (0:Int)≤1;omega,by show (0:Int)≤1;omega,rfl⟩,fun h=>qo (show (1:Int)=2 from h) (by omega),fun h=>qo (show (1:Int)=3 from h) (by omega)⟩
 exact hw.rest hum (jgH (v:=v) hc).vt (fun x hx=>by rw [e] at hx;cases hx)
theorem jl3 (hc:CfgOk c) (hv:1≤v.size∧v.size≤200):∃ w1,runGo (startW c 0) ((List.range c.length).map fun i:Nat=>prefSp v i) 0=(w1,c.length,0)∧checkW w1=true∧LK (plainS c v) 0 (fun _ _=>none) (fun _ _=>none) w1
 ∧ ∀ (i:Nat) p s,i<c.length→w1.nodes[i]?=some p→p.slots=[s]→GSp c v i s:=by
 have hl:=hc.len.2
 have hpow:=Nat.two_pow_pos c.length
 obtain ⟨w1,r1,p1⟩:=jgE (S:=0) (v:=v) hc juC (fun i hi _=>jqC hc hv hi) (List.range c.length) (A:=fun _=>False) (B:=fun _=>False) 0 (jkJ hc _) (fun i h=>by rw [Nat.zero_testBit] at h;cases h) (fun i hi=>⟨List.mem_range.1 hi,fun h=>h⟩) List.nodup_range
 rw [Nat.zero_add,List.length_range] at r1
 have hck:=p1.fw.check hc juC ⟨by omega,by omega⟩
 have hnet:w1.net=zNtw:=jhM _ _ _ _ _ (fun s hs=>by obtain ⟨i,_,rfl⟩:=List.mem_map.1 hs;rfl) r1
 have hnd:∀ i,i<c.length→∃ p s,w1.nodes[i]?=some p∧p.node=(i:Int)∧p.stopped=false∧p.t=tOf c i∧p.slots=[s]∧GSp c v i s:=fun i hi=>by
  have hp:=List.getElem?_eq_getElem (show i<w1.nodes.length by rw [p1.fw.len];exact hi)
  have h1:=p1.fw.nd i _ hp
  have h2:=p1.lv i _ hp (Nat.zero_testBit i)
  rcases h1.slots with h3 | ⟨h3,s,h4,h5⟩
  ·exact qo h3 (h2.2.1 (.inr (List.mem_range.2 hi)))
  ·exact ⟨_,s,hp,h1.node,h3,h1.t,h4,h5⟩
 refine ⟨w1,r1,hck,?_,fun i p s hi hp hs=>?_⟩
 ·refine ⟨p1.fw.wi,by rw [p1.fw.time];rfl,p1.fw.ill,p1.fw.trs,p1.fw.len,p1.fw.net,by rw [hnet];rfl,by rw [hnet];rfl,by rw [hnet];show (0:Int)≤_;omega,fun i hi=>?_,fun i _ _ h=>(by cases h),fun i hi=>⟨fun j e he=>(by cases he),fun j x hx=>(by cases hx)⟩,fun x hx=>(by rw [hnet] at hx;cases hx),fun x hx=>(by unfold comes at hx;rw [hnet] at hx;cases hx),fun i j e _ he=>(by cases he),fun i j _ _=>.inl rfl⟩
  obtain ⟨p,s,h1,h2,h3,h4,h5,h6⟩:=hnd i ((jfy hl).1 hi)
  have hi':=(jfy hl).1 hi
  refine ⟨p,s,h1,⟨⟨h2,h3,h4,?_,h5,h6.1,h6.2.1⟩,?_,?_,fun x hx=>?_,fun j e he=>by cases he⟩⟩
  ·show validT (tOf c i)=0
   exact (jgH (v:=v) hc).vt i ((jdG hl).2 hi')
  ·have hu:=h6.2.2.2.2.2.2.2
   rw [h6.2.2.2.2.2.2.1]
   exact AR.of hu.rest (jrg hu.inv.inv)
  ·have:=h6.2.2.2.2.1
   show s.mach.seq≤5000 * (((0:Nat):Int)+1)
   omega
  ·rw [h6.2.2.2.1] at hx;cases hx
 ·obtain ⟨p',s',h1,_,_,_,h5,h6⟩:=hnd i hi
  rw [hp] at h1;cases h1
  rw [hs,List.cons.injEq] at h5
  rw [h5.1];exact h6
theorem jq9 (hc:CfgOk c) (hv:1≤v.size∧v.size≤200):∃ w,runV (startW c 0) (((List.range c.length).map fun i:Nat=>prefSp v i)++[tickSp])=(w,c.length+1,0)∧(∀ o∈outcomes w,o.slot=1∧o.val=v)∧(great c (co c 0)=0↔outcomes w=[]):=by
 have hl:=hc.len.2
 have hS:=jto (v:=v) hc
 have hg:=jgH (v:=v) hc
 obtain ⟨w1,r1,hck,hlk,hsl⟩:=jl3 hc hv
 have hd:doW w1 tickSp=ticksW 12 w1:=jye hck rfl (by show (1:Int)≤12∧(12:Int)≤200;omega)
 have hti:=jmd 12 w1 (by rw [hlk.time];omega)
 obtain ⟨K,N,h12⟩:=hlk.goI hS 12 (by omega)
 have hrun:runV (startW c 0) (((List.range c.length).map fun i:Nat=>prefSp v i)++[tickSp])=(tickI 12 w1,c.length+1,0):=by
  unfold runV
  rw [qe (by simp;omega),jey _ _ _ w1 0 (by rw [r1,qu,List.length_range,Nat.zero_add]),qu,List.length_range,Nat.zero_add,runGo,hd,hti,qe (by simp),runGo]
 have hA:∀ i,(co c 0).testBit i=true→(plainS c v).on i:=fun i hi=>(hg.on i hi).1
 have hck12:checkW (tickI 12 w1)=true:=h12.check hS (by omega) (by show 0<2^_;exact Nat.two_pow_pos _) (jwP c) (fun i _ h=>by rw [show (plainS c v).ill=0 from rfl,Nat.zero_testBit] at h;cases h)
 refine ⟨_,hrun,fun o ho=>?_,fun h0=>?_,fun h0=>?_⟩
 ·obtain ⟨i,_,_,h2,h3⟩:=h12.outs o ho
  exact ⟨h2,h3⟩
 ·have hs:Still c 0 v:=⟨hl,hc.ok,h0,by omega,hv⟩
  obtain ⟨w,k,h2,h3⟩:=jrv hc hs [] (List.range c.length) (fun i=>by simp) (fun i=>List.mem_range) List.nodup_range (by simp;omega)
  rw [List.map_nil,List.nil_append,hrun] at h2
  simp only [Prod.mk.injEq] at h2
  rw [h2.1];exact h3
 ·refine Classical.byContradiction fun hn=>?_
  have hex:∃ i,(great c (co c 0)).testBit i=true:=by
   refine Classical.byContradiction fun hno=>hn ?_
   apply Nat.eq_of_testBit_eq
   intro i
   rw [Nat.zero_testBit]
   cases e:(great c (co c 0)).testBit i with
   | false=>rfl
   | true=>exact qo ⟨i,e⟩ hno
  have hfin:Fin (co c 0) (tickI 12 w1):=by
   by_cases hf:Fin (co c 0) w1
   ·exact hlk.finI hS hA 12 (by omega) hf
   ·refine GS.decides hS hg (K:=fun _ _=>none) (N:=fun _ _=>none) ⟨hlk,fun i j e _ he=>(by rcases he with he | he<;>cases he),fun _ _ _ _=>rfl,fun i j _=>⟨fun _ h=>qo h (by omega),fun _=>rfl⟩,fun i p s hi hp hs=>?_⟩ hex 12 (by omega)
    have hgs:=hsl i p s ((jdG hl).1 hi) hp hs
    refine ⟨⟨jua hc hgs,fun _ h=>qo h (by omega),fun _ h=>qo h (by omega),fun _ h=>qo h (by omega)⟩,fun h3=>hf ⟨i,p,s,hi,hp,hs,h3⟩,.inl ?_⟩
    rw [hgs.2.2.1]
  obtain ⟨i,_,hi⟩:=h12.out_fin hck12 hA hfin
  rw [h0] at hi;cases hi
end
end Go.Tq
