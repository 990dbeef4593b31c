/- Walks: each says what one function of the program answers, for the arguments that its statement names. No condition beyond what each theorem says. -/
import Derived.Test.YtgmpjpaekpefdaaGreatAnalyserPlainW4
import Derived.Test.YtgmpjpaekpefdaaGreatProg
import Derived.KernelRfl
import Derived.Tactics
import Derived.Tactics2
import Derived.StillTactics
set_option linter.unusedVariables false
set_option linter.unusedSimpArgs false
set_option maxRecDepth 4000
set_option maxHeartbeats 8000000
namespace Go.Proofs.YtgmpjpaekpefdaaGreat
open Go Go.Av Go.Tq
variable {c m b:Mach} {k:Nat}
theorem jhc (m:Mach) (hI:InvM m):C0 246 [mcv m] (mcv (comM m)):=by
 refine xI Tryz.func246 Tryz.call246 fun hcap=>?_
 have hsz1:=hI.sz
 have hhl:=hI.hl
 have hhs:∀ e∈m.heard,sizeT e.t≤200000:=fun e he=>by have:=(hI.hs e he).1;omega
 have hal:(allM m).length≤100:=by have:=jgF m;omega
 have has9:∀ e∈allM m,sizeT e.t≤1000000000:=fun e he=>by have:=jdj (k:=200000) (by omega) hhs e he;omega
 have hbn:=hI.baln
 have hbn0:=hI.bal.n0
 have hlw:=hI.low
 have hhg:=hI.high
 have hmlen:(m.heard.map ev).length=m.heard.length:=by simp
 refine xX fun b1=>?_
 refine zAl fun b2=>?_
 refine xC ?_ ?_<;>intro hc
 ·(
 have hp1:m.phase=1:=qc hc
 refine zW ?_
 refine zDr [] ?_
 refine zT 0 ?_;refine zT 1 ?_;refine zT 2 ?_;refine zT 3 ?_;refine zT 4 ?_;refine zT 6 ?_;refine zT 7 ?_;refine zT 8 ?_;refine zT 9 ?_;refine zOn 5 ?_
 refine xA (ja7 m (by omega)) ?_
 refine zW ?_
 refine zOn 10 ?_
 refine xB (jpf m.node m.t (allM m) hal has9 m.prep m.prime) ?_;rintro _ _ ⟨rfl,rfl⟩;obtain ⟨⟨sv,lo,hi,y⟩,hb⟩:∃ b,b=comF m:=⟨_,rfl⟩;rw [show firstV m.node m.t (allM m) m.prep m.prime=(sv,lo,hi,y) from hb.symm]
 refine zW ?_
 refine zT 11 ?_;refine zT 12 ?_;refine zT 13 ?_;refine zT 14 ?_;refine zT 15 ?_;refine zT 16 ?_;refine zT 17 ?_;refine zT 18 ?_;refine zT 19 ?_
 refine zW ?_
 all_goals (
 refine xC ?_ ?_<;>intro hc
 ·(
 have hyy:y=false:=jau hc
 subst hyy
 refine xP ?_;rw [jyd hp1 hb];rfl)
 ·(
 have hyy:y=true:=jat hc
 subst hyy
 refine xL fun b7=>?_
 refine xA (ja2 m.bal ⟨hi,sv⟩) ?_
 iterate 2 refine zW ?_
 iterate 3 all_goals first | refine zW ?_ | refine xG ?_ ?_<;>intro hg
 all_goals first | (refine zY ?_;refine jaa zRc (jcJ m.bal ⟨hi,sv⟩) rfl rfl ?_) | refine zSk ?_
 all_goals refine zW ?_
 all_goals (
 refine xC ?_ ?_<;>intro hc
 ·(
 first
 | (exact xQ hc)
 |(
 have h44:(!cB m.bal ⟨hi,sv⟩||lB m.bal ⟨hi,sv⟩)=true:=by first | (rw [show (!cB m.bal ⟨hi,sv⟩)=true by with_reducible assumption];rfl) | (rw [show lB m.bal ⟨hi,sv⟩=true by with_reducible assumption];exact Bool.or_true _) | (simp_all;done) | grind
 have mk44t:True:=trivial
 refine xA (jdZ m.prep ⟨hi,sv⟩) ?_
 refine xC ?_ ?_<;>intro hc
 ·(
 have h57:covB m.prep ⟨hi,sv⟩=false:=jau hc
 have mk57t:True:=trivial
 iterate 6 refine zW ?_
 refine zDr [.box b1 _ _] ?_
 refine zT 0 ?_;refine zT 1 ?_;refine zT 2 ?_;refine zT 3 ?_;refine zT 4 ?_;refine zOn 5 ?_
 iterate 2 refine zW ?_
 refine zT 6 ?_;refine zOn 7 ?_
 iterate 2 refine zW ?_
 refine zT 8 ?_;refine zOn 9 ?_
 iterate 2 refine zW ?_
 refine zT 10 ?_;refine zOn 11 ?_
 iterate 2 refine zW ?_
 refine zT 12 ?_;refine zOn 13 ?_
 iterate 3 refine zW ?_
 all_goals (
 iterate 9 refine zW ?_
 first
 | (have:=mk69f;refine zPi ?_;rw [jsf hp1 hp2];rfl)
 | (have:=mk44t;have:=mk57t;refine zPi ?_;rw [jkI hp1 hb (qf h44) (qe (by rw [h57];decide))];rfl)))
 ·(
 have h57:covB m.prep ⟨hi,sv⟩=true:=jat hc
 have mk57f:True:=trivial
 iterate 2 refine zW ?_
 refine zDr [.box b1 _ _] ?_
 refine zT 0 ?_;refine zT 1 ?_;refine zT 2 ?_;refine zT 3 ?_;refine zT 4 ?_;refine zOn 5 ?_
 iterate 2 refine zW ?_
 refine zT 6 ?_;refine zOn 7 ?_
 iterate 2 refine zW ?_
 refine zT 8 ?_;refine zOn 9 ?_
 iterate 2 refine zW ?_
 refine zT 10 ?_;refine zOn 11 ?_
 iterate 2 refine zW ?_
 refine zT 12 ?_;refine zOn 13 ?_
 iterate 3 refine zW ?_
 all_goals (
 iterate 9 refine zW ?_
 first
 | (have:=mk69f;refine zPi ?_;rw [jsf hp1 hp2];rfl)
 | (have:=mk44t;have:=mk57t;refine zPi ?_;rw [jkI hp1 hb (qf h44) (qe (by rw [h57];decide))];rfl)
 | (have:=mk44t;have:=mk57f;refine zPi ?_;rw [jkI hp1 hb (qf h44) (qf h57)];rfl)))))
 ·(
 first
 | (exact xQ hc)
 |(
 have h44:¬ (!cB m.bal ⟨hi,sv⟩||lB m.bal ⟨hi,sv⟩)=true:=by first | (simp_all;done) | grind
 refine xA (jdZ m.prep ⟨hi,sv⟩) ?_
 refine xC ?_ ?_<;>intro hc
 ·(
 have h57:covB m.prep ⟨hi,sv⟩=false:=jau hc
 have mk57t:True:=trivial
 iterate 6 refine zW ?_
 refine zDr [.box b1 _ _] ?_
 refine zT 0 ?_;refine zT 1 ?_;refine zT 2 ?_;refine zT 3 ?_;refine zT 4 ?_;refine zOn 5 ?_
 iterate 2 refine zW ?_
 refine zT 6 ?_;refine zOn 7 ?_
 iterate 2 refine zW ?_
 refine zT 8 ?_;refine zOn 9 ?_
 iterate 2 refine zW ?_
 refine zT 10 ?_;refine zOn 11 ?_
 iterate 2 refine zW ?_
 refine zT 12 ?_;refine zOn 13 ?_
 iterate 3 refine zW ?_
 all_goals (
 refine xP ?_;rw [jkI hp1 hb (qe h44) (qe (by rw [h57];decide))];rfl))
 ·(
 have h57:covB m.prep ⟨hi,sv⟩=true:=jat hc
 have mk57f:True:=trivial
 iterate 2 refine zW ?_
 refine zDr [.box b1 _ _] ?_
 refine zT 0 ?_;refine zT 1 ?_;refine zT 2 ?_;refine zT 3 ?_;refine zT 4 ?_;refine zOn 5 ?_
 iterate 2 refine zW ?_
 refine zT 6 ?_;refine zOn 7 ?_
 iterate 2 refine zW ?_
 refine zT 8 ?_;refine zOn 9 ?_
 iterate 2 refine zW ?_
 refine zT 10 ?_;refine zOn 11 ?_
 iterate 2 refine zW ?_
 refine zT 12 ?_;refine zOn 13 ?_
 iterate 3 refine zW ?_
 all_goals (
 refine xP ?_;rw [jkI hp1 hb (qe h44) (qf h57)];rfl))))))))
 ·(
 have hp1:¬ m.phase=1:=qd hc
 refine xC ?_ ?_<;>intro hc
 ·(
 have hp2:m.phase=2:=qc hc
 refine zW ?_
 refine jr7 (stB [18,19,20]) (by kernel_rfl) ?_
 refine ja8 0 rfl (.none rfl) zKr zKr zKr (ja1 (off:=0) (sz:=1) (g:=false) rfl rfl) rfl rfl ?_
 refine jbM 1 rfl (.none rfl) zKr zKr zKr zKr (jeB rfl jct qp rfl zRc) rfl rfl ?_
 refine ja8 2 rfl (.none rfl) zKr zKr zKr (ja1 (off:=3) (sz:=3) (g:=true) rfl rfl) rfl rfl ?_
 refine jbM 3 rfl (.none rfl) zKr zKr zKr zKr (jlQ rfl jct qp rfl rfl zRc) rfl rfl ?_
 refine jbM 4 rfl (.none rfl) zKr zKr zKr zKr (jlQ rfl jct qp rfl rfl zRc) rfl rfl ?_
 refine ja8 6 rfl (.none rfl) zKr zKr zKr (ja1 (off:=7) (sz:=2) (g:=true) rfl rfl) rfl rfl ?_
 refine ja8 7 rfl (.none rfl) zKr zKr zKr (ja1 (off:=1) (sz:=1) (g:=false) rfl rfl) rfl rfl ?_
 refine jbM 8 rfl (.none rfl) zKr zKr zKr zKr (jeB rfl jct qp rfl zRc) rfl rfl ?_
 refine ja8 9 rfl (.none rfl) zKr zKr zKr (ja1 (off:=15) (sz:=1) (g:=false) rfl rfl) rfl rfl ?_
 refine jbM 10 rfl (.none rfl) zKr zKr zKr zKr (jeB rfl jct qp rfl zRc) rfl rfl ?_
 refine ja8 11 rfl (.none rfl) zKr zKr zKr (ja1 (off:=16) (sz:=1) (g:=false) rfl rfl) rfl rfl ?_
 refine jbM 12 rfl (.none rfl) zKr zKr zKr zKr (jeB rfl jct qp rfl zRc) rfl rfl ?_
 refine jhY 5 zKr rfl zRc (ja7 m (by omega)) rfl rfl ?_
 rintro _ _ ⟨rfl,rfl⟩
 refine ⟨rfl,?_⟩
 refine jhY 13 zKr rfl zRc (jlx m.node m.t (allM m) hal has9 m.bal.v m.low m.high) rfl rfl ?_
 rintro _ _ ⟨rfl,rfl⟩;obtain ⟨⟨r,k⟩,hb⟩:∃ b,b=comX m:=⟨_,rfl⟩;rw [show extendV m.node m.t (allM m) m.bal.v m.low m.high=(r,k) from hb.symm]
 refine ⟨rfl,?_⟩
 refine ja8 14 rfl (.none rfl) zKr zKr zKr (jlm rfl) rfl rfl ?_
 refine ja8 15 rfl (.none rfl) zKr zKr zKr (je3 rfl rfl) rfl rfl ?_
 refine ja8 16 rfl (.none rfl) zKr zKr zKr (je3 rfl rfl) rfl rfl ?_
 refine ja8 17 rfl (.none rfl) zKr zKr zKr (ja1 (off:=15) (sz:=1) (g:=false) rfl rfl) rfl rfl ?_
 refine jjD (Hm:=[.box b1 _ _]) (by kernel_rfl) (by kernel_rfl) (by repeat (first | exact .nil | exact Split.none _ | apply Split.left | apply Split.right)) ?_
 refine zOn 18 ?_
 iterate 2 refine zW ?_
 refine zT 19 ?_;refine zOn 20 ?_
 iterate 3 refine zW ?_
 all_goals (
 refine xP ?_;rw [jxA hp2 hb];rfl))
 ·(
 have hp2:¬ m.phase=2:=qd hc
 have mk69f:True:=trivial
 refine xP ?_;rw [jsf hp1 hp2];rfl))
theorem jxg {a:Mach} (h:StepR a b) (hn:sameV a b=false):mu b<mu a:=h.2.2.resolve_left (jd5 hn)
theorem jvY (h:sameV c (prepM c)=false):Tq.stepG c=prepM c:=qf h
theorem jwI (h1:prepM c=c) (h:sameV c (confS c)=false):Tq.stepG c=confS c:=by
 unfold Tq.stepG;rw [h1,qe (by rw [jaV];decide),qf h]
theorem ju7 (h1:prepM c=c) (h2:confS c=c) (h:sameV c (comM c)=false):Tq.stepG c=comM c:=by
 unfold Tq.stepG;rw [h1,h2,qe (by rw [jaV];decide),qe (by rw [jaV];decide),qf h]
theorem jvm (h1:prepM c=c) (h2:confS c=c) (h3:comM c=c) (h:sameV c (finM c)=false):Tq.stepG c=finM c:=by
 unfold Tq.stepG;rw [h1,h2,h3,qe (by rw [jaV];decide),qe (by rw [jaV];decide),qe (by rw [jaV];decide),qf h]
theorem jlG (h1:prepM c=c) (h2:confS c=c) (h3:comM c=c) (h4:finM c=c):Tq.stepG c=cauM c:=by
 unfold Tq.stepG;rw [h1,h2,h3,h4,qe (by rw [jaV];decide),qe (by rw [jaV];decide),qe (by rw [jaV];decide),qe (by rw [jaV];decide)]
theorem jxl (h:checkM m=false):advM m=m:=by unfold advM;rw [qe (by rw [h];decide)]
theorem jx2 (h:checkM m=true) (hr:restM m=c) (hz:zB c.bal=true):advM m=c:=by unfold advM;rw [qf h,hr,qf hz]
theorem jxC (h:checkM m=true) (hr:restM m=c) (hz:zB c.bal=false):advM m={ c with seq:=max c.seq 1 }:=by unfold advM;rw [qf h,hr,qe (by rw [hz];decide)]
theorem jk0 (m:Mach) (hI0:InvM m):C0 215 [mcv m] (mcv (advM m)):=by
 refine xI Tryz.func215 Tryz.call215 fun hcap=>?_
 have hsz1:=hI0.sz
 refine xX fun b1=>?_
 refine zAl fun b2=>?_
 refine xA (jcs m (by omega) (fun e he=>by have:=(hI0.hs e he).1;omega)) ?_
 refine xC ?_ ?_<;>intro hc
 ·(
 have hck:checkM m=false:=jau hc
 refine xP ?_;rw [jxl hck];rfl)
 ·(
 have hck:checkM m=true:=jat hc
 iterate 3 refine zW ?_
 refine jaj [1,2] [.box b2 _ _] (fun (c:Mach) r=>r) (fun c r=>.box b1 129 [.i c.node,.i c.slot,.i c.seq,.i c.t.th,.sl 1 (c.t.nodes.map .i),.sl 3 (avs c.t.inner),.i c.phase,.i c.bal.n,.v (.string c.bal.v),.i c.prep.n,.v (.string c.prep.v),.i c.prime.n,.v (.string c.prime.v),.i c.conf.n,.v (.string c.conf.v),.i c.low,.i c.high,.v (.string c.prop),.sl 15 (c.heard.map ev)]::r) (fun c=>InvM c∧restM c=restM m) (fun c=>mu c) (m) zRc ⟨hI0,rfl⟩ (zWk) ?_
 intro c ⟨hI,hre⟩
 refine xL fun b3=>?_
 refine xB (jik c hI) ?_;rintro _ _ ⟨rfl,rfl⟩;obtain ⟨c1,hc1⟩:∃ x,x=prepM c:=⟨_,rfl⟩;have hs1:StepR c c1:=hc1 ▸ jee hI;rw [← hc1]
 refine xA (jaw c _) ?_
 refine xC ?_ ?_<;>intro hc
 ·(
 have e1:=jbJ hs1.1 hc
 rw [e1]
 have q1:prepM c=c:=hc1.symm.trans e1
 refine xB (jg4 c hI) ?_;rintro _ _ ⟨rfl,rfl⟩;obtain ⟨c2,hc2⟩:∃ x,x=confS c:=⟨_,rfl⟩;have hs2:StepR c c2:=hc2 ▸ jd1 hI;rw [← hc2]
 refine xA (jaw c _) ?_
 refine xC ?_ ?_<;>intro hc
 ·(
 have e2:=jbJ hs2.1 hc
 rw [e2]
 have q2:confS c=c:=hc2.symm.trans e2
 refine xB (jhc c hI) ?_;rintro _ _ ⟨rfl,rfl⟩;obtain ⟨c3,hc3⟩:∃ x,x=comM c:=⟨_,rfl⟩;have hs3:StepR c c3:=hc3 ▸ jfE hI;rw [← hc3]
 refine xA (jaw c _) ?_
 refine xC ?_ ?_<;>intro hc
 ·(
 have e3:=jbJ hs3.1 hc
 rw [e3]
 have q3:comM c=c:=hc3.symm.trans e3
 refine xB (jl5 c hI) ?_;rintro _ _ ⟨rfl,rfl⟩;obtain ⟨c4,hc4⟩:∃ x,x=finM c:=⟨_,rfl⟩;have hs4:StepR c c4:=hc4 ▸ jfv hI;rw [← hc4]
 refine xA (jaw c _) ?_
 refine xC ?_ ?_<;>intro hc
 ·(
 have e4:=jbJ hs4.1 hc
 rw [e4]
 have q4:finM c=c:=hc4.symm.trans e4
 refine xB (jlW c hI) ?_;rintro _ _ ⟨rfl,rfl⟩;obtain ⟨c5,hc5⟩:∃ x,x=cauM c:=⟨_,rfl⟩;have hs5:StepR c c5:=hc5 ▸ jip hI;rw [← hc5]
 refine xA (jaw c _) ?_
 refine xC ?_ ?_<;>intro hc
 ·(
 have e5:=jbJ hs5.1 hc
 rw [e5]
 have q5:cauM c=c:=hc5.symm.trans e5
 refine xA (jaJ c.bal) ?_
 refine xC ?_ ?_<;>intro hc
 ·(
 have hz:zB c.bal=false:=jau hc
 iterate 18 refine zW ?_
 have hr:restM m=c:=hre.symm.trans (jcO ((jlG q1 q2 q3 q4).trans q5))
 refine zPi ?_;rw [jxC hck hr hz];rfl)
 ·(
 have hz:zB c.bal=true:=jat hc
 iterate 12 refine zW ?_
 have hr:restM m=c:=hre.symm.trans (jcO ((jlG q1 q2 q3 q4).trans q5))
 refine zPi ?_;rw [jx2 hck hr hz];rfl))
 ·(
 first | (have:=hn1;skip) | (have:=hn2;skip) | (have:=hn3;skip) | (have:=hn4;skip) | have hn5:=hc
 iterate 3 refine zW ?_
 have h9:=hn5;have hg:Tq.stepG c=c5:=(jlG q1 q2 q3 q4).trans hc5.symm;refine ⟨c5,⟨hs5.2.1,by rw [← hg];exact (jc5 hI).trans hre⟩,jxg hs5 hn5,zWk⟩))
 ·(
 first | (have:=hn1;skip) | (have:=hn2;skip) | (have:=hn3;skip) | have hn4:=hc
 refine xA (jaw c _) ?_
 refine xC ?_ ?_<;>intro hc
 ·exact qo (hn4.symm.trans hc) (by decide)
 ·(
 first | (have:=hn1;skip) | (have:=hn2;skip) | (have:=hn3;skip) | (have:=hn4;skip) | have hn5:=hc
 iterate 3 refine zW ?_
 have h9:=hn4;have hg:Tq.stepG c=c4:=(jvm q1 q2 q3 (hc4 ▸ hn4)).trans hc4.symm;refine ⟨c4,⟨hs4.2.1,by rw [← hg];exact (jc5 hI).trans hre⟩,jxg hs4 hn4,zWk⟩)))
 ·(
 first | (have:=hn1;skip) | (have:=hn2;skip) | have hn3:=hc
 refine xA (jaw c _) ?_
 refine xC ?_ ?_<;>intro hc
 ·exact qo (hn3.symm.trans hc) (by decide)
 ·(
 first | (have:=hn1;skip) | (have:=hn2;skip) | (have:=hn3;skip) | have hn4:=hc
 refine xA (jaw c _) ?_
 refine xC ?_ ?_<;>intro hc
 ·exact qo (hn3.symm.trans hc) (by decide)
 ·(
 first | (have:=hn1;skip) | (have:=hn2;skip) | (have:=hn3;skip) | (have:=hn4;skip) | have hn5:=hc
 iterate 3 refine zW ?_
 have h9:=hn3;have hg:Tq.stepG c=c3:=(ju7 q1 q2 (hc3 ▸ hn3)).trans hc3.symm;refine ⟨c3,⟨hs3.2.1,by rw [← hg];exact (jc5 hI).trans hre⟩,jxg hs3 hn3,zWk⟩))))
 ·(
 first | (have:=hn1;skip) | have hn2:=hc
 refine xA (jaw c _) ?_
 refine xC ?_ ?_<;>intro hc
 ·exact qo (hn2.symm.trans hc) (by decide)
 ·(
 first | (have:=hn1;skip) | (have:=hn2;skip) | have hn3:=hc
 refine xA (jaw c _) ?_
 refine xC ?_ ?_<;>intro hc
 ·exact qo (hn2.symm.trans hc) (by decide)
 ·(
 first | (have:=hn1;skip) | (have:=hn2;skip) | (have:=hn3;skip) | have hn4:=hc
 refine xA (jaw c _) ?_
 refine xC ?_ ?_<;>intro hc
 ·exact qo (hn2.symm.trans hc) (by decide)
 ·(
 first | (have:=hn1;skip) | (have:=hn2;skip) | (have:=hn3;skip) | (have:=hn4;skip) | have hn5:=hc
 iterate 3 refine zW ?_
 have h9:=hn2;have hg:Tq.stepG c=c2:=(jwI q1 (hc2 ▸ hn2)).trans hc2.symm;refine ⟨c2,⟨hs2.2.1,by rw [← hg];exact (jc5 hI).trans hre⟩,jxg hs2 hn2,zWk⟩)))))
 ·(
 first | have hn1:=hc
 refine xA (jaw c _) ?_
 refine xC ?_ ?_<;>intro hc
 ·exact qo (hn1.symm.trans hc) (by decide)
 ·(
 first | (have:=hn1;skip) | have hn2:=hc
 refine xA (jaw c _) ?_
 refine xC ?_ ?_<;>intro hc
 ·exact qo (hn1.symm.trans hc) (by decide)
 ·(
 first | (have:=hn1;skip) | (have:=hn2;skip) | have hn3:=hc
 refine xA (jaw c _) ?_
 refine xC ?_ ?_<;>intro hc
 ·exact qo (hn1.symm.trans hc) (by decide)
 ·(
 first | (have:=hn1;skip) | (have:=hn2;skip) | (have:=hn3;skip) | have hn4:=hc
 refine xA (jaw c _) ?_
 refine xC ?_ ?_<;>intro hc
 ·exact qo (hn1.symm.trans hc) (by decide)
 ·(
 first | (have:=hn1;skip) | (have:=hn2;skip) | (have:=hn3;skip) | (have:=hn4;skip) | have hn5:=hc
 iterate 3 refine zW ?_
 have h9:=hn1;have hg:Tq.stepG c=c1:=(jvY  (hc1 ▸ hn1)).trans hc1.symm;refine ⟨c1,⟨hs1.2.1,by rw [← hg];exact (jc5 hI).trans hre⟩,jxg hs1 hn1,zWk⟩))))))
theorem jlT (h:InvM m) (hq:0≤m.seq∧m.seq≤1000000):0≤(advM m).seq∧(advM m).seq≤1000000:=by
 have h1:=(jbb h).2.seq
 unfold advM
 split
 ·(
 split
 ·rw [h1];exact hq
 ·(
 show 0≤max (restM m).seq 1∧max (restM m).seq 1≤1000000
 rw [h1];omega))
 ·exact hq
theorem jwX (h:c=advM m) (hz:zB c.bal=true):numM b m=c:=by unfold numM;rw [← h,qf hz]
theorem jut (h:c=advM m) (hz:zB c.bal=false) (h2:(!zB b.bal&&!sameE { envR b with seq:=0 } { envR c with seq:=0 })=true):numM b m={ c with seq:=min (c.seq+1) 1000000 }:=by unfold numM;rw [← h,qe (by rw [hz];decide),qf h2]
theorem jxQ (h:c=advM m) (hz:zB c.bal=false) (h2:(!zB b.bal&&!sameE { envR b with seq:=0 } { envR c with seq:=0 })=false):numM b m=c:=by unfold numM;rw [← h,qe (by rw [hz];decide),qe (by rw [h2];decide)]
theorem jcQ (b m:Mach) (hI:InvM m) (hq:0≤m.seq∧m.seq≤1000000):C0 185 [mcv b,mcv m] (mcv (numM b m)):=by
 refine xI Tryz.func185 Tryz.call185 fun hcap=>?_
 refine xX fun b2=>?_
 refine zBx fun b3=>?_
 refine zAl fun b4=>?_
 refine xB (jk0 m hI) ?_;rintro _ _ ⟨rfl,rfl⟩;obtain ⟨c,hb⟩:∃ c,c=advM m:=⟨_,rfl⟩;have hcq:0≤c.seq∧c.seq≤1000000:=hb ▸ jlT hI hq;rw [← hb]
 refine xA (jaJ c.bal) ?_
 refine xC ?_ ?_<;>intro hc
 ·(
 have hz:zB c.bal=true:=hc
 refine xP ?_;rw [jwX hb hz];rfl)
 ·(
 have hz:zB c.bal=false:=hc
 iterate 3 refine zW ?_
 refine zDr [] ?_
 refine zT 0 ?_;refine zT 2 ?_
 refine jdf 1 4 5 zKr (cho rfl zGd ?_) (cho rfl zGd ?_) (cho rfl zGd ?_)
 rotate_left 2
 case' _ =>(
 refine zAl fun b6=>?_
 refine zW ?_
 refine zE2 1 4 ?_ ?_
 rotate_left
 case' _ =>(
 refine zAl fun b5=>?_
 refine zW ?_
 refine zOn 1 ?_
 refine xA (jaM b) ?_
 refine zW ?_
 refine zOn 3 ?_
 refine xA (jaM c) ?_
 refine zW ?_
 refine zOn 6 ?_
 iterate 2 refine zW ?_
 refine zOn 7 ?_
 iterate 3 refine zW ?_)
 rotate_right
 case' _ =>(
 refine xA (jaM b) ?_
 refine zW ?_
 refine zE2 3 4 ?_ ?_
 rotate_left
 case' _ =>(
 refine zAl fun b5=>?_
 refine zW ?_
 refine zOn 3 ?_
 refine xA (jaM c) ?_
 refine zW ?_
 refine zOn 6 ?_
 iterate 2 refine zW ?_
 refine zOn 7 ?_
 iterate 3 refine zW ?_)
 rotate_right
 case' _ =>(
 refine xA (jaM c) ?_
 refine zW ?_
 refine zOn 4 ?_
 refine zAl fun b5=>?_
 refine zW ?_
 refine zOn 6 ?_
 iterate 2 refine zW ?_
 refine zOn 7 ?_
 iterate 3 refine zW ?_)))
 rotate_right
 case' _ =>(
 refine zAl fun b5=>?_
 refine zW ?_
 refine zE2 1 5 ?_ ?_
 rotate_left
 case' _ =>(
 refine zAl fun b6=>?_
 refine zW ?_
 refine zOn 1 ?_
 refine xA (jaM b) ?_
 refine zW ?_
 refine zOn 3 ?_
 refine xA (jaM c) ?_
 refine zW ?_
 refine zOn 6 ?_
 iterate 2 refine zW ?_
 refine zOn 7 ?_
 iterate 3 refine zW ?_)
 rotate_right
 case' _ =>(
 refine xA (jaM b) ?_
 refine zW ?_
 refine zE2 3 5 ?_ ?_
 rotate_left
 case' _ =>(
 refine zAl fun b6=>?_
 refine zW ?_
 refine zOn 3 ?_
 refine xA (jaM c) ?_
 refine zW ?_
 refine zOn 6 ?_
 iterate 2 refine zW ?_
 refine zOn 7 ?_
 iterate 3 refine zW ?_)
 rotate_right
 case' _ =>(
 refine xA (jaM c) ?_
 refine zW ?_
 refine zOn 5 ?_
 refine zAl fun b6=>?_
 refine zW ?_
 refine zOn 6 ?_
 iterate 2 refine zW ?_
 refine zOn 7 ?_
 iterate 3 refine zW ?_)))
 rotate_right
 case' _ =>(
 refine xA (jaM b) ?_
 refine zW ?_
 refine jdf 3 4 5 zKr (cho rfl zGd ?_) (cho rfl zGd ?_) (cho rfl zGd ?_)
 rotate_left 2
 case' _ =>(
 refine zAl fun b6=>?_
 refine zW ?_
 refine zE2 3 4 ?_ ?_
 rotate_left
 case' _ =>(
 refine zAl fun b5=>?_
 refine zW ?_
 refine zOn 3 ?_
 refine xA (jaM c) ?_
 refine zW ?_
 refine zOn 6 ?_
 iterate 2 refine zW ?_
 refine zOn 7 ?_
 iterate 3 refine zW ?_)
 rotate_right
 case' _ =>(
 refine xA (jaM c) ?_
 refine zW ?_
 refine zOn 4 ?_
 refine zAl fun b5=>?_
 refine zW ?_
 refine zOn 6 ?_
 iterate 2 refine zW ?_
 refine zOn 7 ?_
 iterate 3 refine zW ?_))
 rotate_right
 case' _ =>(
 refine zAl fun b5=>?_
 refine zW ?_
 refine zE2 3 5 ?_ ?_
 rotate_left
 case' _ =>(
 refine zAl fun b6=>?_
 refine zW ?_
 refine zOn 3 ?_
 refine xA (jaM c) ?_
 refine zW ?_
 refine zOn 6 ?_
 iterate 2 refine zW ?_
 refine zOn 7 ?_
 iterate 3 refine zW ?_)
 rotate_right
 case' _ =>(
 refine xA (jaM c) ?_
 refine zW ?_
 refine zOn 5 ?_
 refine zAl fun b6=>?_
 refine zW ?_
 refine zOn 6 ?_
 iterate 2 refine zW ?_
 refine zOn 7 ?_
 iterate 3 refine zW ?_))
 rotate_right
 case' _ =>(
 refine xA (jaM c) ?_
 refine zW ?_
 refine zE2 4 5 ?_ ?_
 rotate_left
 case' _ =>(
 refine zAl fun b6=>?_
 refine zW ?_
 refine zOn 4 ?_
 refine zAl fun b5=>?_
 refine zW ?_
 refine zOn 6 ?_
 iterate 2 refine zW ?_
 refine zOn 7 ?_
 iterate 3 refine zW ?_)
 rotate_right
 case' _ =>(
 refine zAl fun b5=>?_
 refine zW ?_
 refine zOn 5 ?_
 refine zAl fun b6=>?_
 refine zW ?_
 refine zOn 6 ?_
 iterate 2 refine zW ?_
 refine zOn 7 ?_
 iterate 3 refine zW ?_)))
 all_goals (
 refine xA (jaJ b.bal) ?_
 iterate 2 refine zW ?_
 iterate 2 all_goals first | refine zW ?_ | refine xG ?_ ?_<;>intro hg
 all_goals first | (refine zY ?_;refine jaa zRc (jlz { envR b with seq:=0 } { envR c with seq:=0 }) rfl rfl ?_) | refine zSk ?_
 iterate 2 all_goals refine zW ?_
 all_goals (
 refine xC ?_ ?_<;>intro hc
 ·(
 first
 | (exact xQ hc)
 |(
 have h28:(!zB b.bal&&!sameE { envR b with seq:=0 } { envR c with seq:=0 })=true:=by first | (simp_all;done) | grind
 have mk28t:True:=trivial
 refine xP ?_;rw [jut hb hz h28];rfl))
 ·(
 first
 | (exact xQ hc)
 |(
 have h28:(!zB b.bal&&!sameE { envR b with seq:=0 } { envR c with seq:=0 })=false:=by first | (simp_all;done) | grind
 have mk28f:True:=trivial
 iterate 9 refine zW ?_
 first
 | (have:=mk28t;refine zPi ?_;rw [jut hb hz h28];rfl)
 | (have:=mk28f;refine zPi ?_;rw [jxQ hb hz h28];rfl))))))
theorem jtm (l:List Evp) (hlen:l.length≤1000) (e:Evp) (hs:sizeT e.t≤1000000000):C0 212 [.sl 15 (l.map ev),ev e] (.tup [.sl 15 ((putV l e).1.map ev),.b (putV l e).2]):=by
 refine xI Tryz.func212 Tryz.call212 fun hcap=>?_
 have hml:(l.map ev).length=l.length:=by simp
 refine xX fun b3=>?_
 refine xA (jay e hs) ?_
 refine xC ?_ ?_<;>intro hc
 ·(
 have hv:vE e=false:=jau hc
 refine xP ?_
 rw [jxG hv];rfl)
 ·(
 have hv:vE e=true:=jat hc
 refine xN fun _=>?_
 iterate 4 refine zW ?_
 refine jaj [0,3,13,14] [.box b3 _ _] (fun (i:Nat) r=>(15,.i (i:Int))::r) (fun i r=>r) (fun i=>i≤l.length∧putGo l e (l.drop i) i=putGo l e l 0) (fun i=>l.length - i) (0) zRc ⟨by omega,rfl⟩ (zWk) ?_
 intro i ⟨hi,hI⟩
 refine xC ?_ ?_<;>intro hc
 ·(
 have hlt:=qc hc
 obtain ⟨x,hx,hd⟩:=jab (l:=l) (k:=i) (by omega)
 have hx':=jad ev hx
 rw [hd,putGo] at hI
 refine xL fun b7=>?_
 refine xC ?_ ?_<;>intro hc
 ·(
 rw [qf (qc hc)] at hI
 refine xC ?_ ?_<;>intro hc
 ·(
 rw [qf (qc hc)] at hI
 refine xP ?_
 rw [jmQ hv,← hI];rfl)
 ·(
 rw [qe (qd hc)] at hI
 iterate 3 refine zW ?_
 refine zDr [] ?_
 refine zT 0 ?_;refine zT 1 ?_;refine zT 2 ?_;refine zT 4 ?_;refine zT 7 ?_;refine zT 8 ?_;refine zT 9 ?_;refine zT 10 ?_
 refine zE2 3 5 ?_ ?_
 rotate_left
 case' _ =>(
 refine xLt 55 15 176 ?_
 refine zW ?_
 refine zOn 3 ?_
 refine xEn 55 15 176 (hb:=xLb) fun v34 hv34=>?_
 refine zW ?_
 refine zOn 6 ?_
 refine xEa 55 15 176 (hb:=xLb) fun v37 hv37=>?_
 refine zW ?_
 refine zOn 11 ?_
 refine xEa 55 15 176 (hb:=xLb) fun v42 hv42=>?_
 refine zW ?_
 refine zT 12 ?_;refine zT 13 ?_
 refine zW ?_)
 rotate_right
 case' _ =>(
 refine xEn 55 15 176 (hb:=xLb) fun v34 hv34=>?_
 refine zW ?_
 refine zOn 5 ?_
 refine xLt 55 15 176 ?_
 refine zW ?_
 refine zOn 6 ?_
 refine xEa 55 15 176 (hb:=xLb) fun v37 hv37=>?_
 refine zW ?_
 refine zOn 11 ?_
 refine xEa 55 15 176 (hb:=xLb) fun v42 hv42=>?_
 refine zW ?_
 refine zT 12 ?_;refine zT 13 ?_
 refine zW ?_)
 all_goals (
 refine zW ?_
 rw [show D.agg [.i e.node,.i e.slot,.i e.seq,.i e.t.th,.sl 1 (e.t.nodes.map .i),.sl 3 (avs e.t.inner),.i e.kind,.i e.bal.n,.v (.string e.bal.v),.i e.prep.n,.v (.string e.prep.v),.i e.prime.n,.v (.string e.prime.v),.i e.low,.i e.high]=ev e from rfl,jcF];refine zFz v42 [4,5] ?_
 refine xP ?_
 rw [jmQ hv,← hI];rfl)))
 ·(
 rw [qe (qd hc)] at hI
 iterate 8 refine zW ?_
 refine ⟨i+1,⟨by omega,hI⟩,by omega,zWk⟩))
 ·(
 have hge:=qd hc
 rw [jac (by omega),putGo] at hI
 iterate 12 refine zW ?_
 refine jaj [0,3] [.box b3 _ _] (fun (k:Nat) r=>(8,.i (k:Int))::r) (fun k r=>r) (fun k=>k≤l.length∧posG (ltE e) (l.drop k)+k=posG (ltE e) l) (fun k=>l.length - k) (0) zRc ⟨by omega,by simp⟩ (zWk) ?_
 intro k ⟨hk,hJ⟩
 obtain ⟨y,hy⟩:=jgt l k e
 iterate 2 refine zW ?_
 refine zDr [] ?_
 refine zT 0 ?_;refine zT 1 ?_;refine zT 2 ?_;refine zT 3 ?_;refine zT 4 ?_
 refine jai 4 rfl (fun hg=>?_) fun hg=>?_
 rotate_left
 case' _ =>(
 refine zK 5 ?_;refine zK 6 ?_;refine zK 7 ?_;refine zK 8 ?_;refine zK 9 ?_;refine zK 10 ?_;refine zK 11 ?_;refine zK 12 ?_;refine zT 13 ?_
 refine zW ?_)
 rotate_right
 case' _ =>(
 refine zT 5 ?_;refine zT 6 ?_
 refine jan 7 rfl zGd zKr zKr zKr (AP.ar (jam (k:=k) rfl rfl rfl rfl (by decide) rfl (jad ev (hy (by have h9:decide ((k:Int)<((l.map ev).length:Int))=true:=(by first | with_reducible assumption | exact hg);have:=qc h9;simp only [qu] at this;omega))))) rfl rfl ?_
 refine zT 8 ?_;refine zT 9 ?_;refine zT 10 ?_;refine zT 11 ?_;refine zT 12 ?_;refine zT 13 ?_
 refine zW ?_)
 all_goals (
 refine xC ?_ ?_<;>intro hc
 ·(
 first
 | (exact xQ hc)
 |(
 iterate 10 refine zW ?_
 have hlt:k<l.length:=by have h9:decide ((k:Int)<((l.map ev).length:Int))=true:=(by first | with_reducible assumption | exact hg | exact hc);have:=qc h9;omega
 rw [jeT (lt:=ltE e) (hy hlt) (show ltE e y=true by first | with_reducible assumption | exact hc)] at hJ
 refine ⟨k+1,⟨by omega,by omega⟩,by omega,zWk⟩))
 ·(
 first
 | (exact xQ hc)
 |(
 have hpos:posG (ltE e) l=k:=by first | (have h9:decide ((k:Int)<((l.map ev).length:Int))=false:=(by first | with_reducible assumption | exact hg | exact hc);have:=qd h9;rw [jdd (by omega)] at hJ;omega) | (have h9:ltE e y=false:=(by first | with_reducible assumption | exact hg | exact hc);rw [jcp (lt:=ltE e) (hy (by have h8:decide ((k:Int)<((l.map ev).length:Int))=true:=(by first | with_reducible assumption | exact hg | exact hc);have:=qc h8;omega)) h9] at hJ;omega)
 iterate 6 refine zW ?_
 refine zDr [] ?_
 refine zT 0 ?_;refine zT 1 ?_;refine zT 2 ?_;refine zT 4 ?_;refine zT 7 ?_;refine zT 8 ?_;refine zT 9 ?_
 refine zE2 3 5 ?_ ?_
 rotate_left
 case' _ =>(
 refine xLt 55 15 176 ?_
 refine zW ?_
 refine zOn 3 ?_
 first | refine xEa 55 15 176 (hb:=xLb) fun v63 hv63=>?_ | refine xEn 55 15 176 (hb:=xLb) fun v63 hv63=>?_
 refine zW ?_
 refine zOn 6 ?_
 refine xEa 55 15 176 (hb:=xLb) fun v66 hv66=>?_
 refine zW ?_
 refine zOn 10 ?_
 refine xEa 55 15 176 (hb:=xLb) fun v70 hv70=>?_
 refine zW ?_
 refine zT 11 ?_;refine zT 12 ?_
 refine zW ?_)
 rotate_right
 case' _ =>(
 first | refine xEa 55 15 176 (hb:=xLb) fun v63 hv63=>?_ | refine xEn 55 15 176 (hb:=xLb) fun v63 hv63=>?_
 refine zW ?_
 refine zOn 5 ?_
 refine xLt 55 15 176 ?_
 refine zW ?_
 refine zOn 6 ?_
 refine xEa 55 15 176 (hb:=xLb) fun v66 hv66=>?_
 refine zW ?_
 refine zOn 10 ?_
 refine xEa 55 15 176 (hb:=xLb) fun v70 hv70=>?_
 refine zW ?_
 refine zT 11 ?_;refine zT 12 ?_
 refine zW ?_)
 all_goals (
 refine zW ?_
 rw [show D.agg [.i e.node,.i e.slot,.i e.seq,.i e.t.th,.sl 1 (e.t.nodes.map .i),.sl 3 (avs e.t.inner),.i e.kind,.i e.bal.n,.v (.string e.bal.v),.i e.prep.n,.v (.string e.prep.v),.i e.prime.n,.v (.string e.prime.v),.i e.low,.i e.high]=ev e from rfl,jcF];refine zFz v70 [4,5] ?_
 refine xP ?_
 rw [jmQ hv,← hI,hpos];rfl))))))
theorem jfk (m:Mach) (hS:InvS m) (v:Str):C0 147 [mcv m,.v (.string v)] (.tup [mcv (propV m v).1,.i (propV m v).2]):=by
 refine xI Tryz.func147 Tryz.call147 fun hcap=>?_
 have hI:=hS.inv
 have hsz1:=hI.sz
 have hhl:=hI.hl
 have hhs9:∀ e∈m.heard,sizeT e.t≤1000000000:=fun e he=>by have:=(hI.hs e he).1;omega
 have hbn:=hI.baln
 have hbn0:=hI.bal.n0
 have hsq:=hS.seq
 have hmlen:(m.heard.map ev).length=m.heard.length:=by simp
 refine xX fun b2=>?_
 refine zAl fun b4=>?_
 refine xA (jcs m (by omega) hhs9) ?_
 refine xC ?_ ?_<;>intro hc
 ·(
 have hck:checkM m=false:=jau hc
 iterate 7 refine zW ?_
 refine jal [4,5] 1 rfl xSe (by apply HeapA.box (xc4 (CvL.cons Cv.fz (xc4 (xc4 (xc4 (CvL.cons Cv.same (CvL.cons Cv.same CvL.nil)))))));exact xHb) ?_
 refine jal [4,5] 3 rfl xSe (by apply HeapA.box (xc4 (CvL.cons Cv.same (CvL.cons Cv.fz (xc4 (xc4 (xc4 (CvL.cons Cv.same CvL.nil)))))));exact xHb) ?_
 refine jal [4,5] 15 rfl xSe (by apply HeapA.box (xc4 (xc4 (xc4 (xc4 (CvL.cons Cv.same (CvL.cons Cv.same (CvL.cons Cv.fz CvL.nil)))))));exact xHb) ?_
 refine xP ?_
 unfold propV;rw [qf hck];rfl)
 ·(
 have hck:checkM m=true:=jat hc
 iterate 9 refine zW ?_
 iterate 4 all_goals first | refine zW ?_ | refine xG ?_ ?_<;>intro hg
 all_goals (
 refine xC ?_ ?_<;>intro hc
 ·(
 first
 | (exact xQ hc)
 |(
 have hv:v.size<1∨v.size>200:=by first | (have:=qc hg;omega) | (have:=qc hc;omega)
 iterate 7 refine zW ?_
 refine jal [4,5] 1 rfl xSe (by apply HeapA.box (xc4 (CvL.cons Cv.fz (xc4 (xc4 (xc4 (CvL.cons Cv.same (CvL.cons Cv.same CvL.nil)))))));exact xHb) ?_
 refine jal [4,5] 3 rfl xSe (by apply HeapA.box (xc4 (CvL.cons Cv.same (CvL.cons Cv.fz (xc4 (xc4 (xc4 (CvL.cons Cv.same CvL.nil)))))));exact xHb) ?_
 refine jal [4,5] 15 rfl xSe (by apply HeapA.box (xc4 (xc4 (xc4 (xc4 (CvL.cons Cv.same (CvL.cons Cv.same (CvL.cons Cv.fz CvL.nil)))))));exact xHb) ?_
 refine xP ?_
 unfold propV;rw [qe (by rw [hck];decide),qf hv];rfl))
 ·(
 first
 | (exact xQ hc)
 |(
 have hv:¬ (v.size<1∨v.size>200):=by have h1:=qd hg;have h2:=qd hc;omega
 refine xL fun b6=>?_
 refine xA (jaJ m.bal) ?_
 refine xC ?_ ?_<;>intro hc
 ·(
 have hz:zB m.bal=true:=hc
 have hp9:propM m v={ m with prop:=v,bal:=⟨1,valM { m with prop:=v }⟩,seq:=1 }:=qf hz
 refine xA (jeI { m with prop:=v } (by show m.heard.length≤100;omega)) ?_
 iterate 8 refine zW ?_
 have hinv:=jcg hS (show v.size≤200 by omega)
 rw [hp9] at hinv
 refine xA (jcQ m { m with prop:=v,bal:=⟨1,valM { m with prop:=v }⟩,seq:=1 } (hinv).inv (hinv).seq) ?_
 refine xP ?_
 unfold propV;rw [qe (by rw [hck];decide),qe hv,hp9];rfl)
 ·(
 have hz:¬ zB m.bal=true:=by rw [show zB m.bal=false from hc];decide
 have hp9:propM m v={ m with prop:=v }:=qe hz
 iterate 3 refine zW ?_
 have hinv:=jcg hS (show v.size≤200 by omega)
 rw [hp9] at hinv
 refine xA (jcQ m { m with prop:=v } (hinv).inv (hinv).seq) ?_
 refine xP ?_
 unfold propV;rw [qe (by rw [hck];decide),qe hv,hp9];rfl)))))
theorem jkT (m:Mach) (hS:InvS m):C0 178 [mcv m] (.tup [mcv (tmoV m).1,.i (tmoV m).2]):=by
 refine xI Tryz.func178 Tryz.call178 fun hcap=>?_
 have hI:=hS.inv
 have hsz1:=hI.sz
 have hhl:=hI.hl
 have hhs9:∀ e∈m.heard,sizeT e.t≤1000000000:=fun e he=>by have:=(hI.hs e he).1;omega
 have hbn:=hI.baln
 have hbn0:=hI.bal.n0
 have hsq:=hS.seq
 have hmlen:(m.heard.map ev).length=m.heard.length:=by simp
 refine xX fun b1=>?_
 refine zAl fun b2=>?_
 refine xA (jcs m (by omega) hhs9) ?_
 refine xC ?_ ?_<;>intro hc
 ·(
 have hck:checkM m=false:=jau hc
 iterate 7 refine zW ?_
 refine jal [2,3] 1 rfl xSe (by apply HeapA.box (xc4 (CvL.cons Cv.fz (xc4 (xc4 (xc4 (CvL.cons Cv.same (CvL.cons Cv.same CvL.nil)))))));exact xHb) ?_
 refine jal [2,3] 3 rfl xSe (by apply HeapA.box (xc4 (CvL.cons Cv.same (CvL.cons Cv.fz (xc4 (xc4 (xc4 (CvL.cons Cv.same CvL.nil)))))));exact xHb) ?_
 refine jal [2,3] 15 rfl xSe (by apply HeapA.box (xc4 (xc4 (xc4 (xc4 (CvL.cons Cv.same (CvL.cons Cv.same (CvL.cons Cv.fz CvL.nil)))))));exact xHb) ?_
 refine xP ?_
 unfold tmoV;rw [qf hck];rfl)
 ·(
 have hck:checkM m=true:=jat hc
 refine xA (jeI m (by omega)) ?_
 iterate 10 refine zW ?_
 iterate 3 all_goals first | refine zW ?_ | refine xG ?_ ?_<;>intro hg
 all_goals (
 refine xC ?_ ?_<;>intro hc
 ·(
 first
 | (exact xQ hc)
 |(
 have h18:m.phase=3∨valM m=noS:=by first | exact .inl (qc hg) | exact .inr (qc hc)
 iterate 7 refine zW ?_
 refine jal [2,3] 1 rfl xSe (by apply HeapA.box (xc4 (CvL.cons Cv.fz (xc4 (xc4 (xc4 (CvL.cons Cv.same (CvL.cons Cv.same CvL.nil)))))));exact xHb) ?_
 refine jal [2,3] 3 rfl xSe (by apply HeapA.box (xc4 (CvL.cons Cv.same (CvL.cons Cv.fz (xc4 (xc4 (xc4 (CvL.cons Cv.same CvL.nil)))))));exact xHb) ?_
 refine jal [2,3] 15 rfl xSe (by apply HeapA.box (xc4 (xc4 (xc4 (xc4 (CvL.cons Cv.same (CvL.cons Cv.same (CvL.cons Cv.fz CvL.nil)))))));exact xHb) ?_
 refine xP ?_
 unfold tmoV;rw [qe (by rw [hck];decide),qf h18];rfl))
 ·(
 first
 | (exact xQ hc)
 |(
 have h18:¬ (m.phase=3∨valM m=noS):=by rintro (h | h);exact qd hg h;exact qd hc h
 refine xC ?_ ?_<;>intro hc
 ·(
 have h23:m.bal.n≥1000:=qc hc
 iterate 7 refine zW ?_
 refine jal [2,3] 1 rfl xSe (by apply HeapA.box (xc4 (CvL.cons Cv.fz (xc4 (xc4 (xc4 (CvL.cons Cv.same (CvL.cons Cv.same CvL.nil)))))));exact xHb) ?_
 refine jal [2,3] 3 rfl xSe (by apply HeapA.box (xc4 (CvL.cons Cv.same (CvL.cons Cv.fz (xc4 (xc4 (xc4 (CvL.cons Cv.same CvL.nil)))))));exact xHb) ?_
 refine jal [2,3] 15 rfl xSe (by apply HeapA.box (xc4 (xc4 (xc4 (xc4 (CvL.cons Cv.same (CvL.cons Cv.same (CvL.cons Cv.fz CvL.nil)))))));exact xHb) ?_
 refine xP ?_
 unfold tmoV;rw [qe (by rw [hck];decide),qe h18,qf h23];rfl)
 ·(
 have h23:¬ m.bal.n≥1000:=qd hc
 refine xL fun b5=>?_
 refine xC ?_ ?_<;>intro hc
 ·(
 have hve:=jpv hc
 have hp9:tmoM m={ m with bal:=⟨m.bal.n+1,valM m⟩,low:=0,seq:=max m.seq 1 }:=by unfold tmoM;rw [qe hve]
 iterate 23 refine zW ?_
 have hinv:=jfG hS (show m.bal.n<1000 by omega)
 rw [hp9] at hinv
 refine xA (jcQ m { m with bal:=⟨m.bal.n+1,valM m⟩,low:=0,seq:=max m.seq 1 } (hinv).inv (hinv).seq) ?_
 refine xP ?_
 unfold tmoV;rw [qe (by rw [hck];decide),qe h18,qe h23,hp9];rfl)
 ·(
 have hve:=jrU hc
 have hp9:tmoM m={ m with bal:=⟨m.bal.n+1,valM m⟩,seq:=max m.seq 1 }:=by unfold tmoM;rw [qf hve]
 iterate 20 refine zW ?_
 have hinv:=jfG hS (show m.bal.n<1000 by omega)
 rw [hp9] at hinv
 refine xA (jcQ m { m with bal:=⟨m.bal.n+1,valM m⟩,seq:=max m.seq 1 } (hinv).inv (hinv).seq) ?_
 refine xP ?_
 unfold tmoV;rw [qe (by rw [hck];decide),qe h18,qe h23,hp9];rfl))))))
theorem jkH (m:Mach) (hS:InvS m) (e:Evp) (hes:sizeT e.t≤100000):C0 174 [mcv m,ev e] (.tup [mcv (recV m e).1,.i (recV m e).2]):=by
 refine xI Tryz.func174 Tryz.call174 fun hcap=>?_
 have hI:=hS.inv
 have hsz1:=hI.sz
 have hhl:=hI.hl
 have hhs9:∀ e∈m.heard,sizeT e.t≤1000000000:=fun e he=>by have:=(hI.hs e he).1;omega
 have hbn:=hI.baln
 have hbn0:=hI.bal.n0
 have hsq:=hS.seq
 have hmlen:(m.heard.map ev).length=m.heard.length:=by simp
 refine xX fun b2=>?_
 refine zBx fun b3=>?_
 refine zAl fun b4=>?_
 refine xA (jcs m (by omega) hhs9) ?_
 refine xC ?_ ?_<;>intro hc
 ·(
 have hck:checkM m=false:=jau hc
 iterate 7 refine zW ?_
 refine jal [4,5] 1 rfl xSe (by apply HeapA.box (xc4 (CvL.cons Cv.fz (xc4 (xc4 (xc4 (CvL.cons Cv.same (CvL.cons Cv.same CvL.nil)))))));exact xHb) ?_
 refine jal [4,5] 3 rfl xSe (by apply HeapA.box (xc4 (CvL.cons Cv.same (CvL.cons Cv.fz (xc4 (xc4 (xc4 (CvL.cons Cv.same CvL.nil)))))));exact xHb) ?_
 refine jal [4,5] 15 rfl xSe (by apply HeapA.box (xc4 (xc4 (xc4 (xc4 (CvL.cons Cv.same (CvL.cons Cv.same (CvL.cons Cv.fz CvL.nil)))))));exact xHb) ?_
 refine xP ?_
 unfold recV;rw [qf hck];rfl)
 ·(
 have hck:checkM m=true:=jat hc
 refine xA (jay e (by omega)) ?_
 iterate 2 refine zW ?_
 iterate 13 all_goals first | refine zW ?_ | refine xG ?_ ?_<;>intro hg
 all_goals (
 refine xC ?_ ?_<;>intro hc
 ·(
 first
 | (exact xQ hc)
 |(
 have h29:(vE e=false∨e.node=m.node)∨¬ e.slot=m.slot:=by first | (simp_all;done) | grind
 iterate 7 refine zW ?_
 refine jal [4,5] 1 rfl xSe (by apply HeapA.box (xc4 (CvL.cons Cv.fz (xc4 (xc4 (xc4 (CvL.cons Cv.same (CvL.cons Cv.same CvL.nil)))))));exact xHb) ?_
 refine jal [4,5] 3 rfl xSe (by apply HeapA.box (xc4 (CvL.cons Cv.same (CvL.cons Cv.fz (xc4 (xc4 (xc4 (CvL.cons Cv.same CvL.nil)))))));exact xHb) ?_
 refine jal [4,5] 15 rfl xSe (by apply HeapA.box (xc4 (xc4 (xc4 (xc4 (CvL.cons Cv.same (CvL.cons Cv.same (CvL.cons Cv.fz CvL.nil)))))));exact xHb) ?_
 refine xP ?_
 unfold recV;rw [qe (by rw [hck];decide),qf h29];rfl))
 ·(
 first
 | (exact xQ hc)
 |(
 have h29:¬ ((vE e=false∨e.node=m.node)∨¬ e.slot=m.slot):=by first | (simp_all;done) | grind
 refine xA (jtm m.heard (by omega) e (by omega)) ?_
 refine xC ?_ ?_<;>intro hc
 ·(
 have h39:(putV m.heard e).2=false:=jau hc
 iterate 7 refine zW ?_
 refine jal [4,5] 1 rfl xSe (by apply HeapA.box (xc4 (CvL.cons Cv.fz (xc4 (xc4 (xc4 (CvL.cons Cv.same (CvL.cons Cv.same CvL.nil)))))));exact xHb) ?_
 refine jal [4,5] 3 rfl xSe (by apply HeapA.box (xc4 (CvL.cons Cv.same (CvL.cons Cv.fz (xc4 (xc4 (xc4 (CvL.cons Cv.same CvL.nil)))))));exact xHb) ?_
 refine jal [4,5] 15 rfl xSe (by apply HeapA.box (xc4 (xc4 (xc4 (xc4 (CvL.cons Cv.same (CvL.cons Cv.same (CvL.cons Cv.fz CvL.nil)))))));exact xHb) ?_
 refine xP ?_
 unfold recV;rw [qe (by rw [hck];decide),qe h29,qf h39];rfl)
 ·(
 have h39:(putV m.heard e).2=true:=jat hc
 refine xL fun b8=>?_
 refine xA (jcQ m { m with heard:=(putV m.heard e).1 } ((jex hS hck hes)).inv ((jex hS hck hes)).seq) ?_
 refine xP ?_
 unfold recV;rw [qe (by rw [hck];decide),qe h29,qe (by rw [h39];decide)];rfl)))))
theorem jbI (m:Mach) (hs:sizeT m.t≤1000000000) (hh:∀ e∈m.heard,sizeT e.t≤1000000000):C0 170 [mcv m] (.tup [.v (.string (dcdV m).1),.b (dcdV m).2]):=by
 refine xI Tryz.func170 Tryz.call170 fun hcap=>?_
 refine xX fun b1=>?_
 refine xA (jcs m hs hh) ?_
 iterate 2 refine zW ?_
 iterate 4 all_goals first | refine zW ?_ | refine xG ?_ ?_<;>intro hg
 all_goals (
 refine xC ?_ ?_<;>intro hc
 ·(
 first
 | (exact xQ hc)
 |(
 have h11:checkM m=false∨¬ m.phase=3:=by first | exact .inl (jau hg) | exact .inr (jaf hc)
 refine xP ?_
 unfold dcdV;rw [qf h11];rfl))
 ·(
 first
 | (exact xQ hc)
 |(
 have h11:¬ (checkM m=false∨¬ m.phase=3):=by have h1:=jat hg;have h2:=jae hc;rintro (h | h);rw [h1] at h;cases h;exact h h2
 refine xP ?_
 unfold dcdV;rw [qe h11];rfl)))
theorem jmV (x:Str):C0 216 [.v (.string x)] (.b (valN x)):=by
 refine xI Tryz.func216 Tryz.call216 fun hcap=>?_
 iterate 11 refine zW ?_
 iterate 5 all_goals first | refine zW ?_ | refine xG ?_ ?_<;>intro hg
 all_goals (
 refine xP ?_
 unfold valN
 rw [hg];rfl)
theorem jeo (a b:Str):C0 217 [.v (.string a),.v (.string b)] (.i (cN a b)):=by
 refine xI Tryz.func217 Tryz.call217 fun hcap=>?_
 refine xC ?_ ?_<;>intro hc
 ·(
 have h5:a=b:=qc hc
 refine xP ?_
 unfold cN;rw [qf h5];rfl)
 ·(
 have h5:¬ a=b:=qd hc
 iterate 8 refine zW ?_
 iterate 12 all_goals first | refine zW ?_ | refine xG ?_ ?_<;>intro hg
 all_goals (
 refine xC ?_ ?_<;>intro hc
 ·(
 first
 | (exact xQ hc)
 |(
 have h9:(decide ((a.size:Int)<(b.size:Int))||(decide ((a.size:Int)=(b.size:Int))&&Op.bytesLess a.toList b.toList))=true:=by first | (simp_all;done) | grind
 refine xP ?_
 unfold cN;rw [qe h5,qf h9];rfl))
 ·(
 first
 | (exact xQ hc)
 |(
 have h9:¬ (decide ((a.size:Int)<(b.size:Int))||(decide ((a.size:Int)=(b.size:Int))&&Op.bytesLess a.toList b.toList))=true:=by first | (simp_all;done) | grind
 refine xP ?_
 unfold cN;rw [qe h5,qe h9];rfl))))
theorem jdl (l:List Str) (hlen:l.length≤100000) (x:Str):C0 209 [.sl 1 (l.map strv),.v (.string x)] (.b (hasN l x)):=by
 refine xI Tryz.func209 Tryz.call209 fun hcap=>?_
 have hml:(l.map strv).length=l.length:=by simp
 refine xN fun _=>?_
 iterate 4 refine zW ?_
 refine jaj [1,7,8] [] (fun (i:Nat) r=>(9,.i (i:Int))::r) (fun i r=>r) (fun i=>i≤l.length∧hasN (l.drop i) x=hasN l x) (fun i=>l.length - i) (0) zRc ⟨by omega,rfl⟩ (zWk) ?_
 intro i ⟨hi,hI⟩
 refine xC ?_ ?_<;>intro hc
 ·(
 have hlt:=qc hc
 obtain ⟨y,hx,hd⟩:=jab (l:=l) (k:=i) (by omega)
 have hx':=jad strv hx
 rw [hd,hasN,List.any_cons] at hI
 refine xC ?_ ?_<;>intro hc
 ·(
 rw [show decide (x=y)=true from hc] at hI
 refine xP ?_
 rw [← hI];rfl)
 ·(
 rw [show decide (x=y)=false from hc,Bool.false_or] at hI
 iterate 8 refine zW ?_
 refine ⟨i+1,⟨by omega,hI⟩,by omega,zWk⟩))
 ·(
 have hge:=qd hc
 rw [jac (by omega)] at hI
 refine xP ?_
 rw [← hI];rfl)
theorem jcj (l:List Str) (hlen:l.length≤100000):C0 208 [.sl 1 (l.map strv)] (.b (plainN l)):=by
 refine xI Tryz.func208 Tryz.call208 fun hcap=>?_
 have hml:(l.map strv).length=l.length:=by simp
 refine xN fun _=>?_
 iterate 4 refine zW ?_
 refine jaj [0,5,6] [] (fun (k:Nat) r=>(7,.i (k:Int))::r) (fun k r=>r) (fun k=>k≤l.length∧plnGo (prevN l k) (l.drop k)=plnGo none l) (fun k=>l.length - k) (0) zRc ⟨by omega,rfl⟩ (zWk) ?_
 intro k ⟨hk,hI⟩
 refine xC ?_ ?_<;>intro hc
 ·(
 have hlt:=qc hc
 obtain ⟨x,hx,hd⟩:=jab (l:=l) (k:=k) (by omega)
 have hx':=jad strv hx
 obtain ⟨y,hy⟩:=jtq x hk
 have hq:=jxe (x:=x) hy
 refine xA (jmV x) ?_
 iterate 2 refine zW ?_
 iterate 6 all_goals first | refine zW ?_ | refine xG ?_ ?_<;>intro hg
 all_goals first | (refine zY ?_;(refine zP (jam (k:=k - 1) rfl rfl rfl rfl (by decide) (by have h9:decide ((k:Int)>0)=true:=(by first | with_reducible assumption | exact hg);have:=qc h9;omega) (jad strv (hy (by have h9:decide ((k:Int)>0)=true:=(by first | with_reducible assumption | exact hg);have:=qc h9;omega)))) ?_)) | refine zSk ?_
 iterate 2 all_goals refine zW ?_
 all_goals first | (refine zY ?_;refine jaa zRc (jeo y x) rfl rfl ?_) | refine zSk ?_
 iterate 3 all_goals refine zW ?_
 all_goals (
 refine xC ?_ ?_<;>intro hc
 ·(
 first
 | (exact xQ hc)
 |(
 have hq0:(valN x&&okN (prevN l k) x)=false:=by rw [hq];first | (simp [*];done) | grind
 refine xP ?_
 unfold plainN
 rw [hd,jhj,hq0,qv] at hI
 rw [← hI];rfl))
 ·(
 first
 | (exact xQ hc)
 |(
 have hq0:(valN x&&okN (prevN l k) x)=true:=by rw [hq];first | (simp [*];done) | grind
 iterate 8 refine zW ?_
 rw [hd,jhj,hq0,qs,← joA hx] at hI
 refine ⟨k+1,⟨by omega,hI⟩,by omega,zWk⟩))))
 ·(
 have hge:=qd hc
 rw [jac (by omega)] at hI
 refine xN fun _=>?_
 refine xP ?_
 unfold plainN
 rw [← hI,hml];simp [plnGo,resD];omega)
theorem jef (a b:List Str) (hla:a.length≤100000) (hlb:b.length≤100000):C0 239 [.sl 1 (a.map strv),.sl 1 (b.map strv)] (.b (sameN a b)):=by
 refine xI Tryz.func239 Tryz.call239 fun hcap=>?_
 have hml:(a.map strv).length=a.length:=by simp
 have hml2:(b.map strv).length=b.length:=by simp
 refine xN fun _=>?_
 refine xN fun _=>?_
 refine xC ?_ ?_<;>intro hc
 ·(
 have hne:¬ a.length=b.length:=by have:=jaf hc;omega
 refine xP ?_
 rw [show sameN a b=false from qx (fun h=>hne (by rw [h]))];rfl)
 ·(
 have hne:a.length=b.length:=by have:=jae hc;omega
 refine xN fun _=>?_
 iterate 4 refine zW ?_
 refine jaj [0,1,12] [] (fun (i:Nat) r=>(13,.i (i:Int))::r) (fun i r=>r) (fun i=>i≤a.length∧decide (a.drop i=b.drop i)=sameN a b) (fun i=>a.length - i) (0) zRc ⟨by omega,rfl⟩ (zWk) ?_
 intro i ⟨hi,hI⟩
 refine xC ?_ ?_<;>intro hc
 ·(
 have hlt:=qc hc
 obtain ⟨x,hx,hd⟩:=jab (l:=a) (k:=i) (by omega)
 have hx':=jad strv hx
 obtain ⟨y,hy,hd2⟩:=jab (l:=b) (k:=i) (by omega)
 have hy':=jad strv hy
 iterate 11 refine zW ?_
 refine zDr [] ?_
 refine zT 0 ?_;refine zT 1 ?_
 refine jan 2 rfl zGd zKr zKr zKr (AP.ar (jam (k:=i) rfl rfl rfl rfl (by decide) rfl hx')) rfl rfl ?_
 refine zT 3 ?_;refine zT 4 ?_;refine zT 5 ?_
 refine jan 6 rfl zGd zKr zKr zKr (AP.ar (jam (k:=i) rfl rfl rfl rfl (by decide) rfl hy')) rfl rfl ?_
 refine zT 7 ?_;refine zT 8 ?_
 refine zW ?_
 all_goals (
 refine xC ?_ ?_<;>intro hc
 ·(
 have hxy:=jpv hc
 rw [hd,hd2,show decide (x::a.drop (i+1)=y::b.drop (i+1))=false from qx (fun h=>hxy (List.cons.inj h).1)] at hI
 refine xP ?_
 rw [← hI];rfl)
 ·(
 have hxy:=jrU hc
 rw [hd,hd2,hxy,show decide (y::a.drop (i+1)=y::b.drop (i+1))=decide (a.drop (i+1)=b.drop (i+1)) from by simp] at hI
 iterate 8 refine zW ?_
 refine ⟨i+1,⟨by omega,hI⟩,by omega,zWk⟩)))
 ·(
 have hge:=qd hc
 rw [jac (by omega),jac (by omega)] at hI
 refine xP ?_
 rw [← hI];rfl))
theorem jqQ (l:List Str) (hlen:l.length≤100000):C0 186 [.sl 1 (l.map strv)] (.tup [.v (.string (compN l).1),.b (compN l).2]):=by
 refine xI Tryz.func186 Tryz.call186 fun hcap=>?_
 have hml:(l.map strv).length=l.length:=by simp
 refine xN fun _=>?_
 iterate 4 refine zW ?_
 refine jaP [8,9] [] (fun (i:Nat) (bs:Str) (g:Bool) r=>(4,.v (.string bs))::(5,.b g)::(10,.i (i:Int))::r) (fun i bs g r=>r) (fun i bs g=>i≤l.length∧compGo (l.drop i) (bs,g)=compN l) (fun i bs g=>l.length - i) (0) (noS) (false) zRc ⟨by omega,rfl⟩ (zWk) ?_
 intro i bs g ⟨hi,hI⟩
 refine xC ?_ ?_<;>intro hc
 ·(
 have hlt:=qc hc
 obtain ⟨x,hx,hd⟩:=jab (l:=l) (k:=i) (by omega)
 have hx':=jad strv hx
 refine xA (jmV x) ?_
 refine zW ?_
 iterate 5 all_goals first | refine zW ?_ | refine xG ?_ ?_<;>intro hg
 all_goals first | (refine zY ?_;refine jaa zRc (jeo x bs) rfl rfl ?_) | refine zSk ?_
 iterate 3 all_goals refine zW ?_
 all_goals (
 refine xC ?_ ?_<;>intro hc
 ·(
 first
 | (exact xQ hc)
 |(
 have h25:(valN x&&(!g||decide (cN x bs>0)))=true:=by first | (simp_all;done) | grind
 have mk25t:True:=trivial
 iterate 12 refine zW ?_
 rw [hd] at hI;simp only [compGo] at hI
 rw [qf h25] at hI;refine ⟨i+1,x,true,⟨by omega,hI⟩,by omega,zWk⟩))
 ·(
 first
 | (exact xQ hc)
 |(
 have h25:¬ (valN x&&(!g||decide (cN x bs>0)))=true:=by first | (simp_all;done) | grind
 have mk25f:True:=trivial
 iterate 8 refine zW ?_
 rw [hd] at hI;simp only [compGo] at hI
 first
 | (have:=mk25t;rw [qf h25] at hI;refine ⟨i+1,x,true,⟨by omega,hI⟩,by omega,zWk⟩)
 | (have:=mk25f;rw [qe h25] at hI;refine ⟨i+1,bs,g,⟨by omega,hI⟩,by omega,zWk⟩)))))
 ·(
 have hge:=qd hc
 rw [jac (by omega)] at hI
 refine xP ?_
 rw [← hI];rfl)
theorem jgz (q:List Str) (x:Str):List.map strv q++[D.v (.string x)]=(q++[x]).map strv:=by rw [List.map_append];rfl
theorem jbi (q:List Str) (x:Str):List.map strv q++[strv x]=(q++[x]).map strv:=by rw [List.map_append];rfl
theorem jdm (l:List Str) (hlen:l.length≤100000) (x:Str):C0 235 [.sl 1 (l.map strv),.v (.string x)] (.sl 1 ((putN l x).map strv)):=by
 refine xI Tryz.func235 Tryz.call235 fun hcap=>?_
 have hml:(l.map strv).length=l.length:=by simp
 refine xA (jdl l hlen x) ?_
 refine zW ?_
 all_goals refine xG ?_ ?_<;>intro hg
 all_goals first | (refine zY ?_;(first | refine zLn fun _=>?_ | refine zW ?_)) | refine zSk ?_
 iterate 2 all_goals refine zW ?_
 all_goals (
 refine xC ?_ ?_<;>intro hc
 ·(
 first
 | (exact xQ hc)
 |(
 have h16:(hasN l x||decide (40≤l.length))=true:=by first | (rw [show hasN l x=true by with_reducible assumption];rfl) | (rw [show decide (40≤l.length)=true from qg (by have:=qc hc;omega)];exact Bool.or_true _)
 refine xP ?_
 unfold putN;rw [qf h16];rfl))
 ·(
 first
 | (exact xQ hc)
 |(
 have h16:¬ (hasN l x||decide (40≤l.length))=true:=by rw [show hasN l x=false by with_reducible assumption,show decide (40≤l.length)=false from qx (by have:=qd hc;omega)];decide
 refine xN fun _=>?_
 iterate 4 refine zW ?_
 refine jbt [1,18,19] [] (fun (i:Nat) (v:Value) (q:List Str) (g:Bool) r=>(5,.v v)::(6,.b g)::(20,.i (i:Int))::r) (fun i v q g r=>.arr v 9 1 (q.map strv)::r) (fun i v q g=>i≤l.length∧q.length≤2 * i∧putsGo x (l.drop i) g q=putsGo x l false []) (fun i v q g=>l.length - i) (0) (.slice none 0 0) ([]) (false) zRc ⟨by omega,by simp,rfl⟩ ((jaO 9 1 rfl).trans (zWk)) ?_
 intro i v q g ⟨hi,hql,hI⟩
 have hqm:(q.map strv).length=q.length:=by simp
 refine xC ?_ ?_<;>intro hc
 ·(
 have hlt:=qc hc
 obtain ⟨y,hx,hd⟩:=jab (l:=l) (k:=i) (by omega)
 have hx':=jad strv hx
 iterate 17 refine zW ?_
 iterate 2 all_goals first | refine zW ?_ | refine xG ?_ ?_<;>intro hg
 all_goals first | (refine zY ?_;refine jaa zRc (jeo x y) rfl rfl ?_) | refine zSk ?_
 iterate 2 all_goals refine zW ?_
 all_goals (
 refine xC ?_ ?_<;>intro hc
 ·(
 first
 | (exact xQ hc)
 |(
 have h31:(!g&&decide (cN x y<0))=true:=by first | (simp_all;done) | grind
 have mk31t:True:=trivial
 iterate 3 refine zW ?_
 refine xLt 9 1 16 ?_
 refine xEa 9 1 16 (hb:=xLb) fun v35 hv35=>?_
 iterate 7 refine zW ?_
 refine xLt 9 1 16 ?_
 refine xEa 9 1 16 (hb:=xLb) fun v39 hv39=>?_
 iterate 9 refine zW ?_
 rw [hd] at hI;simp only [putsGo] at hI
 rw [qf h31] at hI;rw [jgz,jbi];refine ⟨i+1,_,(q++[x])++[y],true,⟨by omega,by simp;omega,hI⟩,by omega,zWk⟩))
 ·(
 first
 | (exact xQ hc)
 |(
 have h31:¬ (!g&&decide (cN x y<0))=true:=by first | (simp_all;done) | grind
 have mk31f:True:=trivial
 iterate 5 refine zW ?_
 refine xLt 9 1 16 ?_
 refine xEa 9 1 16 (hb:=xLb) fun v39 hv39=>?_
 iterate 9 refine zW ?_
 rw [hd] at hI;simp only [putsGo] at hI
 first
 | (have:=mk31t;rw [qf h31] at hI;rw [jgz,jbi];refine ⟨i+1,_,(q++[x])++[y],true,⟨by omega,by simp;omega,hI⟩,by omega,zWk⟩)
 | (have:=mk31f;rw [qe h31] at hI;rw [jbi];refine ⟨i+1,_,q++[y],g,⟨by omega,by simp;omega,hI⟩,by omega,zWk⟩)))))
 ·(
 have hge:=qd hc
 rw [jac (by omega),putsGo] at hI
 refine xC ?_ ?_<;>intro hc
 ·(
 have hg0:g=false:=jau hc
 have mk42t:True:=trivial
 iterate 3 refine zW ?_
 refine xLt 9 1 16 ?_
 refine xEa 9 1 16 (hb:=xLb) fun v46 hv46=>?_
 iterate 9 refine zW ?_
 rw [jgz];refine zFz v46 [4] ?_
 refine xP ?_
 unfold putN;rw [qe h16,← hI];first | (have:=mk42t;rw [qe (by rw [hg0];decide)];rfl) | (have:=mk42f;rw [qf hg0];rfl))
 ·(
 have hg0:g=true:=jat hc
 have mk42f:True:=trivial
 iterate 8 refine zW ?_
 refine zFz v [4] ?_
 refine xP ?_
 unfold putN;rw [qe h16,← hI];first | (have:=mk42t;rw [qe (by rw [hg0];decide)];rfl) | (have:=mk42f;rw [qf hg0];rfl))))))
theorem jdw (a b:List Str) (hla:a.length≤100000) (hlb:b.length≤100000):C0 255 [.sl 1 (a.map strv),.sl 1 (b.map strv)] (.sl 1 ((unionN a b).map strv)):=by
 refine xI Tryz.func255 Tryz.call255 fun hcap=>?_
 have hml:(a.map strv).length=a.length:=by simp
 have hml2:(b.map strv).length=b.length:=by simp
 iterate 18 refine zW ?_
 refine jbt [0,1] [] (fun (i:Nat) (k:Nat) (v:Value) (q:List Str) r=>(5,.v v)::(6,.i (i:Int))::(7,.i (k:Int))::r) (fun i k v q r=>.arr v 9 1 (q.map strv)::r) (fun i k v q=>(i≤a.length∧k≤b.length)∧q.length≤i+k∧∃ n,(a.length - i)+(b.length - k)≤n∧unionGo n (a.drop i) (b.drop k) q=unionN a b) (fun i k v q=>(a.length - i)+(b.length - k)) (0) (0) (.slice none 0 0) ([]) zRc ⟨by omega,by simp,_,Nat.le_refl _,rfl⟩ ((jaO 9 1 rfl).trans (zWk)) ?_
 intro i k v q ⟨⟨hi,hk⟩,hql,n,hn,hI⟩
 have hqm:(q.map strv).length=q.length:=by simp
 obtain ⟨x,hx⟩:=jgt a i noS
 obtain ⟨y,hy⟩:=jgt b k noS
 refine xN fun _=>?_
 iterate 2 refine zW ?_
 iterate 2 all_goals first | refine zW ?_ | refine xG ?_ ?_<;>intro hg
 all_goals first | (refine zY ?_;(first | refine zLn fun _=>?_ | refine zW ?_)) | refine zSk ?_
 iterate 2 all_goals refine zW ?_
 all_goals (
 refine xC ?_ ?_<;>intro hc
 ·(
 first
 | (exact xQ hc)
 |(
 have h18:i<a.length∨k<b.length:=by first | exact .inl (by have h9:decide ((i:Int)<((a.map strv).length:Int))=true:=(by first | with_reducible assumption | exact hg | exact hc);have:=qc h9;omega) | exact .inr (by have h9:decide ((k:Int)<((b.map strv).length:Int))=true:=(by first | with_reducible assumption | exact hg | exact hc);have:=qc h9;omega)
 iterate 11 refine zW ?_
 refine zDr [] ?_
 refine zT 0 ?_;refine zT 1 ?_;refine zT 2 ?_;refine zT 3 ?_;refine zT 4 ?_
 refine jai 4 rfl (fun hg=>?_) fun hg=>?_
 rotate_left
 case' _ =>(
 refine zT 5 ?_;refine zT 6 ?_;refine zT 7 ?_;refine zT 8 ?_;refine zT 9 ?_
 refine jai 9 rfl (fun hg=>?_) fun hg=>?_
 rotate_left
 case' _ =>(
 refine zK 10 ?_;refine zK 11 ?_;refine zK 12 ?_;refine zK 13 ?_;refine zK 14 ?_;refine zK 15 ?_;refine zK 16 ?_;refine zK 17 ?_;refine zK 18 ?_;refine zK 19 ?_;refine zT 20 ?_;refine zT 21 ?_;refine zT 22 ?_
 refine zW ?_)
 rotate_right
 case' _ =>(
 refine zT 10 ?_;refine zT 11 ?_
 refine jan 12 rfl zGd zKr zKr zKr (AP.ar (jam (k:=i) rfl rfl rfl rfl (by decide) rfl (jad strv (hx (by have h9:decide ((i:Int)<((a.map strv).length:Int))=true:=(by first | with_reducible assumption | exact hg | exact hc);have:=qc h9;omega))))) rfl rfl ?_
 refine zT 13 ?_;refine zT 14 ?_;refine zT 15 ?_
 refine jan 16 rfl zGd zKr zKr zKr (AP.ar (jam (k:=k) rfl rfl rfl rfl (by decide) rfl (jad strv (hy (by have h9:decide ((k:Int)=((b.map strv).length:Int))=false:=(by first | with_reducible assumption | exact hg | exact hc);have:=qd h9;omega))))) rfl rfl ?_
 refine zT 17 ?_;refine zOn 18 ?_
 refine xA (jeo x y) ?_
 refine zW ?_
 refine zT 19 ?_;refine zT 20 ?_;refine zT 21 ?_;refine zT 22 ?_
 refine zW ?_))
 rotate_right
 case' _ =>(
 refine zK 5 ?_;refine zK 6 ?_;refine zK 7 ?_;refine zK 8 ?_;refine zKu 9 ?_;refine zK 10 ?_;refine zK 11 ?_;refine zK 12 ?_;refine zK 13 ?_;refine zK 14 ?_;refine zK 15 ?_;refine zK 16 ?_;refine zK 17 ?_;refine zK 18 ?_;refine zK 19 ?_;refine zK 20 ?_;refine zT 21 ?_;refine zT 22 ?_
 refine zW ?_)
 all_goals (
 refine xC ?_ ?_<;>intro hc
 ·(
 first
 | (exact xQ hc)
 |(
 have h27:k=b.length∨∃ y,b[k]?=some y∧cN x y<0:=by first | (refine .inl ?_;have h9:decide ((k:Int)=((b.map strv).length:Int))=true:=(by first | with_reducible assumption | exact hg | exact hc);have:=qc h9;omega) | (refine .inr ⟨y,hy (by have h9:decide ((k:Int)=((b.map strv).length:Int))=false:=(by first | with_reducible assumption | exact hg | exact hc);have:=qd h9;omega),qc (by first | with_reducible assumption | exact hc)⟩)
 have hia:i<a.length:=by first | exact (by have h9:decide ((i:Int)<((a.map strv).length:Int))=true:=(by first | with_reducible assumption | exact hg | exact hc);have:=qc h9;omega) | (have h9:decide ((k:Int)=((b.map strv).length:Int))=true:=(by first | with_reducible assumption | exact hg | exact hc);have:=qc h9;omega)
 have mk27t:True:=trivial
 iterate 4 refine zW ?_
 refine zP (jam (k:=i) rfl rfl rfl rfl (by decide) rfl (jad strv (hx hia))) ?_
 iterate 14 refine zW ?_
 refine xLt 9 1 16 ?_
 refine xEa 9 1 16 (hb:=xLb) fun v82 hv82=>?_
 iterate 4 refine zW ?_
 obtain ⟨n',rfl⟩:∃ n',n=n'+1:=⟨n - 1,by omega⟩
 rw [jgX (hx hia) h27] at hI;rw [jbi];refine ⟨i+1,k,_,q++[x],⟨by omega,by simp;omega,n',by omega,hI⟩,by omega,zWk⟩))
 ·(
 first
 | (exact xQ hc)
 |(
 have hkb:k<b.length:=(by have h9:decide ((k:Int)=((b.map strv).length:Int))=false:=(by first | with_reducible assumption | exact hg | exact hc);have:=qd h9;omega)
 have h27w:i<a.length→¬ cN x y<0:=by intro hlt;first | exact qd (by first | with_reducible assumption | exact hc) | (have h9:decide ((i:Int)<((a.map strv).length:Int))=false:=(by first | with_reducible assumption | exact hg | exact hc);have:=qd h9;omega)
 refine zW ?_
 refine zDr [] ?_
 refine zT 0 ?_;refine zT 1 ?_;refine zT 2 ?_;refine zT 3 ?_;refine zT 4 ?_
 refine jai 4 rfl (fun hg=>?_) fun hg=>?_
 rotate_left
 case' _ =>(
 refine zT 5 ?_;refine zT 6 ?_
 refine jan 7 rfl zGd zKr zKr zKr (AP.ar (jam (k:=i) rfl rfl rfl rfl (by decide) rfl (jad strv (hx (by have h9:decide ((i:Int)=((a.map strv).length:Int))=false:=(by first | with_reducible assumption | exact hg | exact hc);have:=qd h9;omega))))) rfl rfl ?_
 refine zT 8 ?_;refine zT 9 ?_;refine zT 10 ?_
 refine jan 11 rfl zGd zKr zKr zKr (AP.ar (jam (k:=k) rfl rfl rfl rfl (by decide) rfl (jad strv (hy hkb)))) rfl rfl ?_
 refine zT 12 ?_;refine zOn 13 ?_
 refine xA (jeo x y) ?_
 refine zW ?_
 refine zT 14 ?_;refine zT 15 ?_;refine zT 16 ?_
 refine zW ?_)
 rotate_right
 case' _ =>(
 refine zK 5 ?_;refine zK 6 ?_;refine zK 7 ?_;refine zK 8 ?_;refine zK 9 ?_;refine zK 10 ?_;refine zK 11 ?_;refine zK 12 ?_;refine zK 13 ?_;refine zK 14 ?_;refine zT 15 ?_;refine zT 16 ?_
 refine zW ?_)
 all_goals (
 refine xC ?_ ?_<;>intro hc
 ·(
 first
 | (exact xQ hc)
 |(
 have h56:i=a.length∨∃ x,a[i]?=some x∧cN x y>0:=by first | (refine .inl ?_;have h9:decide ((i:Int)=((a.map strv).length:Int))=true:=(by first | with_reducible assumption | exact hg | exact hc);have:=qc h9;omega) | (refine .inr ⟨x,hx (by have h9:decide ((i:Int)=((a.map strv).length:Int))=false:=(by first | with_reducible assumption | exact hg | exact hc);have:=qd h9;omega),qc (by first | with_reducible assumption | exact hc)⟩)
 have mk56t:True:=trivial
 iterate 4 refine zW ?_
 refine zP (jam (k:=k) rfl rfl rfl rfl (by decide) rfl (jad strv (hy hkb))) ?_
 iterate 14 refine zW ?_
 refine xLt 9 1 16 ?_
 refine xEa 9 1 16 (hb:=xLb) fun v82 hv82=>?_
 iterate 4 refine zW ?_
 obtain ⟨n',rfl⟩:∃ n',n=n'+1:=⟨n - 1,by omega⟩
 first
 | (have:=mk27t;rw [jgX (hx hia) h27] at hI;rw [jbi];refine ⟨i+1,k,_,q++[x],⟨by omega,by simp;omega,n',by omega,hI⟩,by omega,zWk⟩)
 | (have:=mk56t;rw [jkR (hy hkb) h56] at hI;rw [jbi];refine ⟨i,k+1,_,q++[y],⟨by omega,by simp;omega,n',by omega,hI⟩,by omega,zWk⟩)))
 ·(
 first
 | (exact xQ hc)
 |(
 have hia:i<a.length:=(by have h9:decide ((i:Int)=((a.map strv).length:Int))=false:=(by first | with_reducible assumption | exact hg | exact hc);have:=qd h9;omega)
 have h56:¬ cN x y>0:=qd (by first | with_reducible assumption | exact hc)
 have h27:=h27w hia
 have mk56f:True:=trivial
 iterate 4 refine zW ?_
 refine zP (jam (k:=i) rfl rfl rfl rfl (by decide) rfl (jad strv (hx hia))) ?_
 iterate 21 refine zW ?_
 refine xLt 9 1 16 ?_
 refine xEa 9 1 16 (hb:=xLb) fun v82 hv82=>?_
 iterate 4 refine zW ?_
 obtain ⟨n',rfl⟩:∃ n',n=n'+1:=⟨n - 1,by omega⟩
 first
 | (have:=mk27t;rw [jgX (hx hia) h27] at hI;rw [jbi];refine ⟨i+1,k,_,q++[x],⟨by omega,by simp;omega,n',by omega,hI⟩,by omega,zWk⟩)
 | (have:=mk56t;rw [jkR (hy hkb) h56] at hI;rw [jbi];refine ⟨i,k+1,_,q++[y],⟨by omega,by simp;omega,n',by omega,hI⟩,by omega,zWk⟩)
 | (have:=mk56f;rw [jsl (hx hia) (hy hkb) h27 h56] at hI;rw [jbi];refine ⟨i+1,k+1,_,q++[x],⟨by omega,by simp;omega,n',by omega,hI⟩,by omega,zWk⟩)))))))))
 ·(
 first
 | (exact xQ hc)
 |(
 have hie:i=a.length:=by have h9:decide ((i:Int)<((a.map strv).length:Int))=false:=(by first | with_reducible assumption | exact hg | exact hc);have:=qd h9;omega
 have hke:k=b.length:=by have h9:decide ((k:Int)<((b.map strv).length:Int))=false:=(by first | with_reducible assumption | exact hg | exact hc);have:=qd h9;omega
 rw [hie,hke,List.drop_length,List.drop_length,jli] at hI
 iterate 11 refine zW ?_
 refine zFz v [4] ?_
 refine xP ?_
 rw [← hI];rfl)))
def nmv (m:Nmn):D:=.agg [.i m.node,.i m.seq,.i m.t.th,.sl 1 (m.t.nodes.map .i),.sl 3 (avs m.t.inner),.sl 1 (m.votes.map strv),.sl 1 (m.accs.map strv)]
def nrv (n:Nmr):D:=.agg [.i n.node,.i n.slot,.i n.round,.i n.seq,.i n.t.th,.sl 1 (n.t.nodes.map .i),.sl 3 (avs n.t.inner),.v (.string n.own),.sl 1 (n.votes.map strv),.sl 1 (n.accs.map strv),.sl 1 (n.confs.map strv),.sl 7 (n.heard.map nmv)]
theorem jmo (n:Nmr):C0 179 [nrv n] (nmv (sayN n)):=by
 refine xI Tryz.func179 Tryz.call179 fun hcap=>?_
 refine xX fun b1=>?_
 refine zAl fun b2=>?_
 refine xP ?_;exact rfl
theorem jf5 (m:Nmn) (hs:sizeT m.t≤1000000000) (hv:m.votes.length≤100000) (ha:m.accs.length≤100000):C0 210 [nmv m] (.b (plainNm m)):=by
 refine xI Tryz.func210 Tryz.call210 fun hcap=>?_
 refine xX fun b1=>?_
 iterate 9 refine zW ?_
 iterate 12 all_goals first | refine zW ?_ | refine xG ?_ ?_<;>intro hg
 all_goals first | (refine zY ?_;refine jaa zRc (jaN m.t hs) rfl rfl ?_) | refine zSk ?_
 iterate 5 all_goals first | refine zW ?_ | refine xG ?_ ?_<;>intro hg
 all_goals first | (refine zY ?_;refine jaa zRc (jcj m.votes hv) rfl rfl ?_) | refine zSk ?_
 iterate 4 all_goals first | refine zW ?_ | refine xG ?_ ?_<;>intro hg
 all_goals first | (refine zY ?_;refine jaa zRc (jcj m.accs ha) rfl rfl ?_) | refine zSk ?_
 iterate 2 all_goals refine zW ?_
 all_goals (
 refine xP ?_
 unfold plainNm
 simp only [*,qs,qv,Bool.and_true,qw];rfl)
theorem jhP (n:Nmr) (hB:NB n):C0 233 [nrv n] (.sl 1 ((knownN n).map strv)):=by
 refine xI Tryz.func233 Tryz.call233 fun hcap=>?_
 have hml:(n.heard.map nmv).length=n.heard.length:=by simp
 have hbv:=hB.v
 have hba:=hB.a
 have hbl:=hB.hl
 have hu0:=jdr n.votes n.accs
 refine xX fun b1=>?_
 refine xA (jdw n.votes n.accs (by omega) (by omega)) ?_
 refine xN fun _=>?_
 iterate 4 refine zW ?_
 refine jag [12,13] [.box b1 _ _] (fun (k:Nat) (q:List Str) r=>(3,.sl 1 (q.map strv))::(14,.i (k:Int))::r) (fun k q r=>r) (fun k q=>k≤n.heard.length∧q.length≤2000+2000 * k∧(n.heard.drop k).foldl knownF q=knownN n) (fun k q=>n.heard.length - k) (0) (unionN n.votes n.accs) zRc ⟨by omega,by omega,rfl⟩ (zWk) ?_
 intro k q ⟨hk,hql,hI⟩
 refine xC ?_ ?_<;>intro hc
 ·(
 have hlt:=qc hc
 obtain ⟨m,hx,hd⟩:=jab (l:=n.heard) (k:=k) (by omega)
 have hx':=jad nmv hx
 have hmb:=hB.hs m (qj hx)
 refine xL fun b5=>?_
 refine xA (jdw m.votes m.accs (by omega) (by omega)) ?_
 refine xA (jdw q (unionN m.votes m.accs) (by omega) (by have:=jdr m.votes m.accs;omega)) ?_
 iterate 9 refine zW ?_
 rw [hd,List.foldl_cons] at hI
 have hkl:(unionN q (unionN m.votes m.accs)).length≤2000+2000 * (k+1):=Nat.le_trans (joO (q:=q) hmb.2.1 hmb.2.2) (by clear hu0;omega)
 refine ⟨k+1,unionN q (unionN m.votes m.accs),⟨by clear hkl;omega,hkl,hI⟩,by clear hkl;omega,zWk⟩)
 ·(
 have hge:=qd hc
 rw [jac (by omega)] at hI
 refine xP ?_
 rw [← hI];rfl)
theorem jdK (q:List Nmn) (x:Nmn):List.map nmv q++[nmv x]=(q++[x]).map nmv:=by rw [List.map_append];rfl
theorem jeZ (n:Nmr) (hB:NB n) (x:Str):C0 236 [nrv n,.v (.string x)] (.tup [.i (sideN Nmn.votes n x:Nat),.i (sideN Nmn.accs n x:Nat)]):=by
 refine xI Tryz.func236 Tryz.call236 fun hcap=>?_
 have hml:(n.heard.map nmv).length=n.heard.length:=by simp
 have hbv:=hB.v
 have hba:=hB.a
 have hbl:=hB.hl
 have hnd:=hB.nd
 refine xX fun b2=>?_
 iterate 12 refine zW ?_
 refine zDr [] ?_
 refine zT 1 ?_;refine zT 2 ?_;refine zT 4 ?_;refine zT 9 ?_;refine zOn 0 ?_
 refine jno (e:=51) (sz:=7) (by_:=120) rfl rfl zRc rfl rfl rfl rfl (fun v10 hv10=>?_)
 refine zW ?_
 refine zOn 3 ?_
 refine xEa 51 7 120 (hb:=xLb) fun v13 hv13=>?_
 refine zW ?_
 refine zOn 5 ?_
 refine xA (jmo n) ?_
 refine zW ?_
 refine zOn 6 ?_
 refine xLt 51 7 120 ?_
 refine zW ?_
 refine zOn 7 ?_
 refine xEa 51 7 120 (hb:=xLb) fun v17 hv17=>?_
 refine zW ?_
 refine zT 8 ?_
 refine zW ?_
 all_goals (
 iterate 2 refine zW ?_
 rw [List.nil_append,jdK]
 refine zFz v17 [1,6,7,17,18,19] ?_
 obtain ⟨l,hl⟩:∃ l,l=n.heard++[sayN n]:=⟨_,rfl⟩
 rw [← hl]
 have hml2:(l.map nmv).length=l.length:=by simp
 have hll:l.length≤21:=by rw [hl];simp;omega
 have hlb:∀ m∈l,(m.votes.length≤1000∧m.accs.length≤1000)∧0≤m.node∧m.node<10:=by rw [hl];intro m hm;rcases List.mem_append.1 hm with h | h;exact ⟨(hB.hs m h).2,hB.hn m h⟩;rw [List.mem_singleton.1 h];exact ⟨⟨hbv,hba⟩,hnd⟩
 refine jaP [1,17,18] [] (fun (k:Nat) (s1:Nat) (s2:Nat) r=>(6,.i (s1:Int))::(7,.i (s2:Int))::(19,.i (k:Int))::r) (fun k s1 s2 r=>r) (fun k s1 s2=>k≤l.length∧(s1<1024∧s2<1024)∧(l.drop k).foldl (sideS Nmn.votes x) s1=l.foldl (sideS Nmn.votes x) 0∧(l.drop k).foldl (sideS Nmn.accs x) s2=l.foldl (sideS Nmn.accs x) 0) (fun k s1 s2=>l.length - k) (0) (0) (0) zRc ⟨by omega,by omega,rfl,rfl⟩ (zWk) ?_
 intro k s1 s2 ⟨hk,⟨hs1,hs2⟩,hI,hJ⟩
 refine xC ?_ ?_<;>intro hc
 ·(
 have hlt:=qc hc
 obtain ⟨m,hx,hd⟩:=jab (l:=l) (k:=k) (by omega)
 have hx':=jad nmv hx
 have hmb:=hlb m (qj hx)
 obtain ⟨w,hw,hw10⟩:∃ w:Nat,m.node=(w:Int)∧w<10:=⟨m.node.toNat,by omega,by omega⟩
 have hpn:=jaH hw10
 refine xL fun b9=>?_
 iterate 5 refine zW ?_
 rw [hw]
 refine xA (jdl m.votes (by omega) x) ?_
 refine xC ?_ ?_<;>intro hc
 ·(
 have h26:hasN m.votes x=true:=hc
 iterate 4 refine zW ?_
 refine zP (jbg (p:=1) rfl rfl rfl (by omega) (by omega)) ?_
 refine xA (jdl m.accs (by omega) x) ?_
 refine xC ?_ ?_<;>intro hc
 ·(
 have h35:hasN m.accs x=true:=hc
 iterate 4 refine zW ?_
 refine zP (jbg (p:=1) rfl rfl rfl (by omega) (by omega)) ?_
 iterate 10 refine zW ?_
 rw [hd,List.foldl_cons] at hI hJ
 rw [jiF hw h26] at hI;rw [jiF hw h35] at hJ;refine ⟨k+1,s1|||1 * 2^w,s2|||1 * 2^w,⟨by omega,⟨jb9 hs1 hw10,jb9 hs2 hw10⟩,hI,hJ⟩,by omega,zWk⟩)
 ·(
 have h35:hasN m.accs x=false:=hc
 iterate 8 refine zW ?_
 rw [hd,List.foldl_cons] at hI hJ
 rw [jiF hw h26] at hI;rw [jix h35] at hJ;refine ⟨k+1,s1|||1 * 2^w,s2,⟨by omega,⟨jb9 hs1 hw10,hs2⟩,hI,hJ⟩,by omega,zWk⟩))
 ·(
 have h26:hasN m.votes x=false:=hc
 refine xA (jdl m.accs (by omega) x) ?_
 refine xC ?_ ?_<;>intro hc
 ·(
 have h35:hasN m.accs x=true:=hc
 iterate 4 refine zW ?_
 refine zP (jbg (p:=1) rfl rfl rfl (by omega) (by omega)) ?_
 iterate 10 refine zW ?_
 rw [hd,List.foldl_cons] at hI hJ
 rw [jix h26] at hI;rw [jiF hw h35] at hJ;refine ⟨k+1,s1,s2|||1 * 2^w,⟨by omega,⟨hs1,jb9 hs2 hw10⟩,hI,hJ⟩,by omega,zWk⟩)
 ·(
 have h35:hasN m.accs x=false:=hc
 iterate 8 refine zW ?_
 rw [hd,List.foldl_cons] at hI hJ
 rw [jix h26] at hI;rw [jix h35] at hJ;refine ⟨k+1,s1,s2,⟨by omega,⟨hs1,hs2⟩,hI,hJ⟩,by omega,zWk⟩)))
 ·(
 have hge:=qd hc
 rw [jac (by omega)] at hI hJ
 refine xP ?_
 unfold sideN;rw [← hl,← hI,← hJ];rfl))
def mgv (m:Nmn):D:=.agg [.i m.node,.i m.seq,.i m.t.th,.sl 1 (m.t.nodes.map .i),.sl 3 (avs m.t.inner),.sl 2 [],.sl 2 []]
theorem jgW (u:Unit):C0 286 [.sl 2 []] (.b true):=by
 refine xI Tryz.func286 Tryz.call286 fun hcap=>?_
 refine xN fun _=>?_
 iterate 4 refine zW ?_
 refine jaj [0,5,6] [] (fun (k:Nat) r=>(7,.i (k:Int))::r) (fun k r=>r) (fun k=>k=0) (fun k=>0) (0) zRc rfl (zWk) ?_
 intro k hk
 subst hk
 refine xC ?_ ?_<;>intro hc
 ·exact xQ hc
 ·(
 skip
 refine xP ?_
 rfl)
theorem joh (m:Nmn) (hs:sizeT m.t≤1000000000):C0 272 [mgv m] (.b (plainMg m)):=by
 refine xI Tryz.func272 Tryz.call272 fun hcap=>?_
 refine xX fun b1=>?_
 iterate 9 refine zW ?_
 iterate 12 all_goals first | refine zW ?_ | refine xG ?_ ?_<;>intro hg
 all_goals first | (refine zY ?_;refine jaa zRc (jaN m.t hs) rfl rfl ?_) | refine zSk ?_
 iterate 5 all_goals first | refine zW ?_ | refine xG ?_ ?_<;>intro hg
 all_goals first | (refine zY ?_;refine jaa zRc (jgW ()) rfl rfl ?_) | refine zSk ?_
 iterate 4 all_goals refine zW ?_
 all_goals first | (refine zY ?_;refine jaa zRc (jgW ()) rfl rfl ?_) | refine zSk ?_
 iterate 2 all_goals refine zW ?_
 all_goals (
 refine xP ?_
 unfold plainMg
 simp only [*,qs,qv,Bool.and_true,qw];rfl)
theorem jsT {q:List Mem} {m:Nmn} {r:List Nmn} (h2:plainMg m=true):seenGo q (m::r)=seenGo (q.set m.node.toNat ⟨true,m.t⟩) r:=by simp only [seenGo];rw [qf h2]
theorem jue {q:List Mem} {m:Nmn} {r:List Nmn} (h:plainMg m=false):seenGo q (m::r)=seenGo q r:=by simp only [seenGo];rw [qe (by rw [h];decide)]
theorem jvA {m:Nmn} (h:plainMg m=true):∃ n:Nat,m.node=n∧n<10:=by
 simp only [plainMg,qh,qm] at h
 exact ⟨m.node.toNat,by omega,by omega⟩
theorem jqn (v:Int) (t:Trust) (ht:sizeT t≤200000) (l:List Nmn) (hl:∀ m∈l,sizeT m.t≤200000):C0 257 [.i v,av t,.sl 7 (l.map mgv)] (cv (seenV v t l)):=by
 refine xI Tryz.func257 Tryz.call257 fun hcap=>?_
 have hml:(l.map mgv).length=l.length:=by simp
 refine xX fun b4=>?_
 refine zAl fun b6=>?_
 iterate 4 refine zW ?_
 refine jer (N:=10) (l:=(List.replicate 10 noMem).map mv) rfl rfl rfl rfl jky (by simp) jnb ⟨by decide,by decide⟩ rfl rfl (fun g=>?_)
 refine xL fun b7=>?_
 refine xN fun _=>?_
 iterate 4 refine zW ?_
 refine jag [0,4,6,7,12,13] [.box b4 _ _,.box b6 _ _,.box b7 _ _] (fun (k:Nat) (q:List Mem) r=>(14,.i (k:Int))::r) (fun k q r=>.arr (.slice (some ⟨g,0,none⟩) 10 10) 101 4 (q.map mv)::r) (fun k q=>k≤l.length∧q.length=10∧seenGo q (l.drop k)=seenGo (List.replicate 10 noMem) l) (fun k q=>l.length - k) (0) ((List.replicate 10 noMem)) zRc ⟨by omega,by simp,by simp⟩ (zWk) ?_
 intro k q ⟨hk,hql,hI⟩
 refine xC ?_ ?_<;>intro hc
 ·(
 have hlt:=qc hc
 obtain ⟨x,hx,hd⟩:=jab (l:=l) (k:=k) (by omega)
 have hx':=jad mgv hx
 have hxs:=hl x (qj hx)
 refine xL fun b9=>?_
 refine xA (joh x (by omega)) ?_
 refine xC ?_ ?_<;>intro hc
 ·(
 have hpl:plainMg x=true:=hc
 obtain ⟨n,hn,hn10⟩:=jvA hpl
 rw [hn]
 obtain ⟨y,hy,_⟩:=jab (l:=q) (k:=n) (by omega)
 have hyy:=jad mv hy
 iterate 8 refine zW ?_
 refine zP (jaW (k:=n) rfl rfl rfl rfl rfl (by omega)) ?_
 refine jaI (off:=0) rfl rfl jem jct rfl hyy zRc ?_
 iterate 8 refine zW ?_
 rw [hd,jsT hpl,hn,qr] at hI;refine ⟨k+1,q.set n ⟨true,x.t⟩,⟨by omega,by rw [List.length_set];exact hql,hI⟩,by omega,?_⟩;rw [List.map_set];exact (zWk))
 ·(
 have hpf:plainMg x=false:=hc
 iterate 8 refine zW ?_
 rw [hd,jue hpf] at hI;refine ⟨k+1,q,⟨by omega,hql,hI⟩,by omega,zWk⟩))
 ·(
 have hge:=qd hc
 rw [jac (by omega)] at hI;simp only [seenGo] at hI
 iterate 11 refine zW ?_
 iterate 3 all_goals first | refine zW ?_ | refine xG ?_ ?_<;>intro hg
 all_goals (
 refine xC ?_ ?_<;>intro hc
 ·(
 first
 | (exact xQ hc)
 |(
 have hv1:=qc hg
 have hv2:=qc hc
 refine zW ?_
 obtain ⟨n,rfl,hn10⟩:∃ n:Nat,v=n∧n<10:=⟨v.toNat,by omega,by omega⟩
 obtain ⟨y,hy,_⟩:=jab (l:=q) (k:=n) (by omega)
 have hyy:=jad mv hy
 iterate 5 refine zW ?_
 refine zP (jaW (k:=n) rfl rfl rfl rfl rfl (by omega)) ?_
 refine jaD [0,4,6,7,38,39] 1 rfl rfl (by repeat (first | exact SelC.nil | apply SelC.cons rfl (Cv.agg (CvL.cons Cv.same (CvL.cons Cv.same (CvL.cons Cv.fz (CvL.cons Cv.same CvL.nil))))) | apply SelC.cons rfl Cv.same)) jb0 ?_;refine jaD [0,4,6,7,38,39] 3 rfl rfl jdy jb0 ?_;refine jaI (off:=0) rfl rfl jem jct rfl hyy zRc ?_
 iterate 3 refine zW ?_
 rw [show D.agg [.b false,.i 0,.sl 1 [],.sl 3 []]=mv noMem from rfl,← List.map_set]
 have hqs:(q.set n noMem).length=10:=by rw [List.length_set];exact hql
 obtain ⟨y2,hy2,_⟩:=jab (l:=q.set n noMem) (k:=n) (by omega)
 have hyy2:=jad mv hy2
 refine xA (jaN t (by omega)) ?_
 refine xC ?_ ?_<;>intro hc
 ·(
 have htv:=qc hc
 iterate 6 refine zW ?_
 refine zP (jaW (k:=n) rfl rfl rfl rfl rfl (by omega)) ?_
 refine jaI (off:=0) rfl rfl jem jct rfl hyy2 zRc ?_
 iterate 8 refine zW ?_
 rw [show D.agg [.b true,.i t.th,.sl 1 (t.nodes.map .i),.sl 3 (avs t.inner)]=mv ⟨true,t⟩ from rfl,← List.map_set]
 refine zFz (.slice (some ⟨g,0,none⟩) 10 10) [6] ?_
 refine xP ?_
 have hI9:q=seenGo (List.replicate 10 ⟨false,Trust.none⟩) l:=hI;unfold seenV;rw [qf (by omega),qf htv,qr,← hI9];rfl)
 ·(
 have htv:=qd hc
 iterate 8 refine zW ?_
 refine zFz (.slice (some ⟨g,0,none⟩) 10 10) [6] ?_
 refine xP ?_
 have hI9:q=seenGo (List.replicate 10 ⟨false,Trust.none⟩) l:=hI;unfold seenV;rw [qf (by omega),qe htv,qr,← hI9];rfl)))
 ·(
 first
 | (exact xQ hc)
 |(
 have hvn:¬ (0≤v∧v<10):=by first | (have:=qd hc;omega) | (have:=qd hg;omega)
 iterate 8 refine zW ?_
 refine zFz (.slice (some ⟨g,0,none⟩) 10 10) [6] ?_
 refine xP ?_
 have hI9:q=seenGo (List.replicate 10 ⟨false,Trust.none⟩) l:=hI;unfold seenV;rw [qe hvn,← hI9];rfl))))
theorem jwv {l:List Nmn} {m:Nmn} (h:l[k]?=some m):List.map mgv (l.take k)++[mgv m]=List.map mgv (l.take (k+1)):=by rw [List.take_add_one,h,List.map_append];rfl
theorem jgK (n:Nmr) (hB:NB n):C0 238 [nrv n] (cv (seenV n.node n.t n.heard)):=by
 refine xI Tryz.func238 Tryz.call238 fun hcap=>?_
 have hml:(n.heard.map nmv).length=n.heard.length:=by simp
 have hbl:=hB.hl
 have hbs:=hB.sz
 refine xX fun b1=>?_
 refine zAl fun b2=>?_
 refine xN fun _=>?_
 iterate 4 refine zW ?_
 refine jag [1,2,7,8] [.box b1 _ _,.box b2 _ _] (fun (k:Nat) (v:Value) r=>(3,.v v)::(9,.i (k:Int))::r) (fun k v r=>.arr v 285 7 ((n.heard.take k).map mgv)::r) (fun k v=>k≤n.heard.length) (fun k v=>n.heard.length - k) (0) (.slice none 0 0) zRc (by omega) ((jaO 285 7 rfl).trans (zWk)) ?_
 intro k v hk
 have hqm:((n.heard.take k).map mgv).length=k:=by simp;omega
 refine xC ?_ ?_<;>intro hc
 ·(
 have hlt:=qc hc
 obtain ⟨m,hx,hd⟩:=jab (l:=n.heard) (k:=k) (by omega)
 have hx':=jad nmv hx
 refine xL fun b5=>?_
 iterate 11 refine zW ?_
 refine zP (AP.up (jah zKr rfl zRc jav) (d':=mgv m) xUp) ?_
 refine xLt 285 7 120 ?_
 refine xEa 285 7 120 (hb:=xLb) fun v22 hv22=>?_
 iterate 9 refine zW ?_
 rw [jwv hx]
 refine ⟨k+1,_,by omega,by omega,zWk⟩)
 ·(
 have hge:=qd hc
 rw [qA (show n.heard.length≤k by omega)]
 refine zFz v [1,2,3] ?_
 refine xA (jqn n.node n.t (by omega) n.heard (fun m hm=>by have:=(hB.hs m hm).1;omega)) ?_
 refine xP ?_
 rfl)
theorem jmH (n:Nmr) (hB:NB n) (x:Str):C0 234 [nrv n,.v (.string x)] (.b (canN n x)):=by
 refine xI Tryz.func234 Tryz.call234 fun hcap=>?_
 have hml:(n.accs.map strv).length=n.accs.length:=by simp
 have hba:=hB.a
 refine xX fun b2=>?_
 refine xA (jeZ n hB x) ?_
 iterate 8 refine zW ?_
 refine zDr [] ?_
 refine zT 0 ?_;refine zT 1 ?_;refine zT 2 ?_;refine zOn 3 ?_
 refine xA (jdl n.accs (by omega) x) ?_
 refine zW ?_
 refine zT 4 ?_;refine zT 5 ?_
 refine jai 5 rfl (fun hg=>?_) fun hg=>?_
 rotate_left
 case' _ =>(
 refine zK 6 ?_;refine zK 7 ?_;refine zK 8 ?_;refine zK 9 ?_;refine zT 10 ?_;refine zT 11 ?_;refine zK 12 ?_;refine zK 13 ?_;refine zK 14 ?_;refine zK 15 ?_;refine zK 16 ?_;refine zK 17 ?_;refine zK 18 ?_;refine zT 19 ?_;refine zT 20 ?_
 refine zW ?_)
 rotate_right
 case' _ =>(
 refine zT 6 ?_;refine zT 7 ?_;refine zT 8 ?_;refine zT 9 ?_;refine zT 10 ?_;refine zT 11 ?_
 refine jai 11 rfl (fun hg=>?_) fun hg=>?_
 rotate_left
 case' _ =>(
 refine zK 12 ?_;refine zK 13 ?_;refine zK 14 ?_;refine zK 15 ?_;refine zK 16 ?_;refine zK 17 ?_;refine zK 18 ?_;refine zT 19 ?_;refine zT 20 ?_
 refine zW ?_)
 rotate_right
 case' _ =>(
 refine zT 12 ?_;refine zT 14 ?_;refine zT 15 ?_;refine zT 16 ?_;refine zT 17 ?_;refine zOn 13 ?_
 refine xA (jgK n hB) ?_
 refine zW ?_
 refine zOn 18 ?_
 refine xA (jcT _ _ _ _) ?_
 refine zW ?_
 refine zT 19 ?_;refine zT 20 ?_
 refine zW ?_))
 all_goals (
 refine xP ?_
 unfold canN
 generalize acceptsC (seenV n.node n.t n.heard) n.node (sideN Nmn.votes n x:Nat) (sideN Nmn.accs n x:Nat)=A9
 rw [← hml]
 first | (simp only [resD];simp only [*,qs,qv,Bool.and_true,qw];done) | grind [resD])
theorem jsC (node slot:Int) (t:Trust) (ht:sizeT t≤1000000000):C0 181 [.i node,.i slot,av t] (.tup [mcv (newV node slot t).1,.i (newV node slot t).2]):=by
 refine xI Tryz.func181 Tryz.call181 fun hcap=>?_
 refine xX fun b5=>?_
 refine zAl fun b6=>?_
 iterate 10 refine zW ?_
 iterate 4 all_goals first | refine zW ?_ | refine xG ?_ ?_<;>intro hg
 all_goals (
 refine xC ?_ ?_<;>intro hc
 ·(
 first
 | (exact xQ hc)
 |(
 have h1:node<0∨node>9:=by first | exact .inl (qc hg) | exact .inr (qc hc)
 iterate 7 refine zW ?_
 refine jal [6,7] 1 rfl xSe (by apply HeapA.box (xc4 (CvL.cons Cv.fz (xc4 (xc4 (xc4 (CvL.cons Cv.same (CvL.cons Cv.same CvL.nil)))))));exact xHb) ?_
 refine jal [6,7] 3 rfl xSe (by apply HeapA.box (xc4 (CvL.cons Cv.same (CvL.cons Cv.fz (xc4 (xc4 (xc4 (CvL.cons Cv.same CvL.nil)))))));exact xHb) ?_
 refine jal [6,7] 15 rfl xSe (by apply HeapA.box (xc4 (xc4 (xc4 (xc4 (CvL.cons Cv.same (CvL.cons Cv.same (CvL.cons Cv.fz CvL.nil)))))));exact xHb) ?_
 refine xP ?_
 unfold newV;rw [qf h1];rfl))
 ·(
 first
 | (exact xQ hc)
 |(
 have h1:¬ (node<0∨node>9):=by rintro (h | h);exact qd hg h;exact qd hc h
 iterate 5 refine zW ?_
 iterate 4 all_goals first | refine zW ?_ | refine xG ?_ ?_<;>intro hg
 all_goals (
 refine xC ?_ ?_<;>intro hc
 ·(
 first
 | (exact xQ hc)
 |(
 have h2:slot<1∨slot>1000000:=by first | exact .inl (qc hg) | exact .inr (qc hc)
 iterate 7 refine zW ?_
 refine jal [6,7] 1 rfl xSe (by apply HeapA.box (xc4 (CvL.cons Cv.fz (xc4 (xc4 (xc4 (CvL.cons Cv.same (CvL.cons Cv.same CvL.nil)))))));exact xHb) ?_
 refine jal [6,7] 3 rfl xSe (by apply HeapA.box (xc4 (CvL.cons Cv.same (CvL.cons Cv.fz (xc4 (xc4 (xc4 (CvL.cons Cv.same CvL.nil)))))));exact xHb) ?_
 refine jal [6,7] 15 rfl xSe (by apply HeapA.box (xc4 (xc4 (xc4 (xc4 (CvL.cons Cv.same (CvL.cons Cv.same (CvL.cons Cv.fz CvL.nil)))))));exact xHb) ?_
 refine xP ?_
 unfold newV;rw [qe h1,qf h2];rfl))
 ·(
 first
 | (exact xQ hc)
 |(
 have h2:¬ (slot<1∨slot>1000000):=by rintro (h | h);exact qd hg h;exact qd hc h
 refine xA (jaN t ht) ?_
 refine xC ?_ ?_<;>intro hc
 ·(
 have h3:¬ validT t=0:=jaf hc
 iterate 7 refine zW ?_
 refine jal [6,7] 1 rfl xSe (by apply HeapA.box (xc4 (CvL.cons Cv.fz (xc4 (xc4 (xc4 (CvL.cons Cv.same (CvL.cons Cv.same CvL.nil)))))));exact xHb) ?_
 refine jal [6,7] 3 rfl xSe (by apply HeapA.box (xc4 (CvL.cons Cv.same (CvL.cons Cv.fz (xc4 (xc4 (xc4 (CvL.cons Cv.same CvL.nil)))))));exact xHb) ?_
 refine jal [6,7] 15 rfl xSe (by apply HeapA.box (xc4 (xc4 (xc4 (xc4 (CvL.cons Cv.same (CvL.cons Cv.same (CvL.cons Cv.fz CvL.nil)))))));exact xHb) ?_
 refine xP ?_
 unfold newV;rw [qe h1,qe h2,qf h3];rfl)
 ·(
 have h3:validT t=0:=jae hc
 iterate 13 refine zW ?_
 refine jal [6,7] 15 rfl xSe (by apply HeapA.box (xc4 (xc4 (xc4 (xc4 (CvL.cons Cv.same (CvL.cons Cv.same (CvL.cons Cv.fz CvL.nil)))))));exact xHb) ?_
 refine xP ?_
 unfold newV;rw [qe h1,qe h2,qe (fun h=>h h3)];rfl)))))))
theorem jlO (n:Nmr) (hB:NB n):C0 232 [nrv n] (nrv (followN n)):=by
 refine xI Tryz.func232 Tryz.call232 fun hcap=>?_
 have hsz:=hB.sz
 have hml:(n.heard.map nmv).length=n.heard.length:=by simp
 have hbl:=hB.hl
 refine xX fun b1=>?_
 refine zAl fun b2=>?_
 refine xA (jjq n.t (by omega) n.node n.slot n.round) ?_
 refine xA (jhr _) ?_
 refine zLn fun _=>?_
 iterate 4 refine zW ?_
 rename_i hcp
 obtain ⟨L,hL⟩:∃ L,L=nodesOf (leadersR n.t n.node n.slot n.round).1:=⟨_,rfl⟩
 rw [← hL] at hcp ⊢
 have hLl:(L.map D.i).length=L.length:=by simp
 refine jag [1,2,24,25] [.box b2 _ _] (fun (k:Nat) (q:List Str) r=>(26,.i (k:Int))::r) (fun k q r=>.box b1 126 [.i n.node,.i n.slot,.i n.round,.i n.seq,.i n.t.th,.sl 1 (n.t.nodes.map .i),.sl 3 (avs n.t.inner),.v (.string n.own),.sl 1 (q.map strv),.sl 1 (n.accs.map strv),.sl 1 (n.confs.map strv),.sl 7 (n.heard.map nmv)]::r) (fun k q=>k≤L.length∧q.length≤1000∧(L.drop k).foldl (fol1 n) q=L.foldl (fol1 n) n.votes) (fun k q=>L.length - k) (0) (n.votes) zRc ⟨by omega,hB.v,rfl⟩ (zWk) ?_
 intro k q ⟨hk,hql,hI⟩
 refine xC ?_ ?_<;>intro hc
 ·(
 have hlt:=qc hc
 obtain ⟨z,hx,hd⟩:=jab (l:=L) (k:=k) (by omega)
 have hx':=jad D.i hx
 refine xC ?_ ?_<;>intro hc
 ·(
 have h33:z=n.node:=qc hc
 refine xC ?_ ?_<;>intro hc
 rotate_left
 case' _ =>(
 have h36:n.own=noS:=jrU hc
 have mk36f:True:=trivial
 refine zW ?_)
 rotate_right
 case' _ =>(
 have h36:¬ n.own=noS:=jpv hc
 have mk36t:True:=trivial
 refine xA (jdm q (by omega) n.own) ?_
 iterate 3 refine zW ?_)
 all_goals (
 iterate 10 refine zW ?_
 rw [hd,List.foldl_cons] at hI
 first
 | (have:=mk36t;rw [show fol1 n q z=putN q n.own by unfold fol1;rw [qf h33,qe h36]] at hI;refine ⟨k+1,putN q n.own,⟨by omega,jb4 (by omega) hql,hI⟩,by omega,zWk⟩)
 | (have:=mk36f;rw [show fol1 n q z=q by unfold fol1;rw [qf h33,qf h36]] at hI;refine ⟨k+1,q,⟨by omega,hql,hI⟩,by omega,zWk⟩)))
 ·(
 have h33:¬ z=n.node:=qd hc
 refine xN fun _=>?_
 iterate 4 refine zW ?_
 refine jag [1,2,6,24,25,26,44,45] [.box b2 _ _] (fun (j:Nat) (p:List Str) r=>(46,.i (j:Int))::r) (fun j p r=>.box b1 126 [.i n.node,.i n.slot,.i n.round,.i n.seq,.i n.t.th,.sl 1 (n.t.nodes.map .i),.sl 3 (avs n.t.inner),.v (.string n.own),.sl 1 (p.map strv),.sl 1 (n.accs.map strv),.sl 1 (n.confs.map strv),.sl 7 (n.heard.map nmv)]::r) (fun j p=>j≤n.heard.length∧p.length≤1000∧(n.heard.drop j).foldl (fol2 z) p=n.heard.foldl (fol2 z) q) (fun j p=>n.heard.length - j) (0) (q) zRc ⟨by omega,hql,rfl⟩ (zWk) ?_
 intro j p ⟨hj,hpl,hI2⟩
 refine xC ?_ ?_<;>intro hc
 ·(
 have hlt2:=qc hc
 obtain ⟨m,hm,hd2⟩:=jab (l:=n.heard) (k:=j) (by omega)
 have hm':=jad nmv hm
 have hmb:=hB.hs m (qj hm)
 refine xL fun b8=>?_
 refine xC ?_ ?_<;>intro hc
 ·(
 have h53:¬ m.node=z:=jaf hc
 iterate 9 refine zW ?_
 rw [hd2,List.foldl_cons] at hI2
 rw [show fol2 z p m=p by unfold fol2;rw [qe h53]] at hI2;refine ⟨j+1,p,⟨by omega,hpl,hI2⟩,by omega,zWk⟩)
 ·(
 have h53:m.node=z:=jae hc
 refine xA (jdw m.votes m.accs (by omega) (by omega)) ?_
 refine zLn fun _=>?_
 iterate 4 refine zW ?_
 rename_i hcp2
 obtain ⟨U,hU⟩:∃ U,U=unionN m.votes m.accs:=⟨_,rfl⟩
 rw [← hU] at hcp2 ⊢
 have hUl:(U.map strv).length=U.length:=by simp
 refine jag [1,2,6,24,25,26,44,45,46,58,59] [.box b2 _ _] (fun (i:Nat) (u:List Str) r=>(60,.i (i:Int))::r) (fun i u r=>.box b1 126 [.i n.node,.i n.slot,.i n.round,.i n.seq,.i n.t.th,.sl 1 (n.t.nodes.map .i),.sl 3 (avs n.t.inner),.v (.string n.own),.sl 1 (u.map strv),.sl 1 (n.accs.map strv),.sl 1 (n.confs.map strv),.sl 7 (n.heard.map nmv)]::r) (fun i u=>i≤U.length∧u.length≤1000∧(U.drop i).foldl putN u=U.foldl putN p) (fun i u=>U.length - i) (0) (p) zRc ⟨by omega,hpl,rfl⟩ (zWk) ?_
 intro i u ⟨hi,hrl,hI3⟩
 refine xC ?_ ?_<;>intro hc
 ·(
 have hlt3:=qc hc
 obtain ⟨y,hy,hd3⟩:=jab (l:=U) (k:=i) (by omega)
 have hy':=jad strv hy
 refine xA (jdm u (by omega) y) ?_
 iterate 10 refine zW ?_
 rw [hd3,List.foldl_cons] at hI3
 refine ⟨i+1,putN u y,⟨by omega,jb4 (by omega) hrl,hI3⟩,by omega,zWk⟩)
 ·(
 have hge3:=qd hc
 rw [jac (by omega)] at hI3
 iterate 11 refine zW ?_
 rw [hd2,List.foldl_cons] at hI2
 rw [show fol2 z p m=u by unfold fol2;rw [qf h53,← hU];exact hI3.symm] at hI2;refine ⟨j+1,u,⟨by omega,hrl,hI2⟩,by omega,zWk⟩)))
 ·(
 have hge2:=qd hc
 rw [jac (by omega)] at hI2
 iterate 11 refine zW ?_
 rw [hd,List.foldl_cons] at hI
 rw [show fol1 n q z=p by unfold fol1;rw [qe h33];exact hI2.symm] at hI;refine ⟨k+1,p,⟨by omega,hpl,hI⟩,by omega,zWk⟩)))
 ·(
 have hge:=qd hc
 rw [jac (by omega)] at hI
 refine xP ?_
 unfold followN;rw [← hL,← hI];rfl)
theorem jkj (x:Str):∀ (l q:List Str),(putsGo x l true q).length=q.length+l.length
 | [],q=>by simp [putsGo]
 | z::s,q=>by
  simp only [putsGo,Bool.not_true,qv,Bool.false_eq_true,if_false]
  rw [jkj x s]
  simp only [qq,qk,qt];omega
theorem jmz (x:Str):∀ (l q:List Str),(putsGo x l false q).length=q.length+l.length+1
 | [],q=>by simp [putsGo]
 | z::s,q=>by
  simp only [putsGo,Bool.not_false,qs]
  split
  ·rw [jkj];simp only [qq,qk,qt];omega
  ·rw [jmz x s];simp only [qq,qk,qt];omega
theorem jlK {c:Nmr} {x:Str} (h:canN c x=true):c.accs.length<40∧(putN c.accs x).length=c.accs.length+1:=by
 simp only [canN,qh,Bool.not_eq_true',qm] at h
 have h2:¬ (hasN c.accs x||decide (40≤c.accs.length))=true:=by rw [h.1.1,Bool.false_or,qm];omega
 refine ⟨by omega,?_⟩
 unfold putN
 rw [qe h2,jmz];simp
theorem jhp {c:Nmr} {x:Str} {R:Nmr} (hk:40<k+c.accs.length) (hR:againN k c=R) (hf:(knownN c).find? (canN c)=some x) (hl:(putN c.accs x).length=c.accs.length+1):∃ k,40<k+(accN c x).accs.length∧againN k (accN c x)=R:=by
 have h0:=(jlK (List.find?_some hf)).1
 obtain ⟨j,rfl⟩:∃ j,k=j+1:=⟨k - 1,by omega⟩
 refine ⟨j,by show 40<j+(putN c.accs x).length;omega,?_⟩
 rw [← hR,againN,hf]
theorem jhv {c:Nmr} (hf:(knownN c).find? (canN c)=none):againN k c=c:=by
 cases k with
 | zero=>rfl
 | succ k=>rw [againN,hf]
end Go.Proofs.YtgmpjpaekpefdaaGreat
