/- Walks: each says what one function of the program answers, for the arguments that its statement names. No condition beyond what each theorem says. -/
import Derived.Test.YtgmpjpaekpefdaaGreatAnalyserPlainW2
import Derived.Test.YtgmpjpaekpefdaaGreatProg
import Derived.KernelRfl
import Derived.Tactics
import Derived.Tactics2
import Derived.StillTactics
set_option linter.unusedVariables false
set_option linter.unusedSimpArgs false
set_option maxRecDepth 4000
set_option maxHeartbeats 8000000
namespace Go.Proofs.YtgmpjpaekpefdaaGreat
open Go Go.Av Go.Tq
variable {n:Nat} {e:Evp} {q:List Mem} {m:Mach}
theorem jay (e:Evp) (hs:sizeT e.t≤1000000000):C0 166 [ev e] (.b (vE e)):=by
 refine xI Tryz.func166 Tryz.call166 fun hcap=>?_
 refine xX fun b1=>?_
 iterate 10 refine zW ?_
 iterate 27 all_goals first | refine zW ?_ | refine xG ?_ ?_<;>intro hg
 all_goals first | (refine zY ?_;refine jaa zRc (jaN e.t hs) rfl rfl ?_) | refine zSk ?_
 iterate 5 all_goals first | refine zW ?_ | refine xG ?_ ?_<;>intro hg
 all_goals first | (refine zY ?_;refine jaa zRc (jdh e.bal) rfl rfl ?_) | refine zSk ?_
 iterate 2 all_goals refine zW ?_
 all_goals (
 refine xC ?_ ?_<;>intro hc
 ·(
 first
 | (exact xQ hc)
 |(
 have hb:vE e=false:=jte (by first | (simp only [headR,headE];simp [*];done) | grind [headR,headE])
 refine xP ?_;exact (bcl hb.symm)))
 ·(
 first
 | (exact xQ hc)
 |(
 have hh:headE e=true:=by first | (simp only [headE];simp [*];done) | grind [headE]
 have hvb:vB e.bal=true:=by first | (simp [*];done) | grind
 refine xA (jaJ e.prep) ?_
 iterate 4 refine zW ?_
 refine zDr [] ?_
 refine zT 0 ?_;refine zT 1 ?_;refine zT 2 ?_;refine zT 3 ?_;refine zT 4 ?_;refine zT 5 ?_;refine zT 6 ?_;refine zT 7 ?_;refine zT 8 ?_;refine zT 9 ?_;refine zT 10 ?_;refine zT 11 ?_
 refine zE2 12 13 ?_ ?_
 rotate_left
 case' _ =>(
 refine zAl fun b5=>?_
 refine zW ?_
 refine zOn 12 ?_
 refine zAl fun b4=>?_
 refine zW ?_
 refine zOn 14 ?_
 iterate 2 refine zW ?_
 refine zOn 15 ?_
 iterate 3 refine zW ?_)
 rotate_right
 case' _ =>(
 refine zAl fun b4=>?_
 refine zW ?_
 refine zOn 13 ?_
 refine zAl fun b5=>?_
 refine zW ?_
 refine zOn 14 ?_
 iterate 2 refine zW ?_
 refine zOn 15 ?_
 iterate 3 refine zW ?_)
 all_goals (
 refine xC ?_ ?_<;>intro hc
 ·(
 have hk1:=qc hc
 iterate 8 refine zW ?_
 iterate 5 all_goals first | refine zW ?_ | refine xG ?_ ?_<;>intro hg
 all_goals first | (refine zY ?_;refine jaa zRc (jdh e.prep) rfl rfl ?_) | refine zSk ?_
 iterate 3 all_goals refine zW ?_
 all_goals (
 refine xC ?_ ?_<;>intro hc
 ·(
 first
 | (exact xQ hc)
 |(
 iterate 9 refine zW ?_
 (refine zPi ?_;refine (bcl ?_))
 unfold vE;rw [hh,qs]
 first | (simp only [kindE,prepE,finB,optB,rngE];simp [*];done) | grind [kindE,prepE,finB,optB,rngE]))
 ·(
 first
 | (exact xQ hc)
 |(
 iterate 7 refine zW ?_
 refine xA (jaJ e.prime) ?_
 iterate 2 refine zW ?_
 iterate 4 all_goals first | refine zW ?_ | refine xG ?_ ?_<;>intro hg
 all_goals first | (refine zY ?_;refine jaa zRc (jdh e.prime) rfl rfl ?_) | refine zSk ?_
 iterate 7 all_goals first | refine zW ?_ | refine xG ?_ ?_<;>intro hg
 all_goals first | (refine zY ?_;refine jaa zRc (jcJ e.prime e.prep) rfl rfl ?_) | refine zSk ?_
 iterate 7 all_goals first | refine zW ?_ | refine xG ?_ ?_<;>intro hg
 all_goals first | (refine zY ?_;refine jaa zRc (ja2 e.prime e.prep) rfl rfl ?_) | refine zSk ?_
 iterate 2 all_goals refine zW ?_
 all_goals (
 refine xC ?_ ?_<;>intro hc
 ·(
 first
 | (exact xQ hc)
 |(
 iterate 9 refine zW ?_
 (refine zPi ?_;refine (bcl ?_))
 unfold vE;rw [hh,qs]
 first | (simp only [kindE,prepE,finB,optB,rngE];simp [*];done) | grind [kindE,prepE,finB,optB,rngE]))
 ·(
 first
 | (exact xQ hc)
 |(
 iterate 9 refine zW ?_
 iterate 14 all_goals first | refine zW ?_ | refine xG ?_ ?_<;>intro hg
 all_goals (
 refine xC ?_ ?_<;>intro hc
 ·(
 first
 | (exact xQ hc)
 |(
 iterate 9 refine zW ?_
 (refine zPi ?_;refine (bcl ?_))
 unfold vE;rw [hh,qs]
 first | (simp only [kindE,prepE,finB,optB,rngE];simp [*];done) | grind [kindE,prepE,finB,optB,rngE]))
 ·(
 first
 | (exact xQ hc)
 |(
 iterate 9 refine zW ?_
 iterate 5 all_goals first | refine zW ?_ | refine xG ?_ ?_<;>intro hg
 all_goals first | (refine zY ?_;refine jaa zRc (jgl e.prep e.prime (at_ e e.high)) rfl rfl ?_) | refine zSk ?_
 iterate 2 all_goals refine zW ?_
 all_goals (
 refine xC ?_ ?_<;>intro hc
 ·(
 first
 | (exact xQ hc)
 |(
 iterate 9 refine zW ?_
 (refine zPi ?_;refine (bcl ?_))
 unfold vE;rw [hh,qs]
 first | (simp only [kindE,prepE,finB,optB,rngE];simp [*];done) | grind [kindE,prepE,finB,optB,rngE]))
 ·(
 first
 | (exact xQ hc)
 |(
 iterate 8 refine zW ?_
 iterate 3 all_goals first | refine zW ?_ | refine xG ?_ ?_<;>intro hg
 all_goals first | (refine zY ?_;refine jaa zRc (jeS e.prep (at_ e e.low)) rfl rfl ?_) | refine zSk ?_
 iterate 5 all_goals first | refine zW ?_ | refine xG ?_ ?_<;>intro hg
 all_goals first | (refine zY ?_;refine jaa zRc (jeS e.prime (at_ e e.low)) rfl rfl ?_) | refine zSk ?_
 iterate 4 all_goals refine zW ?_
 all_goals (
 refine xP ?_;refine (bcl ?_)
 unfold vE;rw [hh,qs]
 first | (simp only [kindE,prepE,finB,optB,rngE];simp [*];done) | grind [kindE,prepE,finB,optB,rngE]))))))))))))))
 ·(
 have hk1:=qd hc
 refine xC ?_ ?_<;>intro hc
 ·(
 have hk2:=qc hc
 iterate 7 refine zW ?_
 iterate 2 all_goals first | refine zW ?_ | refine xG ?_ ?_<;>intro hg
 all_goals first | (refine zY ?_;refine jaa zRc (jdh e.prep) rfl rfl ?_) | refine zSk ?_
 iterate 6 all_goals first | refine zW ?_ | refine xG ?_ ?_<;>intro hg
 all_goals first | (refine zY ?_;refine jaa zRc (ja2 e.prep e.bal) rfl rfl ?_) | refine zSk ?_
 iterate 4 all_goals first | refine zW ?_ | refine xG ?_ ?_<;>intro hg
 all_goals first | (refine zY ?_;refine jaa zRc (jaJ e.prime) rfl rfl ?_) | refine zSk ?_
 iterate 27 all_goals first | refine zW ?_ | refine xG ?_ ?_<;>intro hg
 all_goals (
 refine xP ?_;refine (bcl ?_)
 unfold vE;rw [hh,qs]
 simp only [kindE,prepE,finB,optB,rngE];simp [*];done))
 ·(
 have hk2:=qd hc
 refine xC ?_ ?_<;>intro hc
 ·(
 have hk3:=qc hc
 iterate 4 refine zW ?_
 iterate 2 all_goals first | refine zW ?_ | refine xG ?_ ?_<;>intro hg
 all_goals first | (refine zY ?_;refine jaa zRc (jaJ e.prime) rfl rfl ?_) | refine zSk ?_
 iterate 19 all_goals first | refine zW ?_ | refine xG ?_ ?_<;>intro hg
 all_goals (
 refine xP ?_;refine (bcl ?_)
 unfold vE;rw [hh,qs]
 simp only [kindE,prepE,finB,optB,rngE];simp [*];done))
 ·(
 have hk3:=qd hc
 refine xP ?_;refine (bcl ?_)
 unfold vE;rw [hh,qs]
 simp only [kindE,prepE,finB,optB,rngE];simp [*];done)))))))
theorem jwi (e:Evp) (hs:sizeT e.t≤1000000000) (b:Bal):C0 293 [ev e,bv b] (.b (apR e b)):=by
 refine xI Tryz.func293 Tryz.call293 fun hcap=>?_
 refine xX fun b2=>?_
 refine zBx fun b3=>?_
 refine xA (jay e hs) ?_
 iterate 2 refine zW ?_
 all_goals refine xG ?_ ?_<;>intro hg
 all_goals first | (refine zY ?_;refine jaa zRc (jaJ b) rfl rfl ?_) | refine zSk ?_
 all_goals refine zW ?_
 all_goals (
 refine xC ?_ ?_<;>intro hc
 ·(
 first
 | (exact xQ hc)
 |(
 iterate 7 refine zW ?_
 (refine zPi ?_;refine (bcl ?_))
 first | rfl | (simp only [apR];simp [*];done) | grind [apR]))
 ·(
 first
 | (exact xQ hc)
 |(
 iterate 10 refine zW ?_
 refine zC (fun hc=>?_) fun hc=>?_
 ·(
 refine xA (ja2 e.bal b) ?_
 refine xP ?_;refine (bcl ?_)
 grind [apR])
 ·(
 refine xA (jgl e.prep e.prime b) ?_
 refine xP ?_;refine (bcl ?_)
 grind [apR]))))
theorem jvr (e:Evp) (hs:sizeT e.t≤1000000000) (b:Bal):C0 294 [ev e,bv b] (.b (vpR e b)):=by
 refine xI Tryz.func294 Tryz.call294 fun hcap=>?_
 refine xX fun b2=>?_
 refine zBx fun b3=>?_
 refine xA (jay e hs) ?_
 iterate 2 refine zW ?_
 all_goals refine xG ?_ ?_<;>intro hg
 all_goals first | (refine zY ?_;refine jaa zRc (jaJ b) rfl rfl ?_) | refine zSk ?_
 all_goals refine zW ?_
 all_goals (
 refine xC ?_ ?_<;>intro hc
 ·(
 first
 | (exact xQ hc)
 |(
 iterate 7 refine zW ?_
 (refine zPi ?_;refine (bcl ?_))
 first | rfl | (simp only [vpR];simp [*];done) | grind [vpR]))
 ·(
 first
 | (exact xQ hc)
 |(
 iterate 10 refine zW ?_
 refine zC (fun hc=>?_) fun hc=>?_
 ·(
 refine xA (jdZ e.bal b) ?_
 refine xP ?_;refine (bcl ?_)
 grind [vpR])
 ·(
 refine xA (ja2 e.bal b) ?_
 refine xP ?_;refine (bcl ?_)
 grind [vpR]))))
theorem jww (e:Evp) (hs:sizeT e.t≤1000000000) (v:Str) (lo hi:Int):C0 295 [ev e,.v (.string v),.i lo,.i hi] (.b (acR e v lo hi)):=by
 refine xI Tryz.func295 Tryz.call295 fun hcap=>?_
 refine xX fun b4=>?_
 refine xA (jay e hs) ?_
 iterate 2 refine zW ?_
 iterate 26 all_goals first | refine zW ?_ | refine xG ?_ ?_<;>intro hg
 all_goals (
 refine xC ?_ ?_<;>intro hc
 ·(
 first
 | (exact xQ hc)
 |(
 iterate 7 refine zW ?_
 (refine zPi ?_;refine (bcl ?_))
 first | rfl | (simp only [acR];simp_all;done) | (simp only [acR];simp_all;omega)))
 ·(
 first
 | (exact xQ hc)
 |(
 iterate 8 refine zW ?_
 iterate 6 all_goals first | refine zW ?_ | refine xG ?_ ?_<;>intro hg
 all_goals (
 refine xP ?_;refine (bcl ?_)
 first | rfl | (simp only [acR];simp_all;done)))))
theorem jvc (e:Evp) (hs:sizeT e.t≤1000000000) (v:Str) (lo hi:Int):C0 296 [ev e,.v (.string v),.i lo,.i hi] (.b (vcR e v lo hi)):=by
 refine xI Tryz.func296 Tryz.call296 fun hcap=>?_
 refine xX fun b4=>?_
 refine xA (jay e hs) ?_
 iterate 2 refine zW ?_
 iterate 26 all_goals first | refine zW ?_ | refine xG ?_ ?_<;>intro hg
 all_goals (
 refine xC ?_ ?_<;>intro hc
 ·(
 first
 | (exact xQ hc)
 |(
 iterate 7 refine zW ?_
 (refine zPi ?_;refine (bcl ?_))
 first | rfl | (simp only [vcR];simp_all;done) | (simp only [vcR];simp_all;omega)))
 ·(
 first
 | (exact xQ hc)
 |(
 iterate 8 refine zW ?_
 iterate 6 all_goals first | refine zW ?_ | refine xG ?_ ?_<;>intro hg
 all_goals (
 refine xP ?_;refine (bcl ?_)
 first | rfl | (simp only [vcR];simp_all;done)))))
theorem jdn (e:Evp) (hs:sizeT e.t≤1000000000):C0 240 [ev e] (.i (cntR e)):=by
 refine xI Tryz.func240 Tryz.call240 fun hcap=>?_
 refine xX fun b1=>?_
 refine xA (jay e hs) ?_
 refine xC ?_ ?_<;>intro hc
 ·(
 have hv:vE e=false:=jau hc
 refine xP ?_;refine (icl ?_)
 unfold cntR
 rw [qe (by rw [hv];decide)];done)
 ·(
 have hv:vE e=true:=jat hc
 refine xC ?_ ?_<;>intro hc
 ·(
 have h3:=qc hc
 refine xP ?_;refine (icl ?_)
 unfold cntR
 rw [qf hv];unfold cntE;rw [qf h3];done)
 ·(
 have h3:=qd hc
 refine xP ?_;refine (icl ?_)
 unfold cntR
 rw [qf hv];unfold cntE;rw [qe h3];done))
theorem jlz (e f:Evp):C0 198 [ev e,ev f] (.b (sameE e f)):=by
 refine xI Tryz.func198 Tryz.call198 fun hcap=>?_
 refine xX fun b2=>?_
 refine zBx fun b3=>?_
 iterate 11 refine zW ?_
 iterate 18 all_goals first | refine zW ?_ | refine xG ?_ ?_<;>intro hg
 all_goals first | (refine zY ?_;refine jaa zRc (jb1 e.t f.t) rfl rfl ?_) | refine zSk ?_
 iterate 13 all_goals first | refine zW ?_ | refine xG ?_ ?_<;>intro hg
 all_goals first | (refine zY ?_;refine zP (jd7 rfl zRc rfl zRc (jsz _ _ _ _)) ?_) | refine zSk ?_
 iterate 6 all_goals first | refine zW ?_ | refine xG ?_ ?_<;>intro hg
 all_goals first | (refine zY ?_;refine zP (jd7 rfl zRc rfl zRc (jsz _ _ _ _)) ?_) | refine zSk ?_
 iterate 6 all_goals first | refine zW ?_ | refine xG ?_ ?_<;>intro hg
 all_goals first | (refine zY ?_;refine zP (jd7 rfl zRc rfl zRc (jsz _ _ _ _)) ?_) | refine zSk ?_
 iterate 16 all_goals first | refine zW ?_ | refine xG ?_ ?_<;>intro hg
 all_goals (
 refine xP ?_;refine (bcl ?_)
 first | rfl | (simp only [sameE,beqB];simp [*];done))
theorem jgt {α:Type} (l:List α) (k:Nat) (d:α):∃ y,k<l.length→l[k]?=some y:=by
 by_cases h:k<l.length
 ·exact ⟨l[k],fun _=>List.getElem?_eq_getElem h⟩
 ·exact ⟨d,fun h'=>qo h' h⟩
theorem jcF {α:Type} (f:α→D) (l:List α) (x:α) (k j:Nat):(List.take k (l.map f)++[f x])++List.drop j (l.map f)=(l.take k++[x]++l.drop j).map f:=by simp [List.map_take,List.map_drop]
theorem jnD (l:List Bal) (hlen:l.length≤1000) (b:Bal):C0 287 [.sl 2 (l.map bv),bv b] (.sl 2 ((intoV l b).map bv)):=by
 refine xI Tryz.func287 Tryz.call287 fun hcap=>?_
 have hml:(l.map bv).length=l.length:=by simp
 refine xX fun b3=>?_
 refine xA (jaJ b) ?_
 refine xC ?_ ?_<;>intro hc
 ·(
 have hbz:zB b=true:=hc
 refine xP ?_
 rw [jvp hbz];rfl)
 ·(
 have hbz:zB b=false:=hc
 iterate 9 refine zW ?_
 refine jaj [0,3] [.box b3 _ _] (fun (k:Nat) r=>(5,.i (k:Int))::r) (fun k r=>r) (fun k=>k≤l.length∧posG (fun x=>lB b x) (l.drop k)+k=posG (fun x=>lB b x) l) (fun k=>l.length - k) (0) zRc ⟨by omega,by simp⟩ (zWk) ?_
 intro k ⟨hk,hI⟩
 obtain ⟨y,hy⟩:=jgt l k b
 iterate 2 refine zW ?_
 refine zDr [] ?_
 refine zT 0 ?_;refine zT 1 ?_;refine zT 2 ?_;refine zT 3 ?_;refine zT 4 ?_
 refine jai 4 rfl (fun hg=>?_) fun hg=>?_
 rotate_left
 case' _ =>(
 refine zK 5 ?_;refine zK 6 ?_;refine zK 7 ?_;refine zK 8 ?_;refine zK 9 ?_;refine zK 10 ?_;refine zT 11 ?_
 refine zW ?_)
 rotate_right
 case' _ =>(
 refine zT 5 ?_;refine zT 6 ?_;refine zT 7 ?_
 refine jan 8 rfl zGd zKr zKr zKr (AP.ar (jam (k:=k) rfl rfl rfl rfl (by decide) rfl (jad bv (hy (by have h9:decide ((k:Int)<((l.map bv).length:Int))=true:=(by first | with_reducible assumption | exact hg);have:=qc h9;simp only [qu] at this;omega))))) rfl rfl ?_
 refine zT 9 ?_;refine zOn 10 ?_
 refine xA (jcJ b y) ?_
 refine zW ?_
 refine zT 11 ?_
 refine zW ?_)
 all_goals (
 refine xC ?_ ?_<;>intro hc
 ·(
 first
 | (exact xQ hc)
 |(
 iterate 10 refine zW ?_
 have hlt:k<l.length:=by have h9:decide ((k:Int)<((l.map bv).length:Int))=true:=(by first | with_reducible assumption | exact hg | exact hc);have:=qc h9;omega
 rw [jeT (lt:=fun x=>lB b x) (hy hlt) (show lB b y=true by first | with_reducible assumption | exact hc)] at hI
 refine ⟨k+1,⟨by omega,by omega⟩,by omega,zWk⟩))
 ·(
 first
 | (exact xQ hc)
 |(
 have hpos:posG (fun x=>lB b x) l=k:=by first | (have h9:decide ((k:Int)<((l.map bv).length:Int))=false:=(by first | with_reducible assumption | exact hg | exact hc);have:=qd h9;rw [jdd (by omega)] at hI;omega) | (have h9:lB b y=false:=(by first | with_reducible assumption | exact hg | exact hc);rw [jcp (lt:=fun x=>lB b x) (hy (by have h8:decide ((k:Int)<((l.map bv).length:Int))=true:=(by first | with_reducible assumption | exact hg | exact hc);have:=qc h8;omega)) h9] at hI;omega)
 iterate 7 refine zW ?_
 refine zDr [] ?_
 refine zT 0 ?_;refine zT 1 ?_;refine zT 2 ?_;refine zT 3 ?_;refine zT 4 ?_
 refine jai 4 rfl (fun hg=>?_) fun hg=>?_
 rotate_left
 case' _ =>(
 refine zK 5 ?_;refine zK 6 ?_;refine zK 7 ?_;refine zK 8 ?_;refine zK 9 ?_;refine zK 10 ?_;refine zT 11 ?_
 refine zW ?_)
 rotate_right
 case' _ =>(
 refine zT 5 ?_;refine zT 6 ?_
 refine jan 7 rfl zGd zKr zKr zKr (AP.ar (jam (k:=k) rfl rfl rfl rfl (by decide) rfl (jad bv (hy (by have h9:decide ((k:Int)<((l.map bv).length:Int))=true:=(by first | with_reducible assumption | exact hg);have:=qc h9;simp only [qu] at this;omega))))) rfl rfl ?_
 refine zT 8 ?_;refine zT 9 ?_
 refine jan 10 rfl zGd zKr zKr zKr (AP.ar (jd7 rfl zRc rfl zRc (jsz _ _ _ _))) rfl rfl ?_
 refine zT 11 ?_
 refine zW ?_)
 all_goals (
 refine xC ?_ ?_<;>intro hc
 ·(
 first
 | (exact xQ hc)
 |(
 have he9:intoV l b=l:=by rw [jrN hbz];exact jqd hpos (hy (by have h8:decide ((k:Int)<((l.map bv).length:Int))=true:=(by first | with_reducible assumption | exact hg);have:=qc h8;omega)) hc
 refine xP ?_
 rw [he9];rfl))
 ·(
 first
 | (exact xQ hc)
 |(
 have he9:intoV l b=l.take k++[b]++l.drop k:=by
  rw [jrN hbz];refine jnj hpos (fun z hz=>?_)
  first | (have h9:decide ((k:Int)<((l.map bv).length:Int))=false:=(by first | with_reducible assumption | exact hg);have:=qd h9;rw [List.getElem?_eq_none (by omega)] at hz;cases hz) | (have h8:decide ((k:Int)<((l.map bv).length:Int))=true:=(by first | with_reducible assumption | exact hg);have:=qc h8;have hyk:=hy (by omega);rw [hyk] at hz;cases hz;exact hc)
 iterate 3 refine zW ?_
 refine zDr [] ?_
 refine zT 0 ?_;refine zT 1 ?_;refine zT 2 ?_;refine zT 4 ?_;refine zT 7 ?_;refine zT 8 ?_;refine zT 9 ?_
 refine zE2 3 5 ?_ ?_
 rotate_left
 case' _ =>(
 refine xLt 53 2 24 ?_
 refine zW ?_
 refine zOn 3 ?_
 first | refine xEa 53 2 24 (hb:=xLb) fun v39 hv39=>?_ | refine xEn 53 2 24 (hb:=xLb) fun v39 hv39=>?_
 refine zW ?_
 refine zOn 6 ?_
 refine xEa 53 2 24 (hb:=xLb) fun v42 hv42=>?_
 refine zW ?_
 refine zOn 10 ?_
 refine xEa 53 2 24 (hb:=xLb) fun v46 hv46=>?_
 refine zW ?_
 refine zT 11 ?_
 refine zW ?_)
 rotate_right
 case' _ =>(
 first | refine xEa 53 2 24 (hb:=xLb) fun v39 hv39=>?_ | refine xEn 53 2 24 (hb:=xLb) fun v39 hv39=>?_
 refine zW ?_
 refine zOn 5 ?_
 refine xLt 53 2 24 ?_
 refine zW ?_
 refine zOn 6 ?_
 refine xEa 53 2 24 (hb:=xLb) fun v42 hv42=>?_
 refine zW ?_
 refine zOn 10 ?_
 refine xEa 53 2 24 (hb:=xLb) fun v46 hv46=>?_
 refine zW ?_
 refine zT 11 ?_
 refine zW ?_)
 all_goals (
 refine zW ?_
 rw [show D.agg [.i b.n,.v (.string b.v)]=bv b from rfl,List.nil_append,jcF]
 refine zFz v46 [4] ?_
 refine xP ?_
 rw [he9];rfl))))))))
def strv (s:Str):D:=.v (.string s)
theorem jmG (e:Evp):(ownB e).length≤3:=by unfold ownB;split<;>simp
theorem jbE:∀ (ys:List Bal) (q:List Bal),(ys.foldl intoV q).length≤q.length+ys.length
 | [],q=>by simp
 | y::r,q=>by
  have h1:=jbE r (intoV q y)
  have h2:=jr6 (l:=q) (b:=y)
  simp only [List.foldl_cons,qk];omega
theorem jhF {ys:List Bal} {j:Nat} {y:Bal} {q:List Bal} (h:ys[j]?=some y):(ys.take (j+1)).foldl intoV q=intoV ((ys.take j).foldl intoV q) y:=by
 rw [List.take_add_one,h];simp
theorem jfg (l:List Evp) (hlen:l.length≤100) (hl:∀ e∈l,sizeT e.t≤1000000000):C0 273 [.sl 15 (l.map ev)] (.sl 2 ((ballotsV l).map bv)):=by
 refine xI Tryz.func273 Tryz.call273 fun hcap=>?_
 have hml:(l.map ev).length=l.length:=by simp
 iterate 12 refine zW ?_
 refine jal [0,3] 2 rfl jdy jcK ?_
 refine xN fun _=>?_
 iterate 4 refine zW ?_
 refine jag [9,10] [] (fun (k:Nat) (q:List Bal) r=>(3,.sl 2 (q.map bv))::(11,.i (k:Int))::r) (fun k q r=>r) (fun k q=>k≤l.length∧q.length≤3 * k∧ballotsGo (l.drop k) q=ballotsV l) (fun k q=>l.length - k) (0) ([]) zRc ⟨by omega,by simp,by simp [ballotsV]⟩ (zWk) ?_
 intro k q ⟨hk,hql,hI⟩
 refine xC ?_ ?_<;>intro hc
 ·(
 have hlt:=qc hc
 obtain ⟨x,hx,hd⟩:=jab (l:=l) (k:=k) (by omega)
 have hx':=jad ev hx
 have hxs:=hl x (qj hx)
 refine xL fun b5=>?_
 refine xA (jay x hxs) ?_
 refine xC ?_ ?_<;>intro hc
 ·(
 have hvn:vE x=false:=jau hc
 iterate 9 refine zW ?_
 rw [hd] at hI;simp only [ballotsGo] at hI
 rw [qe (by rw [hvn];decide)] at hI;refine ⟨k+1,q,⟨by omega,by omega,hI⟩,by omega,zWk⟩)
 ·(
 have hve:vE x=true:=jat hc
 iterate 10 refine zW ?_
 refine xLt 53 2 24 ?_
 refine xC ?_ ?_<;>intro hc
 ·(
 have hk1:=jaf hc
 iterate 7 refine zW ?_
 refine xLt 53 2 24 ?_
 iterate 4 refine zW ?_
 obtain ⟨ys,hys⟩:∃ ys:List Bal,ys=ownB x:=⟨_,rfl⟩
 have hysl:ys.length≤3:=by rw [hys];exact jmG x
 rw [show [D.agg [.i x.prep.n,.v (.string x.prep.v)],D.agg [.i 1000000,.v (.string x.bal.v)]]=ys.map bv from by rw [hys];unfold ownB;rw [qe hk1];rfl]
 have hym:(ys.map bv).length=ys.length:=by simp
 refine xN fun _=>?_
 iterate 4 refine zW ?_
 refine jaj [9,10,11,35,36] [] (fun (j:Nat) r=>(3,.sl 2 (((ys.take j).foldl intoV q).map bv))::(37,.i (j:Int))::r) (fun j r=>r) (fun j=>j≤ys.length) (fun j=>ys.length - j) (0) zRc (by omega) (zWk) ?_
 intro j hj
 have hfl:=jbE (ys.take j) q
 have htl:(ys.take j).length≤3:=by rw [List.length_take];omega
 refine xC ?_ ?_<;>intro hc
 ·(
 have hlt2:=qc hc
 obtain ⟨y,hy,_⟩:=jab (l:=ys) (k:=j) (by omega)
 have hy':=jad bv hy
 refine xL fun b8=>?_
 refine xA (jnD ((ys.take j).foldl intoV q) (by omega) y) ?_
 iterate 9 refine zW ?_
 rw [← jhF hy]
 refine ⟨j+1,by omega,by omega,zWk⟩)
 ·(
 have hge2:=qd hc
 iterate 11 refine zW ?_
 rw [hd] at hI;simp only [ballotsGo] at hI
 have hj9:(j:Nat)=j:=rfl;rw [qf hve,← hys] at hI;have hyf:=jbE ys q;rw [qA (by omega)];refine ⟨k+1,ys.foldl intoV q,⟨by omega,by omega,hI⟩,by omega,zWk⟩))
 ·(
 have hk1:=jae hc
 iterate 3 refine zW ?_
 obtain ⟨ys,hys⟩:∃ ys:List Bal,ys=ownB x:=⟨_,rfl⟩
 have hysl:ys.length≤3:=by rw [hys];exact jmG x
 rw [show [D.agg [.i x.bal.n,.v (.string x.bal.v)],D.agg [.i x.prep.n,.v (.string x.prep.v)],D.agg [.i x.prime.n,.v (.string x.prime.v)]]=ys.map bv from by rw [hys];unfold ownB;rw [qf hk1];rfl]
 have hym:(ys.map bv).length=ys.length:=by simp
 refine xN fun _=>?_
 iterate 4 refine zW ?_
 refine jaj [9,10,11,35,36] [] (fun (j:Nat) r=>(3,.sl 2 (((ys.take j).foldl intoV q).map bv))::(37,.i (j:Int))::r) (fun j r=>r) (fun j=>j≤ys.length) (fun j=>ys.length - j) (0) zRc (by omega) (zWk) ?_
 intro j hj
 have hfl:=jbE (ys.take j) q
 have htl:(ys.take j).length≤3:=by rw [List.length_take];omega
 refine xC ?_ ?_<;>intro hc
 ·(
 have hlt2:=qc hc
 obtain ⟨y,hy,_⟩:=jab (l:=ys) (k:=j) (by omega)
 have hy':=jad bv hy
 refine xL fun b8=>?_
 refine xA (jnD ((ys.take j).foldl intoV q) (by omega) y) ?_
 iterate 9 refine zW ?_
 rw [← jhF hy]
 refine ⟨j+1,by omega,by omega,zWk⟩)
 ·(
 have hge2:=qd hc
 iterate 11 refine zW ?_
 rw [hd] at hI;simp only [ballotsGo] at hI
 have hj9:(j:Nat)=j:=rfl;rw [qf hve,← hys] at hI;have hyf:=jbE ys q;rw [qA (by omega)];refine ⟨k+1,ys.foldl intoV q,⟨by omega,by omega,hI⟩,by omega,zWk⟩))))
 ·(
 have hge:=qd hc
 rw [jac (by omega)] at hI;simp only [ballotsGo] at hI
 refine xP ?_
 rw [← hI];rfl)
theorem jeG {ys:List Int} {j:Nat} {y:Int} {q:List Int} (h:ys[j]?=some y):(ys.take (j+1)).foldl intoI q=intoI ((ys.take j).foldl intoI q) y:=by
 rw [List.take_add_one,h];simp
theorem arr2 (a b:Int) {i:Nat} (h:i<2):∃ z,SubL [D.i a,D.i b] (i * 1) 1 [D.i z]∧[a,b][i]?=some z:=by
 have:i=0∨i=1:=by omega
 rcases this with rfl | rfl
 ·exact ⟨a,by repeat constructor,rfl⟩
 ·exact ⟨b,by repeat constructor,rfl⟩
theorem jma (l:List Evp) (hlen:l.length≤100) (hl:∀ e∈l,sizeT e.t≤1000000000):C0 277 [.sl 15 (l.map ev)] (.sl 1 ((valuesV l).map strv)):=by
 refine xI Tryz.func277 Tryz.call277 fun hcap=>?_
 have hml:(l.map ev).length=l.length:=by simp
 iterate 12 refine zW ?_
 refine jal [0,3] 1 rfl jdy jcK ?_
 refine xN fun _=>?_
 iterate 4 refine zW ?_
 refine jag [7,8] [] (fun (i:Nat) (q:List Str) r=>(3,.sl 1 (q.map strv))::(9,.i (i:Int))::r) (fun i q r=>r) (fun i q=>i≤l.length∧q.length≤i∧valuesGo (l.drop i) q=valuesV l) (fun i q=>l.length - i) (0) ([]) zRc ⟨by omega,by simp,by simp [valuesV]⟩ (zWk) ?_
 intro i q ⟨hi,hql,hI⟩
 have hqm:(q.map strv).length=q.length:=by simp
 refine xC ?_ ?_<;>intro hc
 ·(
 have hlt:=qc hc
 obtain ⟨x,hx,hd⟩:=jab (l:=l) (k:=i) (by omega)
 have hx':=jad ev hx
 have hxs:=hl x (qj hx)
 refine xL fun b5=>?_
 refine xA (jay x hxs) ?_
 refine xC ?_ ?_<;>intro hc
 ·(
 have hvn:vE x=false:=jau hc
 iterate 4 refine zW ?_
 skip
 iterate 5 refine zW ?_
 rw [hd] at hI;simp only [valuesGo] at hI
 have hil:(intoS q x.bal.v).length≤q.length+1:=jdq
 rw [qe (by rw [hvn];decide)] at hI;refine ⟨i+1,q,⟨by omega,by omega,hI⟩,by omega,zWk⟩)
 ·(
 have hve:vE x=true:=jat hc
 iterate 9 refine zW ?_
 refine jaj [3,5,7,8,9] [.box b5 _ _] (fun (k:Nat) r=>(6,.i (k:Int))::r) (fun k r=>r) (fun k=>k≤q.length∧posG (fun y=>decide (cV y x.bal.v<0)) (q.drop k)+k=posG (fun y=>decide (cV y x.bal.v<0)) q) (fun k=>q.length - k) (0) zRc ⟨by omega,by simp⟩ (zWk) ?_
 intro k ⟨hk,hJ⟩
 obtain ⟨y,hy⟩:=jgt q k x.bal.v
 iterate 2 refine zW ?_
 refine zDr [] ?_
 refine zT 0 ?_;refine zT 1 ?_;refine zT 2 ?_;refine zT 3 ?_;refine zT 4 ?_
 refine jai 4 rfl (fun hg=>?_) fun hg=>?_
 rotate_left
 case' _ =>(
 refine zK 5 ?_;refine zK 6 ?_;refine zK 7 ?_;refine zK 8 ?_;refine zK 9 ?_;refine zK 10 ?_;refine zK 11 ?_;refine zK 12 ?_;refine zT 13 ?_
 refine zW ?_)
 rotate_right
 case' _ =>(
 refine zT 5 ?_;refine zT 6 ?_
 refine jan 7 rfl zGd zKr zKr zKr (AP.ar (jam (k:=k) rfl rfl rfl rfl (by decide) rfl (jad strv (hy (by have h9:decide ((k:Int)<((q.map strv).length:Int))=true:=(by first | with_reducible assumption | exact hg);have:=qc h9;simp only [qu] at this;omega))))) rfl rfl ?_
 refine zT 8 ?_;refine zT 9 ?_;refine zT 10 ?_;refine zT 11 ?_;refine zOn 12 ?_
 refine xA (jql y x.bal.v) ?_
 refine zW ?_
 refine zT 13 ?_
 refine zW ?_)
 all_goals (
 refine xC ?_ ?_<;>intro hc
 ·(
 first
 | (exact xQ hc)
 |(
 iterate 10 refine zW ?_
 have hlt:k<q.length:=by have h9:decide ((k:Int)<((q.map strv).length:Int))=true:=(by first | with_reducible assumption | exact hg | exact hc);have:=qc h9;omega
 rw [jeT (lt:=(fun y=>decide (cV y x.bal.v<0))) (hy hlt) (show decide (cV y x.bal.v<0)=true by first | with_reducible assumption | exact hc)] at hJ
 refine ⟨k+1,⟨by omega,by omega⟩,by omega,zWk⟩))
 ·(
 first
 | (exact xQ hc)
 |(
 have hpos:posG (fun y=>decide (cV y x.bal.v<0)) q=k:=by first | (have h9:decide ((k:Int)<((q.map strv).length:Int))=false:=(by first | with_reducible assumption | exact hg | exact hc);have:=qd h9;rw [jdd (by omega)] at hJ;omega) | (rw [jcp (lt:=(fun y=>decide (cV y x.bal.v<0))) (hy (by have h8:decide ((k:Int)<((q.map strv).length:Int))=true:=(by first | with_reducible assumption | exact hg | exact hc);have:=qc h8;omega)) (show decide (cV y x.bal.v<0)=false by first | with_reducible assumption | exact hc | exact hg)] at hJ;omega)
 iterate 6 refine zW ?_
 refine zDr [] ?_
 refine zT 0 ?_;refine zT 1 ?_;refine zT 2 ?_;refine zT 3 ?_;refine zT 4 ?_
 refine jai 4 rfl (fun hg=>?_) fun hg=>?_
 rotate_left
 case' _ =>(
 refine zT 5 ?_;refine zT 6 ?_
 refine jan 7 rfl zGd zKr zKr zKr (AP.ar (jam (k:=k) rfl rfl rfl rfl (by decide) rfl (jad strv (hy (by have h9:decide ((k:Int)=((q.map strv).length:Int))=false:=(by first | with_reducible assumption | exact hg);have:=qd h9;simp only [qu] at this;omega))))) rfl rfl ?_
 refine zT 8 ?_;refine zT 9 ?_;refine zT 10 ?_;refine zT 11 ?_;refine zT 12 ?_;refine zT 13 ?_
 refine zW ?_)
 rotate_right
 case' _ =>(
 refine zK 5 ?_;refine zK 6 ?_;refine zK 7 ?_;refine zK 8 ?_;refine zK 9 ?_;refine zK 10 ?_;refine zK 11 ?_;refine zK 12 ?_;refine zT 13 ?_
 refine zW ?_)
 all_goals (
 refine xC ?_ ?_<;>intro hc
 ·(
 first
 | (exact xQ hc)
 |(
 have he9:intoS q x.bal.v=q.take k++[x.bal.v]++q.drop k:=by
  refine jnj hpos (fun z hz=>?_)
  first | (have h9:decide ((k:Int)=((q.map strv).length:Int))=true:=(by first | with_reducible assumption | exact hg);have:=qc h9;rw [List.getElem?_eq_none (by omega)] at hz;cases hz) | (have h8:decide ((k:Int)=((q.map strv).length:Int))=false:=(by first | with_reducible assumption | exact hg);have:=qd h8;have hyk:=hy (by omega);rw [hyk] at hz;cases hz;exact jau hc)
 refine zDr [] ?_
 refine zT 0 ?_;refine zT 1 ?_;refine zT 2 ?_;refine zT 4 ?_;refine zT 5 ?_;refine zT 6 ?_;refine zT 9 ?_;refine zT 10 ?_;refine zT 11 ?_
 refine zE2 3 7 ?_ ?_
 rotate_left
 case' _ =>(
 refine xLt 9 1 16 ?_
 refine zW ?_
 refine zOn 3 ?_
 first | refine xEa 9 1 16 (hb:=xLb) fun v49 hv49=>?_ | refine xEn 9 1 16 (hb:=xLb) fun v49 hv49=>?_
 refine zW ?_
 refine zOn 8 ?_
 refine xEa 9 1 16 (hb:=xLb) fun v54 hv54=>?_
 refine zW ?_
 refine zOn 12 ?_
 refine xEa 9 1 16 (hb:=xLb) fun v58 hv58=>?_
 refine zW ?_
 refine zT 13 ?_
 refine zW ?_)
 rotate_right
 case' _ =>(
 first | refine xEa 9 1 16 (hb:=xLb) fun v49 hv49=>?_ | refine xEn 9 1 16 (hb:=xLb) fun v49 hv49=>?_
 refine zW ?_
 refine zOn 7 ?_
 refine xLt 9 1 16 ?_
 refine zW ?_
 refine zOn 8 ?_
 refine xEa 9 1 16 (hb:=xLb) fun v54 hv54=>?_
 refine zW ?_
 refine zOn 12 ?_
 refine xEa 9 1 16 (hb:=xLb) fun v58 hv58=>?_
 refine zW ?_
 refine zT 13 ?_
 refine zW ?_)
 all_goals (
 iterate 2 refine zW ?_
 rw [show D.v (.string x.bal.v)=strv x.bal.v from rfl,List.nil_append,jcF];refine zFz v58 [3,7,8,9] ?_
 iterate 5 refine zW ?_
 rw [hd] at hI;simp only [valuesGo] at hI
 have hil:(intoS q x.bal.v).length≤q.length+1:=jdq
 have h58:Value:=v58;rw [qf hve] at hI;rw [← he9];refine ⟨i+1,intoS q x.bal.v,⟨by omega,by omega,hI⟩,by omega,zWk⟩)))
 ·(
 first
 | (exact xQ hc)
 |(
 have he9:intoS q x.bal.v=q:=jqd hpos (hy (by have h8:decide ((k:Int)=((q.map strv).length:Int))=false:=(by first | with_reducible assumption | exact hg);have:=qd h8;omega)) (jat hc)
 iterate 3 refine zW ?_
 first | (rw [show D.v (.string x.bal.v)=strv x.bal.v from rfl,List.nil_append,jcF];refine zFz v58 [3,7,8,9] ?_) | skip
 iterate 5 refine zW ?_
 rw [hd] at hI;simp only [valuesGo] at hI
 have hil:(intoS q x.bal.v).length≤q.length+1:=jdq
 first
 | (have h58:Value:=v58;rw [qf hve] at hI;rw [← he9];refine ⟨i+1,intoS q x.bal.v,⟨by omega,by omega,hI⟩,by omega,zWk⟩)
 | (rw [qf hve,he9] at hI;refine ⟨i+1,q,⟨by omega,by omega,hI⟩,by omega,zWk⟩)))))))))
 ·(
 have hge:=qd hc
 rw [jac (by omega)] at hI;simp only [valuesGo] at hI
 refine xP ?_
 rw [← hI];rfl)
theorem jbT (l:List Evp) (hlen:l.length≤100) (hl:∀ e∈l,sizeT e.t≤1000000000) (v:Str):C0 278 [.sl 15 (l.map ev),.v (.string v)] (.sl 1 ((boundsV l v).map .i)):=by
 refine xI Tryz.func278 Tryz.call278 fun hcap=>?_
 have hml:(l.map ev).length=l.length:=by simp
 iterate 12 refine zW ?_
 refine jal [0,1,5] 1 rfl jdy jcK ?_
 refine xN fun _=>?_
 iterate 4 refine zW ?_
 refine jag [1,11,12] [] (fun (i:Nat) (q:List Int) r=>(5,.sl 1 (q.map .i))::(13,.i (i:Int))::r) (fun i q r=>r) (fun i q=>i≤l.length∧q.length≤2 * i∧boundsGo v (l.drop i) q=boundsV l v) (fun i q=>l.length - i) (0) ([]) zRc ⟨by omega,by simp,by simp [boundsV]⟩ (zWk) ?_
 intro i q ⟨hi,hql,hI⟩
 refine xC ?_ ?_<;>intro hc
 ·(
 have hlt:=qc hc
 obtain ⟨x,hx,hd⟩:=jab (l:=l) (k:=i) (by omega)
 have hx':=jad ev hx
 have hxs:=hl x (qj hx)
 refine xL fun b7=>?_
 refine xA (jay x hxs) ?_
 iterate 2 refine zW ?_
 iterate 11 all_goals first | refine zW ?_ | refine xG ?_ ?_<;>intro hg
 all_goals (
 refine xC ?_ ?_<;>intro hc
 ·(
 first
 | (exact xQ hc)
 |(
 have hin:(vE x&&(decide (x.bal.v=v)&&!decide (x.low=0)))=false:=by first | (simp_all;done) | grind
 iterate 9 refine zW ?_
 rw [hd] at hI;simp only [boundsGo] at hI
 first
 | (have hj9:q=q':=hq'.trans rfl;skip;fail)
 | (have hj9:=hq';rw [qf hin] at hI;have e2:q'=intoI (intoI q0 x.low) x.high:=(by rw [hq',qA (by simp;omega)];rfl);rw [← e2] at hI;refine ⟨i+1,q',⟨by omega,by omega,hI⟩,by omega,zWk⟩)
 | (rw [qe (by rw [hin];decide)] at hI;refine ⟨i+1,q,⟨by omega,by omega,hI⟩,by omega,zWk⟩)))
 ·(
 first
 | (exact xQ hc)
 |(
 have hin:(vE x&&(decide (x.bal.v=v)&&!decide (x.low=0)))=true:=by first | (simp_all;done) | grind
 obtain ⟨q0,hq0⟩:∃ q0:List Int,q0=q:=⟨_,rfl⟩
 rw [← hq0] at hI hql ⊢
 iterate 13 refine zW ?_
 refine jag [1,11,12,13,36] [] (fun (j:Nat) (q:List Int) r=>(5,.sl 1 (q.map .i))::(37,.i (j:Int))::r) (fun j q r=>r) (fun j q=>j≤2∧q.length≤2 * i+j∧q=([x.low,x.high].take j).foldl intoI q0) (fun j q=>2 - j) (0) (q0) zRc ⟨by omega,by omega,by simp⟩ (zWk) ?_
 intro j q' ⟨hj,hql',hq'⟩
 have hqm:(q'.map D.i).length=q'.length:=by simp
 refine xC ?_ ?_<;>intro hc
 ·(
 have hj2:=qc hc
 obtain ⟨z,hz,hz2⟩:=arr2 x.low x.high (i:=j) (by omega)
 iterate 6 refine zW ?_
 refine zP (jhg (k:=j) rfl rfl rfl rfl rfl rfl (by omega) hz) ?_
 iterate 10 refine zW ?_
 refine jaj [1,5,9,11,12,13,36,37] [] (fun (k:Nat) r=>(10,.i (k:Int))::r) (fun k r=>r) (fun k=>k≤q'.length∧posG (fun y=>decide (y<z)) (q'.drop k)+k=posG (fun y=>decide (y<z)) q') (fun k=>q'.length - k) (0) zRc ⟨by omega,by simp⟩ (zWk) ?_
 intro k ⟨hk,hJ⟩
 obtain ⟨y,hy⟩:=jgt q' k 0
 refine xN fun _=>?_
 iterate 2 refine zW ?_
 iterate 2 all_goals first | refine zW ?_ | refine xG ?_ ?_<;>intro hg
 all_goals first | (refine zY ?_;(refine zP (jam (k:=k) rfl rfl rfl rfl (by decide) rfl (jad D.i (hy (by have h9:decide ((k:Int)<((q'.map D.i).length:Int))=true:=(by first | with_reducible assumption | exact hg);have:=qc h9;simp only [qu] at this;omega)))) ?_)) | refine zSk ?_
 iterate 4 all_goals refine zW ?_
 all_goals (
 refine xC ?_ ?_<;>intro hc
 ·(
 first
 | (exact xQ hc)
 |(
 iterate 10 refine zW ?_
 have hlt:k<q'.length:=by have h9:decide ((k:Int)<((q'.map D.i).length:Int))=true:=(by first | with_reducible assumption | exact hg | exact hc);have:=qc h9;omega
 rw [jeT (lt:=(fun y=>decide (y<z))) (hy hlt) (show decide (y<z)=true by first | with_reducible assumption | exact hc)] at hJ
 refine ⟨k+1,⟨by omega,by omega⟩,by omega,zWk⟩))
 ·(
 first
 | (exact xQ hc)
 |(
 have hpos:posG (fun y=>decide (y<z)) q'=k:=by first | (have h9:decide ((k:Int)<((q'.map D.i).length:Int))=false:=(by first | with_reducible assumption | exact hg | exact hc);have:=qd h9;rw [jdd (by omega)] at hJ;omega) | (rw [jcp (lt:=(fun y=>decide (y<z))) (hy (by have h8:decide ((k:Int)<((q'.map D.i).length:Int))=true:=(by first | with_reducible assumption | exact hg | exact hc);have:=qc h8;omega)) (show decide (y<z)=false by first | with_reducible assumption | exact hc | exact hg)] at hJ;omega)
 refine xN fun _=>?_
 iterate 2 refine zW ?_
 iterate 2 all_goals first | refine zW ?_ | refine xG ?_ ?_<;>intro hg
 all_goals first | (refine zY ?_;(refine zP (jam (k:=k) rfl rfl rfl rfl (by decide) rfl (jad D.i (hy (by have h9:decide ((k:Int)=((q'.map D.i).length:Int))=false:=(by first | with_reducible assumption | exact hg);have:=qd h9;simp only [qu] at this;omega)))) ?_)) | refine zSk ?_
 iterate 4 all_goals refine zW ?_
 all_goals (
 refine xC ?_ ?_<;>intro hc
 ·(
 first
 | (exact xQ hc)
 |(
 have he9:intoI q' z=q'.take k++[z]++q'.drop k:=by
  refine jnj hpos (fun u hu=>?_)
  first | (have h9:decide ((k:Int)=((q'.map D.i).length:Int))=true:=(by first | with_reducible assumption | exact hg);have:=qc h9;rw [List.getElem?_eq_none (by omega)] at hu;cases hu) | (have h8:decide ((k:Int)=((q'.map D.i).length:Int))=false:=(by first | with_reducible assumption | exact hg);have:=qd h8;have hyk:=hy (by omega);rw [hyk] at hu;cases hu;exact jau hc)
 refine zDr [] ?_
 refine zT 0 ?_;refine zT 1 ?_;refine zT 2 ?_;refine zT 4 ?_;refine zT 7 ?_;refine zT 8 ?_;refine zT 9 ?_
 refine zE2 3 5 ?_ ?_
 rotate_left
 case' _ =>(
 refine xLt 3 1 8 ?_
 refine zW ?_
 refine zOn 3 ?_
 first | refine xEa 3 1 8 (hb:=xLb) fun v69 hv69=>?_ | refine xEn 3 1 8 (hb:=xLb) fun v69 hv69=>?_
 refine zW ?_
 refine zOn 6 ?_
 refine xEa 3 1 8 (hb:=xLb) fun v72 hv72=>?_
 refine zW ?_
 refine zOn 10 ?_
 refine xEa 3 1 8 (hb:=xLb) fun v76 hv76=>?_
 refine zW ?_
 refine zT 11 ?_
 refine zW ?_)
 rotate_right
 case' _ =>(
 first | refine xEa 3 1 8 (hb:=xLb) fun v69 hv69=>?_ | refine xEn 3 1 8 (hb:=xLb) fun v69 hv69=>?_
 refine zW ?_
 refine zOn 5 ?_
 refine xLt 3 1 8 ?_
 refine zW ?_
 refine zOn 6 ?_
 refine xEa 3 1 8 (hb:=xLb) fun v72 hv72=>?_
 refine zW ?_
 refine zOn 10 ?_
 refine xEa 3 1 8 (hb:=xLb) fun v76 hv76=>?_
 refine zW ?_
 refine zT 11 ?_
 refine zW ?_)
 all_goals (
 iterate 2 refine zW ?_
 rw [jcF D.i];refine zFz v76 [1,5,11,12,13,36,37] ?_
 iterate 5 refine zW ?_
 have hil:(intoI q' z).length≤q'.length+1:=jdq
 have h76:Value:=v76;rw [← he9];refine ⟨j+1,intoI q' z,⟨by omega,by omega,by rw [jeG hz2,← hq']⟩,by omega,zWk⟩)))
 ·(
 first
 | (exact xQ hc)
 |(
 have he9:intoI q' z=q':=jqd hpos (hy (by have h8:decide ((k:Int)=((q'.map D.i).length:Int))=false:=(by first | with_reducible assumption | exact hg);have:=qd h8;omega)) (jat hc)
 iterate 3 refine zW ?_
 first | (rw [jcF D.i];refine zFz v76 [1,5,11,12,13,36,37] ?_) | skip
 iterate 5 refine zW ?_
 have hil:(intoI q' z).length≤q'.length+1:=jdq
 first
 | (have h76:Value:=v76;rw [← he9];refine ⟨j+1,intoI q' z,⟨by omega,by omega,by rw [jeG hz2,← hq']⟩,by omega,zWk⟩)
 | (refine ⟨j+1,q',⟨by omega,by omega,by rw [jeG hz2,← hq',he9]⟩,by omega,zWk⟩))))))))
 ·(
 have hj2:=qd hc
 iterate 11 refine zW ?_
 rw [hd] at hI;simp only [boundsGo] at hI
 have hj9:=hq';rw [qf hin] at hI;have e2:q'=intoI (intoI q0 x.low) x.high:=(by rw [hq',qA (by simp;omega)];rfl);rw [← e2] at hI;refine ⟨i+1,q',⟨by omega,by omega,hI⟩,by omega,zWk⟩)))))
 ·(
 have hge:=qd hc
 rw [jac (by omega)] at hI;simp only [boundsGo] at hI
 refine xP ?_
 rw [← hI];rfl)
theorem jbK (c:List Mem) (v a:Int):C0 237 [cv c,.i v,.i a] (.b (confirmsC c v a)):=by
 refine xI Tryz.func237 Tryz.call237 fun hcap=>?_
 refine xX fun b3=>?_
 refine xA (jdi c a) ?_
 refine xA (jcu _ _) ?_
 refine xP ?_;exact rfl
theorem jwR {m:Nat} (h:m<1024):1023&&&(2^63 - 1 - m)=1023 - m:=by
 refine Nat.eq_of_testBit_eq fun i=>?_
 rw [Nat.testBit_and,show (1023:Nat) - m=2^10 - (m+1) from by omega,Nat.testBit_two_pow_sub_succ (n:=10) h,show (1023:Nat)=2^10 - 1 from rfl,Nat.testBit_two_pow_sub_one]
 by_cases hi:i<10
 ·rw [jk9 h hi]
 ·simp [hi]
theorem jek (c:List Mem) (v s:Int):C0 271 [cv c,.i v,.i s] (.b (blocksC c v s)):=by
 refine xI Tryz.func271 Tryz.call271 fun hcap=>?_
 refine xX fun b3=>?_
 refine xE (ja6 s) fun c8 hc8=>?_
 iterate 2 refine zW ?_
 all_goals refine xG ?_ ?_<;>intro hg
 all_goals first | (refine zY ?_;refine jaa zRc (jfP c) rfl rfl ?_) | refine zSk ?_
 all_goals refine zW ?_
 all_goals first | (refine zY ?_;refine jbw zRc (jcu (declC c) v) rfl rfl fun c14 hc14=>?_) | refine zSk ?_
 iterate 2 all_goals refine zW ?_
 all_goals (
 refine xC ?_ ?_<;>intro hc
 ·(
 first
 | (exact xQ hc)
 |(
 iterate 7 refine zW ?_
 refine zPi ?_
 first | (rw [jqD (hc14.trans (jau (c:=c14) (by with_reducible assumption)))];rfl) | (rw [jpG (hc8.trans (jau (c:=c8) (by with_reducible assumption)))];rfl)))
 ·(
 first
 | (exact xQ hc)
 |(
 have hv0:=hc8.trans (jat (c:=c8) (by with_reducible assumption))
 have hh0:=hc14.trans (jat hc)
 obtain ⟨m,rfl,hm⟩:=jbF hv0
 obtain ⟨j,x,rfl,hj,hx,_⟩:=jsH hh0
 have hx':=jad mv hx
 have hp:=jaH hj
 have hxt:=ja9 hx
 have hsub:(1023:Int) - (m:Int)=((1023 - m:Nat):Int):=by omega
 have hand:1023 - m<1024:=by omega
 iterate 3 refine zW ?_
 refine zDr [] ?_
 refine zT 0 ?_;refine zT 1 ?_;refine zT 2 ?_
 refine jan 3 rfl zGd zKr zKr zKr (AP.ar (jam (k:=j) rfl rfl rfl rfl (by decide) rfl hx')) rfl rfl ?_
 refine zT 4 ?_;refine zT 5 ?_;refine zT 6 ?_
 refine jan 7 rfl zGd zKr zKr zKr (AP.ar (jb7 (m:=((1023 - m:Nat):Int)) rfl rfl (by simp only [addI,ql];omega) (by omega))) rfl rfl ?_
 refine zT 8 ?_
 refine jan 9 rfl zGd zKr zKr zKr (AP.ar (jbg (p:=1) rfl rfl rfl (by omega) (by omega))) rfl rfl ?_
 refine zT 10 ?_;refine zOn 11 ?_
 refine xE (jmc _ x.t) fun c28 hc28=>?_
 refine zW ?_
 refine zT 12 ?_;refine zT 13 ?_
 refine zW ?_
 all_goals (
 refine xP ?_
 rw [jtK hv0 hh0 hxt,show (1023&&&(2^63 - 1 - m))=1023 - m from jwR (by omega),hc28];rfl))))
theorem jcT (c:List Mem) (v a b:Int):C0 256 [cv c,.i v,.i a,.i b] (.b (acceptsC c v a b)):=by
 refine xI Tryz.func256 Tryz.call256 fun hcap=>?_
 refine xX fun b4=>?_
 refine xE (ja6 a) fun c10 hc10=>?_
 iterate 2 refine zW ?_
 all_goals refine xG ?_ ?_<;>intro hg
 all_goals first | (refine zY ?_;refine jbw zRc (ja6 b) rfl rfl fun c14 hc14=>?_) | refine zSk ?_
 iterate 2 all_goals refine zW ?_
 all_goals (
 refine xC ?_ ?_<;>intro hc
 ·(
 first
 | (exact xQ hc)
 |(
 iterate 7 refine zW ?_
 refine zPi ?_
 first | (rw [joW (hc14.trans (jau (c:=c14) (by with_reducible assumption)))];rfl) | (rw [jn8 (hc10.trans (jau (c:=c10) (by with_reducible assumption)))];rfl)))
 ·(
 first
 | (exact xQ hc)
 |(
 have hv0:=hc10.trans (jat (c:=c10) (by with_reducible assumption))
 have hw0:=hc14.trans (jat hc)
 obtain ⟨m,rfl,hm⟩:=jbF hv0
 obtain ⟨j,rfl,hj⟩:=jbF hw0
 refine xE (jek c v _) fun c20 hc20=>?_
 refine zW ?_
 iterate 4 all_goals first | refine zW ?_ | refine xG ?_ ?_<;>intro hg
 all_goals first | (refine zY ?_;refine jaa zRc (jdi c _) rfl rfl ?_) | refine zSk ?_
 all_goals refine zW ?_
 all_goals first | (refine zY ?_;refine jbw zRc (jcu _ _) rfl rfl fun c28 hc28=>?_) | refine zSk ?_
 iterate 2 all_goals refine zW ?_
 all_goals (
 refine xP ?_
 rw [jqS hv0 hw0,hc20]
 first | (rw [hc28,show c20=false by with_reducible assumption];rfl) | (rw [show c20=true by with_reducible assumption];rfl)))))
def setR:Nat→List Evp→List Bool→Nat
 | s,[],_=>s
 | s,e::r,[]=>setR s r []
 | s,e::r,o::os=>setR (if (o&&(decide (0≤e.node)&&decide (e.node≤9)))=true then s|||1 * 2^e.node.toNat else s) r os
theorem jul {s:Nat} {r:List Evp} {o:Bool} {os:List Bool} (h:o=true) (hn:e.node=n) (h9:n≤9):setR s (e::r) (o::os)=setR (s|||1 * 2^n) r os:=by
 simp only [setR]
 rw [qf (by rw [h,hn];simp;omega),hn,qr]
theorem jxs {s:Nat} {r:List Evp} {o:Bool} {os:List Bool} (h:o=false∨¬ (0≤e.node∧e.node≤9)):setR s (e::r) (o::os)=setR s r os:=by
 simp only [setR]
 rw [qe]
 intro h2
 simp only [qh,qm] at h2
 rcases h with h | h
 ·rw [h] at h2;cases h2.1
 ·exact h h2.2
theorem jp4 (h:n≤9):IntKind.u64.wrap (n:Int)=(n:Int):=by
 have:n=0∨n=1∨n=2∨n=3∨n=4∨n=5∨n=6∨n=7∨n=8∨n=9:=by omega
 rcases this with h | h | h | h | h | h | h | h | h | h<;>subst h<;>decide
def bV (b:Bool):D:=.b b
theorem jdv (l:List Evp) (os:List Bool) (hlo:l.length=os.length):C0 242 [.sl 15 (l.map ev),.sl 1 (os.map bV)] (.i (setR 0 l os:Nat)):=by
 refine xI Tryz.func242 Tryz.call242 fun hcap=>?_
 have hml:(l.map ev).length=l.length:=by simp
 have hmo:(os.map bV).length=os.length:=by simp
 refine xN fun _=>?_
 iterate 4 refine zW ?_
 refine jag [1,8,9] [] (fun (k:Nat) (s:Nat) r=>(5,.i (s:Int))::(10,.i (k:Int))::r) (fun k s r=>r) (fun k s=>k≤l.length∧s<1024∧setR s (l.drop k) (os.drop k)=setR 0 l os) (fun k s=>l.length - k) (0) (0) zRc ⟨by omega,by omega,by simp⟩ (zWk) ?_
 intro k s ⟨hk,hs,hI⟩
 refine xC ?_ ?_<;>intro hc
 ·(
 have hlt:=qc hc
 obtain ⟨x,hx,hd⟩:=jab (l:=l) (k:=k) (by omega)
 have hx':=jad ev hx
 obtain ⟨o,ho,hd2⟩:=jab (l:=os) (k:=k) (by omega)
 have ho':=jad bV ho
 refine xL fun b7=>?_
 refine xN fun _=>?_
 iterate 2 refine zW ?_
 iterate 2 all_goals refine zW ?_
 all_goals (refine zY ?_;refine zP (jam (k:=k) rfl rfl rfl rfl (by decide) rfl ho') ?_)
 iterate 12 all_goals first | refine zW ?_ | refine xG ?_ ?_<;>intro hg
 all_goals (
 refine xC ?_ ?_<;>intro hc
 ·(
 first
 | (exact xQ hc)
 |(
 obtain ⟨n9,hn9,hn99⟩:∃ n:Nat,x.node=n∧n≤9:=by have h1:=qc (show decide (x.node≤9)=true by first | with_reducible assumption | exact hc);have h2:=qc (show decide (x.node≥0)=true by first | with_reducible assumption | exact hg);exact ⟨x.node.toNat,by omega,by omega⟩
 rw [hn9]
 have hpn:=jaH (k:=n9) (by omega)
 iterate 5 refine zW ?_
 (rw [jp4 (by omega:n9≤9)];refine zP (jbg (p:=1) rfl rfl rfl (by omega) (by omega)) ?_)
 iterate 10 refine zW ?_
 rw [hd,hd2] at hI
 have h9:Nat:=n9;rw [jul (by with_reducible assumption) hn9 hn99] at hI;refine ⟨k+1,s|||1 * 2^n9,⟨by omega,jb9 hs (by omega),hI⟩,by omega,zWk⟩))
 ·(
 first
 | (exact xQ hc)
 |(
 iterate 8 refine zW ?_
 rw [hd,hd2] at hI
 first
 | (have h9:Nat:=n9;rw [jul (by with_reducible assumption) hn9 hn99] at hI;refine ⟨k+1,s|||1 * 2^n9,⟨by omega,jb9 hs (by omega),hI⟩,by omega,zWk⟩)
 | (have hff:o=false∨¬ (0≤x.node∧x.node≤9):=(by first | exact .inl (by with_reducible assumption) | exact .inr (by have:=qd (show decide (x.node≤9)=false by with_reducible assumption);omega) | exact .inr (by have:=qd (show decide (x.node≥0)=false by with_reducible assumption);omega));rw [jxs hff] at hI;refine ⟨k+1,s,⟨by omega,hs,hI⟩,by omega,zWk⟩)))))
 ·(
 have hge:=qd hc
 rw [jac (by omega)] at hI
 refine xP ?_
 rw [← hI];cases os.drop k<;>rfl)
theorem jmk (p:Evp→Bool):∀ (l:List Evp) (s:Nat),setR s l (l.map p)=whoGo (fun e=>p e&&(decide (0≤e.node)&&decide (e.node≤9))) l s
 | [],_=>rfl
 | e::r,s=>by
  simp only [List.map_cons,setR,whoGo]
  exact jmk p r _
theorem jgn (p:Evp→Bool) (l:List Evp):setR 0 l (l.map p)=setP p l:=jmk p l 0
theorem jky:tmade Tryz.prog 101 (10 * 4)=some (List.replicate 10 zeroMem.cells.toList).flatten:=by kernel_rfl
theorem juF {y:Mem} (hv:vE e=true) (hn:n=e.node.toNat) (hy:q[n]?=some y) (hd:y.decl=false):putE q e=q.set n ⟨true,e.t⟩:=by
 subst hn
 unfold putE
 rw [qf hv,hy]
 show (if y.decl=true then q else _)=_
 rw [qe (by rw [hd];decide)]
theorem jwr (hv:vE e=false):putE q e=q:=by unfold putE;rw [qe (by rw [hv];decide)]
theorem jwp {y:Mem} (hv:vE e=true) (hn:n=e.node.toNat) (hy:q[n]?=some y) (hd:y.decl=true):putE q e=q:=by
 subst hn
 unfold putE
 rw [qf hv,hy]
 show (if y.decl=true then q else _)=_
 rw [qf hd]
theorem jxc (h:q.length=10):∃ y,n<10→q[n]?=some y:=by
 by_cases hn:n<10
 ·exact ⟨q[n]'(by omega),fun _=>List.getElem?_eq_getElem _⟩
 ·exact ⟨⟨false,Trust.none⟩,fun h=>qo h hn⟩
theorem jrr:(List.replicate 10 noMem)=nobody:=rfl
theorem jrb {node:Int} {t:Trust} {l:List Evp} (h:node<0∨10≤node):viewE node t l=nobody:=by unfold viewE;rw [qf h]
theorem jtG {t:Trust} {l:List Evp} (h:n<10):viewE (n:Int) t l=putsE l (nobody.set n ⟨true,t⟩):=by unfold viewE;rw [qe (by omega),qr]
theorem jco (node:Int) (t:Trust) (l:List Evp) (hl:∀ e∈l,sizeT e.t≤1000000000):C0 241 [.i node,av t,.sl 15 (l.map ev)] (cv (viewE node t l)):=by
 refine xI Tryz.func241 Tryz.call241 fun hcap=>?_
 have hml:(l.map ev).length=l.length:=by simp
 refine xX fun b4=>?_
 refine zAl fun b6=>?_
 iterate 4 refine zW ?_
 refine jer (N:=10) (l:=(List.replicate 10 noMem).map mv) rfl rfl rfl rfl jky (by simp) jnb ⟨by decide,by decide⟩ rfl rfl (fun g=>?_)
 refine xL fun b7=>?_
 iterate 9 refine zW ?_
 iterate 3 all_goals first | refine zW ?_ | refine xG ?_ ?_<;>intro hg
 all_goals (
 refine xC ?_ ?_<;>intro hc
 ·(
 first
 | (exact xQ hc)
 |(
 have hbad:node<0∨10≤node:=by first | (have:=qc hg;omega) | (have:=qc hc;omega)
 iterate 6 refine zW ?_
 refine zFz (.slice (some ⟨g,0,none⟩) 10 10) [6] ?_
 refine xP ?_
 rw [jrb hbad];rfl))
 ·(
 first
 | (exact xQ hc)
 |(
 have hgood:¬ (node<0∨10≤node):=by have h1:=qd hc;have h2:=qd (by first | with_reducible assumption | exact hg:decide (node<0)=false);omega
 iterate 3 refine zW ?_
 obtain ⟨n0,rfl,hn10⟩:∃ n:Nat,node=n∧n<10:=⟨node.toNat,by omega,by omega⟩
 obtain ⟨y0,hy0,_⟩:=jab (l:=List.replicate 10 noMem) (k:=n0) (by simp;omega)
 have hyy0:=jad mv hy0
 iterate 6 refine zW ?_
 refine zP (jaW (k:=n0) rfl rfl rfl rfl rfl (by omega)) ?_
 refine jaI (off:=0) rfl rfl jem jct rfl hyy0 zRc ?_
 refine xN fun _=>?_
 iterate 4 refine zW ?_
 refine jag [6,7,25,26] [.box b7 _ _,.box b6 _ _,.box b4 _ _] (fun (k:Nat) (q:List Mem) r=>(27,.i (k:Int))::r) (fun k q r=>.arr (.slice (some ⟨g,0,none⟩) 10 10) 101 4 (q.map mv)::r) (fun k q=>k≤l.length∧q.length=10∧putsE (l.drop k) q=putsE l (nobody.set n0 ⟨true,t⟩)) (fun k q=>l.length - k) (0) (((List.replicate 10 noMem).set n0 ⟨true,t⟩)) zRc ⟨by omega,by simp,by rw [jrr];simp⟩ (by rw [show D.agg [.b true,.i t.th,.sl 1 (t.nodes.map .i),.sl 3 (avs t.inner)]=mv ⟨true,t⟩ from rfl,← List.map_set];exact (zWk)) ?_
 intro k q ⟨hk,hql,hI⟩
 refine xC ?_ ?_<;>intro hc
 ·(
 have hlt:=qc hc
 obtain ⟨x,hx,hd⟩:=jab (l:=l) (k:=k) (by omega)
 have hx':=jad ev hx
 have hxs:=hl x (qj hx)
 obtain ⟨n,hn⟩:∃ n,n=x.node.toNat:=⟨_,rfl⟩
 have hnn:vE x=true→x.node=(n:Int)∧n<10:=fun h=>by have:=jcC h;omega
 obtain ⟨y,hy⟩:=jxc (n:=n) hql
 refine xL fun b9=>?_
 refine xA (jay x hxs) ?_
 refine zW ?_
 iterate 4 all_goals first | refine zW ?_ | refine xG ?_ ?_<;>intro hg
 all_goals first | (refine zY ?_;(rw [(hnn (by first | with_reducible assumption | exact hg)).1];refine zP (jaW (k:=n) rfl rfl rfl rfl rfl (hnn (by first | with_reducible assumption | exact hg)).2) ?_)) | refine zSk ?_
 all_goals refine zW ?_
 all_goals first | (refine zY ?_;(refine jnV (jiJ (off:=0) rfl jct qp rfl (jad mv (hy (hnn (by first | with_reducible assumption | exact hg)).2)) zRc) rfl rfl rfl ?_)) | refine zSk ?_
 iterate 2 all_goals refine zW ?_
 all_goals (
 refine xC ?_ ?_<;>intro hc
 ·(
 first
 | (exact xQ hc)
 |(
 have hve:vE x=true:=by first | with_reducible assumption | assumption
 have hn1:=hnn hve
 have hy1:=hy hn1.2
 have hyd:y.decl=false:=jau (by with_reducible assumption)
 have hyy1:=jad mv hy1
 iterate 8 refine zW ?_
 refine zP (jaW (k:=n) rfl rfl rfl rfl rfl (by omega)) ?_
 refine jaI (off:=0) rfl rfl jem jct rfl hyy1 zRc ?_
 iterate 8 refine zW ?_
 rw [hd] at hI
 simp only [putsE] at hI
 rw [juF hve hn hy1 hyd] at hI;refine ⟨k+1,q.set n ⟨true,x.t⟩,⟨by omega,by rw [List.length_set];exact hql,hI⟩,by omega,?_⟩;rw [List.map_set];exact (zWk)))
 ·(
 first
 | (exact xQ hc)
 |(
 iterate 8 refine zW ?_
 rw [hd] at hI
 simp only [putsE] at hI
 first
 | (rw [juF hve hn hy1 hyd] at hI;refine ⟨k+1,q.set n ⟨true,x.t⟩,⟨by omega,by rw [List.length_set];exact hql,hI⟩,by omega,?_⟩;rw [List.map_set];exact (zWk))
 | (rw [jwr (by with_reducible assumption)] at hI;refine ⟨k+1,q,⟨by omega,hql,hI⟩,by omega,zWk⟩)
 | (rw [jwp (by first | with_reducible assumption | exact hg) hn (hy (hnn (by first | with_reducible assumption | exact hg)).2) (jat (by with_reducible assumption))] at hI;refine ⟨k+1,q,⟨by omega,hql,hI⟩,by omega,zWk⟩)))))
 ·(
 have hge:=qd hc
 rw [jac (by omega)] at hI;simp only [putsE] at hI
 refine zFz (.slice (some ⟨g,0,none⟩) 10 10) [6,7] ?_
 refine xP ?_
 rw [jtG hn10,← hI];rfl))))
theorem bsn (q:List Bool) (y:Bool):List.map bV q++[D.b y]=List.map bV (q++[y]):=by rw [List.map_append];rfl
theorem jbL {α β:Type} (f:α→β) {l:List α} {k:Nat} {x:α} (h:l[k]?=some x):(l.take (k+1)).map f=(l.take k).map f++[f x]:=by rw [List.take_add_one,h];simp
theorem jkM (l:List Evp) (hlen:l.length≤100) (hl:∀ e∈l,sizeT e.t≤1000000000) (b:Bal):C0 288 [.sl 15 (l.map ev),bv b] (.tup [.i (setP (fun e=>apR e b||vpR e b) l:Nat),.i (setP (fun e=>apR e b) l:Nat)]):=by
 refine xI Tryz.func288 Tryz.call288 fun hcap=>?_
 have hml:(l.map ev).length=l.length:=by simp
 refine xX fun b3=>?_
 refine xN fun _=>?_
 iterate 4 refine zW ?_
 refine jaP [0,3,11,12] [.box b3 _ _] (fun (k:Nat) (v:Value) (w:Value) r=>(6,.v v)::(7,.v w)::(13,.i (k:Int))::r) (fun k v w r=>.arr v 4 1 (((l.take k).map (fun e=>apR e b||vpR e b)).map bV)::.arr w 4 1 (((l.take k).map (fun e=>apR e b)).map bV)::r) (fun k v w=>k≤l.length) (fun k v w=>l.length - k) (0) (.slice none 0 0) (.slice none 0 0) zRc (by omega) ((jaO 4 1 rfl).trans ((jaO 4 1 rfl).trans (zWk))) ?_
 intro k v w hk
 have hm1:(((l.take k).map (fun e=>apR e b||vpR e b)).map bV).length=k:=by simp;omega
 have hm2:(((l.take k).map (fun e=>apR e b)).map bV).length=k:=by simp;omega
 refine xC ?_ ?_<;>intro hc
 ·(
 have hlt:=qc hc
 obtain ⟨x,hx,hd⟩:=jab (l:=l) (k:=k) (by omega)
 have hx':=jad ev hx
 have hxs:=hl x (qj hx)
 refine xL fun b9=>?_
 refine xB (jwi x hxs b) ?_;rintro _ _ ⟨rfl,rfl⟩;obtain ⟨ya,hya⟩:∃ y,y=apR x b:=⟨_,rfl⟩;rw [← hya]
 iterate 7 refine zW ?_
 iterate 2 all_goals first | refine zW ?_ | refine xG ?_ ?_<;>intro hg
 all_goals first | (refine zY ?_;(refine jaq zRc (jvr x hxs b) jaA rfl rfl ?_;rintro _ _ ⟨rfl,rfl⟩;obtain ⟨yv,hyv⟩:∃ y,y=vpR x b:=⟨_,rfl⟩;rw [← hyv])) | refine zSk ?_
 all_goals refine zW ?_
 all_goals (refine xLt 4 1 1 ?_)
 all_goals (first | refine xEa 4 1 1 (hb:=xLb) fun v28 hv28=>?_ | refine xEn 4 1 1 (hb:=xLb) fun v28 hv28=>?_)
 iterate 2 all_goals refine zW ?_
 all_goals (refine xLt 4 1 1 ?_)
 all_goals (first | refine xEa 4 1 1 (hb:=xLb) fun v32 hv32=>?_ | refine xEn 4 1 1 (hb:=xLb) fun v32 hv32=>?_)
 iterate 2 all_goals refine zW ?_
 all_goals (
 iterate 8 refine zW ?_
 rw [bsn,bsn]
 first
 | (have h0:ya=true:=(by first | with_reducible assumption | exact hg);rw [show (l.take k).map (fun e=>apR e b||vpR e b)++[true]=(l.take (k+1)).map (fun e=>apR e b||vpR e b) from by rw [jbL _ hx];rw [← hya,h0];rfl,show (l.take k).map (fun e=>apR e b)++[ya]=(l.take (k+1)).map (fun e=>apR e b) from by rw [jbL _ hx,hya]];refine ⟨k+1,_,_,by omega,by omega,zWk⟩)
 | (have h0:ya=false:=(by first | with_reducible assumption | exact hg);rw [show (l.take k).map (fun e=>apR e b||vpR e b)++[yv]=(l.take (k+1)).map (fun e=>apR e b||vpR e b) from by rw [jbL _ hx];rw [← hya,← hyv,h0];rfl,show (l.take k).map (fun e=>apR e b)++[ya]=(l.take (k+1)).map (fun e=>apR e b) from by rw [jbL _ hx,hya]];refine ⟨k+1,_,_,by omega,by omega,zWk⟩)))
 ·(
 have hge:=qd hc
 rw [qA (show l.length≤k by omega)]
 refine zFz v [0,6,7] ?_
 refine zFz w [0,6,7] ?_
 refine xA (jdv l (l.map (fun e=>apR e b||vpR e b)) (by simp)) ?_
 refine xA (jdv l (l.map (fun e=>apR e b)) (by simp)) ?_
 refine xP ?_
 rw [jgn,jgn];rfl)
theorem joJ (node:Int) (t:Trust) (l:List Evp) (hlen:l.length≤100) (hl:∀ e∈l,sizeT e.t≤1000000000) (b:Bal):C0 275 [.i node,av t,.sl 15 (l.map ev),bv b] (.b (acc25 node t l b)):=by
 refine xI Tryz.func275 Tryz.call275 fun hcap=>?_
 refine xX fun b5=>?_
 refine zBx fun b7=>?_
 refine xA (jkM l hlen hl b) ?_
 refine xA (jco node t l hl) ?_
 refine xA (jcT _ _ _ _) ?_
 refine xP ?_;exact rfl
theorem jpg (node:Int) (t:Trust) (l:List Evp) (hlen:l.length≤100) (hl:∀ e∈l,sizeT e.t≤1000000000) (b:Bal):C0 276 [.i node,av t,.sl 15 (l.map ev),bv b] (.b (cnf25 node t l b)):=by
 refine xI Tryz.func276 Tryz.call276 fun hcap=>?_
 refine xX fun b5=>?_
 refine zBx fun b7=>?_
 refine xA (jkM l hlen hl b) ?_
 refine xA (jco node t l hl) ?_
 refine xA (jbK _ _ _) ?_
 refine xP ?_;exact rfl
theorem jds (b:Bal):C0 274 [bv b] (bv (raiseB b)):=by
 refine xI Tryz.func274 Tryz.call274 fun hcap=>?_
 refine xX fun b1=>?_
 refine zAl fun b2=>?_
 refine xC ?_ ?_<;>intro hc
 ·(
 have h1:=qc hc
 refine xP ?_
 unfold raiseB bv
 rw [qf h1];rfl)
 ·(
 have h1:=qd hc
 refine xP ?_
 unfold raiseB bv
 rw [qe h1];rfl)
theorem jcc (node:Int) (t:Trust) (l:List Evp) (hlen:l.length≤100) (hl:∀ e∈l,sizeT e.t≤1000000000) (p q:Bal) (v:Str):C0 259 [.i node,av t,.sl 15 (l.map ev),bv p,bv q,.v (.string v)] (bv (nextV node t l p q v)):=by
 refine xI Tryz.func259 Tryz.call259 fun hcap=>?_
 refine xX fun b7=>?_
 refine zBx fun b9=>?_
 refine zBx fun b10=>?_
 refine zAl fun b12=>?_
 refine xB (jfg l hlen hl) ?_;rintro _ _ ⟨rfl,rfl⟩;obtain ⟨bs,hbs⟩:∃ bs,bs=ballotsV l:=⟨_,rfl⟩;rw [← hbs];have hbm:(bs.map bv).length=bs.length:=(by simp)
 refine zLn fun _=>?_
 iterate 4 refine zW ?_
 refine jaj [0,2,5,7,9,10,12,16,17] [.box b12 _ _,.box b10 _ _,.box b9 _ _,.box b7 _ _] (fun (k:Nat) r=>(18,.i (k:Int))::r) (fun k r=>r) (fun k=>k≤bs.length∧nextGo node t l p q v (bs.drop k)=nextV node t l p q v) (fun k=>bs.length - k) (0) zRc ⟨by omega,by rw [hbs];rfl⟩ (zWk) ?_
 intro k ⟨hk,hI⟩
 refine xC ?_ ?_<;>intro hc
 ·(
 have hlt:=qc hc
 obtain ⟨x,hx,hd⟩:=jab (l:=bs) (k:=k) (by omega)
 have hx':=jad bv hx
 refine xL fun b14=>?_
 iterate 5 refine zW ?_
 refine zDr [] ?_
 refine zT 0 ?_;refine zT 1 ?_;refine zT 2 ?_
 refine jai 2 rfl (fun hg=>?_) fun hg=>?_
 rotate_left
 case' _ =>(
 refine zK 3 ?_;refine zK 4 ?_;refine zK 5 ?_;refine zK 6 ?_;refine zT 7 ?_;refine zT 8 ?_;refine zT 9 ?_;refine zT 11 ?_;refine zT 13 ?_;refine zOn 10 ?_
 refine xA (jds p) ?_
 refine zW ?_
 refine zOn 12 ?_
 refine xA (jds q) ?_
 refine zW ?_
 refine zOn 14 ?_
 refine xA (jgl (raiseB p) (raiseB q) x) ?_
 refine zW ?_
 refine zT 15 ?_
 refine zW ?_)
 rotate_right
 case' _ =>(
 refine zT 3 ?_;refine zT 4 ?_;refine zT 5 ?_;refine zT 6 ?_;refine zT 7 ?_;refine zT 8 ?_
 refine jai 8 rfl (fun hg=>?_) fun hg=>?_
 rotate_left
 case' _ =>(
 refine zT 9 ?_;refine zT 11 ?_;refine zT 13 ?_;refine zOn 10 ?_
 refine xA (jds p) ?_
 refine zW ?_
 refine zOn 12 ?_
 refine xA (jds q) ?_
 refine zW ?_
 refine zOn 14 ?_
 refine xA (jgl (raiseB p) (raiseB q) x) ?_
 refine zW ?_
 refine zT 15 ?_
 refine zW ?_)
 rotate_right
 case' _ =>(
 refine zK 9 ?_;refine zK 10 ?_;refine zK 11 ?_;refine zK 12 ?_;refine zK 13 ?_;refine zK 14 ?_;refine zT 15 ?_
 refine zW ?_))
 all_goals (
 refine xC ?_ ?_<;>intro hc
 ·(
 first
 | (exact xQ hc)
 |(
 have hco:((!decide (v=noS)&&!decide (x.v=v))||prB (raiseB p) (raiseB q) x)=true:=by first | (simp_all [noS];done) | grind [noS]
 iterate 9 refine zW ?_
 rw [hd] at hI;simp only [nextGo] at hI
 rw [qf hco] at hI;refine ⟨k+1,⟨by omega,hI⟩,by omega,zWk⟩))
 ·(
 first
 | (exact xQ hc)
 |(
 have hco:((!decide (v=noS)&&!decide (x.v=v))||prB (raiseB p) (raiseB q) x)=false:=by first | (simp_all [noS];done) | grind [noS]
 refine xA (joJ node t l hlen hl x) ?_
 refine xC ?_ ?_<;>intro hc
 ·(
 have hac:acc25 node t l x=true:=hc
 refine xP ?_
 rw [hd] at hI;simp only [nextGo] at hI
 rw [qe (by rw [hco];decide),qf hac] at hI
 rw [← hI];rfl)
 ·(
 have hac:acc25 node t l x=false:=hc
 iterate 8 refine zW ?_
 rw [hd] at hI;simp only [nextGo] at hI
 first
 | (rw [qf hco] at hI;refine ⟨k+1,⟨by omega,hI⟩,by omega,zWk⟩)
 | (rw [qe (by rw [hco];decide),qe (by rw [hac];decide)] at hI;refine ⟨k+1,⟨by omega,hI⟩,by omega,zWk⟩))))))
 ·(
 have hge:=qd hc
 rw [jac (by omega)] at hI;simp only [nextGo] at hI
 refine xP ?_
 rw [← hI];rfl)
theorem jgk (node:Int) (t:Trust) (l:List Evp) (hlen:l.length≤100) (hl:∀ e∈l,sizeT e.t≤1000000000) (a:Bal):C0 263 [.i node,av t,.sl 15 (l.map ev),bv a] (bv (highV node t l a)):=by
 refine xI Tryz.func263 Tryz.call263 fun hcap=>?_
 refine xX fun b5=>?_
 refine zBx fun b7=>?_
 refine zAl fun b8=>?_
 refine xB (jfg l hlen hl) ?_;rintro _ _ ⟨rfl,rfl⟩;obtain ⟨bs,hbs⟩:∃ bs,bs=ballotsV l:=⟨_,rfl⟩;rw [← hbs];have hbm:(bs.map bv).length=bs.length:=(by simp)
 refine zLn fun _=>?_
 iterate 4 refine zW ?_
 refine jaj [0,2,5,7,8,12,13] [.box b8 _ _,.box b7 _ _,.box b5 _ _] (fun (k:Nat) r=>(14,.i (k:Int))::r) (fun k r=>r) (fun k=>k≤bs.length∧highGo node t l a (bs.drop k)=highV node t l a) (fun k=>bs.length - k) (0) zRc ⟨by omega,by rw [hbs];rfl⟩ (zWk) ?_
 intro k ⟨hk,hI⟩
 refine xC ?_ ?_<;>intro hc
 ·(
 have hlt:=qc hc
 obtain ⟨x,hx,hd⟩:=jab (l:=bs) (k:=k) (by omega)
 have hx':=jad bv hx
 refine xL fun b10=>?_
 iterate 9 refine zW ?_
 iterate 2 all_goals first | refine zW ?_ | refine xG ?_ ?_<;>intro hg
 all_goals first | (refine zY ?_;refine jaa zRc (jcJ a x) rfl rfl ?_) | refine zSk ?_
 iterate 6 all_goals first | refine zW ?_ | refine xG ?_ ?_<;>intro hg
 all_goals first | (refine zY ?_;refine jaa zRc (jpg node t l hlen hl x) rfl rfl ?_) | refine zSk ?_
 all_goals refine zW ?_
 all_goals (
 refine xC ?_ ?_<;>intro hc
 ·(
 first
 | (exact xQ hc)
 |(
 have hco:(decide (x.n≤1000)&&(lB a x&&cnf25 node t l x))=true:=by first | (simp_all;done) | grind
 refine xP ?_
 rw [hd] at hI;simp only [highGo] at hI
 rw [qf hco] at hI
 rw [← hI];rfl))
 ·(
 first
 | (exact xQ hc)
 |(
 have hco:(decide (x.n≤1000)&&(lB a x&&cnf25 node t l x))=false:=by first | (simp_all;done) | grind
 iterate 8 refine zW ?_
 rw [hd] at hI;simp only [highGo] at hI
 rw [qe (by rw [hco];decide)] at hI
 refine ⟨k+1,⟨by omega,hI⟩,by omega,zWk⟩))))
 ·(
 have hge:=qd hc
 rw [jac (by omega)] at hI;simp only [highGo] at hI
 refine xP ?_
 rw [← hI];rfl)
theorem jlc (p q b:Bal):C0 261 [bv p,bv q,bv b] (.tup [bv (joinV p q b).1,bv (joinV p q b).2]):=by
 refine xI Tryz.func261 Tryz.call261 fun hcap=>?_
 refine xX fun b3=>?_
 refine zBx fun b4=>?_
 refine zBx fun b5=>?_
 refine zAl fun b6=>?_
 refine zAl fun b7=>?_
 refine xA (jaJ b) ?_
 refine xC ?_ ?_<;>intro hc
 ·(
 refine zW ?_
 refine zDr [.box b7 _ _,.box b6 _ _] ?_
 refine zT 0 ?_;refine zT 1 ?_;refine zOn 2 ?_
 iterate 2 refine zW ?_
 refine zOn 3 ?_
 iterate 3 refine zW ?_
 all_goals (
 refine xP ?_
 unfold joinV
 simp [*];rfl))
 ·(
 refine xA (jaJ p) ?_
 refine xC ?_ ?_<;>intro hc
 ·(
 refine zW ?_
 refine zDr [.box b7 _ _,.box b6 _ _] ?_
 refine zT 0 ?_;refine zT 1 ?_;refine zOn 2 ?_
 iterate 2 refine zW ?_
 refine zOn 3 ?_
 iterate 3 refine zW ?_
 all_goals (
 refine xP ?_
 unfold joinV
 simp [*];rfl))
 ·(
 refine xA (jcJ p b) ?_
 refine xC ?_ ?_<;>intro hc
 ·(
 refine xA (ja2 p b) ?_
 refine xC ?_ ?_<;>intro hc
 ·(
 refine zW ?_
 refine zDr [.box b7 _ _,.box b6 _ _] ?_
 refine zT 0 ?_;refine zT 1 ?_;refine zOn 2 ?_
 iterate 2 refine zW ?_
 refine zOn 3 ?_
 iterate 3 refine zW ?_
 all_goals (
 refine xP ?_
 unfold joinV
 simp [*];rfl))
 ·(
 refine xA (ja2 q b) ?_
 refine xC ?_ ?_<;>intro hc
 ·(
 iterate 6 refine zW ?_
 refine zDr [.box b7 _ _,.box b6 _ _] ?_
 refine zT 0 ?_;refine zT 1 ?_;refine zOn 2 ?_
 iterate 2 refine zW ?_
 refine zOn 3 ?_
 iterate 3 refine zW ?_
 all_goals (
 refine xP ?_
 unfold joinV
 simp [*];rfl))
 ·(
 iterate 3 refine zW ?_
 refine zDr [.box b7 _ _,.box b6 _ _] ?_
 refine zT 0 ?_;refine zT 1 ?_;refine zOn 2 ?_
 iterate 2 refine zW ?_
 refine zOn 3 ?_
 iterate 3 refine zW ?_
 all_goals (
 refine xP ?_
 unfold joinV
 simp [*];rfl))))
 ·(
 refine xA (jcJ b p) ?_
 refine zW ?_
 iterate 2 all_goals first | refine zW ?_ | refine xG ?_ ?_<;>intro hg
 all_goals first | (refine zY ?_;refine jaa zRc (ja2 b p) rfl rfl ?_) | refine zSk ?_
 iterate 4 all_goals first | refine zW ?_ | refine xG ?_ ?_<;>intro hg
 all_goals first | (refine zY ?_;refine jaa zRc (jaJ q) rfl rfl ?_) | refine zSk ?_
 iterate 3 all_goals first | refine zW ?_ | refine xG ?_ ?_<;>intro hg
 all_goals first | (refine zY ?_;refine jaa zRc (jcJ q b) rfl rfl ?_) | refine zSk ?_
 iterate 3 all_goals refine zW ?_
 all_goals (
 refine xC ?_ ?_<;>intro hc
 ·(
 refine zW ?_
 refine zDr [.box b7 _ _,.box b6 _ _] ?_
 refine zT 0 ?_;refine zT 1 ?_;refine zOn 2 ?_
 iterate 2 refine zW ?_
 refine zOn 3 ?_
 iterate 3 refine zW ?_
 all_goals (
 refine xP ?_
 unfold joinV
 first | (simp [*];done) | (simp [*];rfl) | (simp_all;done)))
 ·(
 iterate 4 refine zW ?_
 refine zDr [.box b7 _ _,.box b6 _ _] ?_
 refine zT 0 ?_;refine zT 1 ?_;refine zOn 2 ?_
 iterate 2 refine zW ?_
 refine zOn 3 ?_
 iterate 3 refine zW ?_
 all_goals (
 refine xP ?_
 unfold joinV
 first | (simp [*];done) | (simp [*];rfl)))))))
theorem jgh (l:List Evp) (hlen:l.length≤100) (hl:∀ e∈l,sizeT e.t≤1000000000) (sv:Str) (lo hi:Int):C0 289 [.sl 15 (l.map ev),.v (.string sv),.i lo,.i hi] (.tup [.i (setP (fun e=>acR e sv lo hi||vcR e sv lo hi) l:Nat),.i (setP (fun e=>acR e sv lo hi) l:Nat)]):=by
 refine xI Tryz.func289 Tryz.call289 fun hcap=>?_
 have hml:(l.map ev).length=l.length:=by simp
 refine xN fun _=>?_
 iterate 4 refine zW ?_
 refine jaP [0,1,2,3,15,16] [] (fun (k:Nat) (v:Value) (w:Value) r=>(10,.v v)::(11,.v w)::(17,.i (k:Int))::r) (fun k v w r=>.arr v 4 1 (((l.take k).map (fun e=>acR e sv lo hi||vcR e sv lo hi)).map bV)::.arr w 4 1 (((l.take k).map (fun e=>acR e sv lo hi)).map bV)::r) (fun k v w=>k≤l.length) (fun k v w=>l.length - k) (0) (.slice none 0 0) (.slice none 0 0) zRc (by omega) ((jaO 4 1 rfl).trans ((jaO 4 1 rfl).trans (zWk))) ?_
 intro k v w hk
 have hm1:(((l.take k).map (fun e=>acR e sv lo hi||vcR e sv lo hi)).map bV).length=k:=by simp;omega
 have hm2:(((l.take k).map (fun e=>acR e sv lo hi)).map bV).length=k:=by simp;omega
 refine xC ?_ ?_<;>intro hc
 ·(
 have hlt:=qc hc
 obtain ⟨x,hx,hd⟩:=jab (l:=l) (k:=k) (by omega)
 have hx':=jad ev hx
 have hxs:=hl x (qj hx)
 refine xL fun b13=>?_
 refine xB (jww x hxs sv lo hi) ?_;rintro _ _ ⟨rfl,rfl⟩;obtain ⟨ya,hya⟩:∃ y,y=acR x sv lo hi:=⟨_,rfl⟩;rw [← hya]
 iterate 7 refine zW ?_
 iterate 4 all_goals first | refine zW ?_ | refine xG ?_ ?_<;>intro hg
 all_goals first | (refine zY ?_;(refine jaq zRc (jvc x hxs sv lo hi) jaA rfl rfl ?_;rintro _ _ ⟨rfl,rfl⟩;obtain ⟨yv,hyv⟩:∃ y,y=vcR x sv lo hi:=⟨_,rfl⟩;rw [← hyv])) | refine zSk ?_
 all_goals refine zW ?_
 all_goals (refine xLt 4 1 1 ?_)
 all_goals (first | refine xEa 4 1 1 (hb:=xLb) fun v36 hv36=>?_ | refine xEn 4 1 1 (hb:=xLb) fun v36 hv36=>?_)
 iterate 2 all_goals refine zW ?_
 all_goals (refine xLt 4 1 1 ?_)
 all_goals (first | refine xEa 4 1 1 (hb:=xLb) fun v40 hv40=>?_ | refine xEn 4 1 1 (hb:=xLb) fun v40 hv40=>?_)
 iterate 2 all_goals refine zW ?_
 all_goals (
 iterate 8 refine zW ?_
 rw [bsn,bsn]
 first
 | (have h0:ya=true:=(by first | with_reducible assumption | exact hg);rw [show (l.take k).map (fun e=>acR e sv lo hi||vcR e sv lo hi)++[true]=(l.take (k+1)).map (fun e=>acR e sv lo hi||vcR e sv lo hi) from by rw [jbL _ hx];rw [← hya,h0];rfl,show (l.take k).map (fun e=>acR e sv lo hi)++[ya]=(l.take (k+1)).map (fun e=>acR e sv lo hi) from by rw [jbL _ hx,hya]];refine ⟨k+1,_,_,by omega,by omega,zWk⟩)
 | (have h0:ya=false:=(by first | with_reducible assumption | exact hg);rw [show (l.take k).map (fun e=>acR e sv lo hi||vcR e sv lo hi)++[yv]=(l.take (k+1)).map (fun e=>acR e sv lo hi||vcR e sv lo hi) from by rw [jbL _ hx];rw [← hya,← hyv,h0];rfl,show (l.take k).map (fun e=>acR e sv lo hi)++[ya]=(l.take (k+1)).map (fun e=>acR e sv lo hi) from by rw [jbL _ hx,hya]];refine ⟨k+1,_,_,by omega,by omega,zWk⟩)))
 ·(
 have hge:=qd hc
 rw [qA (show l.length≤k by omega)]
 refine zFz v [0,10,11] ?_
 refine zFz w [0,10,11] ?_
 refine xA (jdv l (l.map (fun e=>acR e sv lo hi||vcR e sv lo hi)) (by simp)) ?_
 refine xA (jdv l (l.map (fun e=>acR e sv lo hi)) (by simp)) ?_
 refine xP ?_
 rw [jgn,jgn];rfl)
theorem jdt (node:Int) (t:Trust) (l:List Evp) (hlen:l.length≤100) (hl:∀ e∈l,sizeT e.t≤1000000000) (sv:Str) (lo hi:Int):C0 280 [.i node,av t,.sl 15 (l.map ev),.v (.string sv),.i lo,.i hi] (.b (acc26 node t l sv lo hi)):=by
 refine xI Tryz.func280 Tryz.call280 fun hcap=>?_
 refine xX fun b7=>?_
 refine xA (jgh l hlen hl sv lo hi) ?_
 refine xA (jco node t l hl) ?_
 refine xA (jcT _ _ _ _) ?_
 refine xP ?_;exact rfl
theorem jhz (node:Int) (t:Trust) (l:List Evp) (hlen:l.length≤100) (hl:∀ e∈l,sizeT e.t≤1000000000) (sv:Str) (lo hi:Int):C0 282 [.i node,av t,.sl 15 (l.map ev),.v (.string sv),.i lo,.i hi] (.b (cnf26 node t l sv lo hi)):=by
 refine xI Tryz.func282 Tryz.call282 fun hcap=>?_
 refine xX fun b7=>?_
 refine xA (jgh l hlen hl sv lo hi) ?_
 refine xA (jco node t l hl) ?_
 refine xA (jbK _ _ _) ?_
 refine xP ?_;exact rfl
theorem jk6 (p q:Bal) (n:Int) (sv:Str):C0 279 [bv p,bv q,.i n,.v (.string sv)] (.b (freeV p q n sv)):=by
 refine xI Tryz.func279 Tryz.call279 fun hcap=>?_
 refine xX fun b4=>?_
 refine zBx fun b5=>?_
 refine xL fun b9=>?_
 refine xA (jeS p ⟨n,sv⟩) ?_
 iterate 2 refine zW ?_
 iterate 2 all_goals first | refine zW ?_ | refine xG ?_ ?_<;>intro hg
 all_goals first | (refine zY ?_;refine jaa zRc (jeS q ⟨n,sv⟩) rfl rfl ?_) | refine zSk ?_
 iterate 3 all_goals refine zW ?_
 all_goals (
 refine xP ?_;refine (bcl ?_)
 first | rfl | (simp only [freeV];simp [*];done))
theorem jea (node:Int) (t:Trust) (l:List Evp) (hlen:l.length≤100) (hl:∀ e∈l,sizeT e.t≤1000000000) (sv:Str) (fr hi:Int):C0 281 [.i node,av t,.sl 15 (l.map ev),.v (.string sv),.i fr,.i hi] (.i (downV node t l sv fr hi)):=by
 refine xI Tryz.func281 Tryz.call281 fun hcap=>?_
 refine xX fun b7=>?_
 refine xB (jbT l hlen hl sv) ?_;rintro _ _ ⟨rfl,rfl⟩;obtain ⟨q,hq⟩:∃ q,q=boundsV l sv:=⟨_,rfl⟩;rw [← hq];have hqm:(q.map D.i).length=q.length:=(by simp)
 refine xN fun _=>?_
 iterate 5 refine zW ?_
 refine jag [0,2,3,5,7,13] [.box b7 _ _] (fun (i:Int) (f:Int) r=>(4,.i f)::(14,.i i)::r) (fun i f r=>r) (fun i f=>(-1≤i∧i<(q.length:Int))∧lowGo (fun n=>acc26 node t l sv n hi) (rvP q i) f=downV node t l sv fr hi) (fun i f=>(i+1).toNat) (((q.length:Int) - 1)) (fr) zRc ⟨by omega,by rw [jih,hq];rfl⟩ (by rw [hqm];exact (zWk)) ?_
 intro i f ⟨hi0,hI⟩
 refine xC ?_ ?_<;>intro hc
 ·(
 obtain ⟨n,rfl⟩:=qz (show 0≤i from qc (hc))
 obtain ⟨x,hx,_⟩:=jab (l:=q) (k:=n) (by omega)
 have hx':=jad D.i hx
 refine xC ?_ ?_<;>intro hc
 ·(
 have hge:x≥f:=qc hc
 iterate 10 refine zW ?_
 rw [jcf hx,lowGo] at hI
 rw [qf hge] at hI;refine ⟨(n:Int) - 1,f,⟨by omega,hI⟩,by omega,zWk⟩)
 ·(
 have hge:¬ x≥f:=qd hc
 iterate 4 refine zW ?_
 refine zDr [] ?_
 refine zT 0 ?_;refine zT 1 ?_;refine zT 2 ?_;refine zT 3 ?_;refine zT 4 ?_;refine zT 5 ?_;refine zT 6 ?_;refine zT 7 ?_;refine zT 8 ?_;refine zOn 9 ?_
 refine xA (jdt node t l hlen hl sv x hi) ?_
 refine zW ?_
 refine zT 10 ?_
 refine zW ?_
 all_goals (
 refine xC ?_ ?_<;>intro hc
 ·(
 have hac:acc26 node t l sv x hi=false:=jau hc
 rw [jcf hx,lowGo,qe hge,qe (by rw [hac];decide)] at hI
 refine xP ?_;exact (icl hI))
 ·(
 have hac:acc26 node t l sv x hi=true:=jat hc
 iterate 17 refine zW ?_
 rw [jcf hx,lowGo] at hI
 rw [qe hge,qf hac] at hI;refine ⟨(n:Int) - 1,x,⟨by omega,hI⟩,by omega,zWk⟩))))
 ·(
 have hneg:i<0:=by have:=qd hc;omega
 rw [jgv q hneg] at hI;simp only [lowGo] at hI
 refine xP ?_;exact (icl hI))
theorem juN (l:List Int) (i:Int):∃ y,0≤i→i<(l.length:Int)→l[i.toNat]?=some y:=by
 by_cases h:i.toNat<l.length
 ·exact ⟨l[i.toNat],fun _ _=>List.getElem?_eq_getElem h⟩
 ·exact ⟨0,fun h0 h1=>qo (by omega) h⟩
theorem jlx (node:Int) (t:Trust) (l:List Evp) (hlen:l.length≤100) (hl:∀ e∈l,sizeT e.t≤1000000000) (sv:Str) (lo hi:Int):C0 265 [.i node,av t,.sl 15 (l.map ev),.v (.string sv),.i lo,.i hi] (.tup [.i (extendV node t l sv lo hi).1,.i (extendV node t l sv lo hi).2]):=by
 have hcap:=jbu
 obtain ⟨lh,hlh⟩:∃ lh,lh=(extGo node t l sv (boundsV l sv).reverse (lo,hi)):=⟨_,rfl⟩
 refine jar Tryz.func265 rfl Tryz.call265 rfl ?_
 refine xX fun b7=>?_
 refine xB (jbT l hlen hl sv) ?_;rintro _ _ ⟨rfl,rfl⟩;obtain ⟨q,hq⟩:∃ q,q=boundsV l sv:=⟨_,rfl⟩;rw [← hq];have hqm:(q.map D.i).length=q.length:=(by simp)
 refine xN fun _=>?_
 iterate 5 refine zW ?_
 refine jaj [0,2,3,7,14] [.box b7 _ _] (fun (i:Int) r=>(4,.i lo)::(5,.i hi)::(15,.i i)::r) (fun i r=>r) (fun i=>(-1≤i∧i<(q.length:Int))∧extGo node t l sv (rvP q i) (lo,hi)=lh) (fun i=>(i+1).toNat) (((q.length:Int) - 1)) zRc ⟨by omega,by rw [jih,hq,hlh]⟩ (by rw [hqm];exact (zWk)) ?_
 intro i ⟨⟨hi1,hi2⟩,hI⟩
 obtain ⟨y,hy⟩:=juN q i
 iterate 6 refine zW ?_
 iterate 2 all_goals first | refine zW ?_ | refine xG ?_ ?_<;>intro hg
 all_goals first | (refine zY ?_;(refine zP (jam (k:=i.toNat) rfl rfl rfl rfl (by decide) (by have h9:decide (i≥0)=true:=(by first | with_reducible assumption | exact hg | exact hc);have:=qc h9;omega) (jad D.i (hy (by have h9:decide (i≥0)=true:=(by first | with_reducible assumption | exact hg | exact hc);have:=qc h9;omega) (by omega)))) ?_)) | refine zSk ?_
 iterate 4 all_goals refine zW ?_
 all_goals (
 refine xC ?_ ?_<;>intro hc
 ·(
 first
 | (exact xQ hc)
 |(
 have hyg0:=qc hc
 obtain ⟨n,rfl⟩:=qz (show 0≤i from qc (by first | with_reducible assumption | exact hg:decide (i≥0)=true))
 obtain ⟨x,hx,_⟩:=jab (l:=q) (k:=n) (by omega)
 have hx':=jad D.i hx
 have hxy:x=y:=by have:=hy (by omega) (by omega);rw [qr,hx] at this;exact Option.some.inj this
 have hyg:x>(lo,hi).2:=by rw [hxy];exact hyg0
 have hxb:=jaU l sv x (by rw [← hq];exact qj hx)
 have hdb:=jdg node t l sv x x
 refine xA (jdt node t l hlen hl sv x x) ?_
 refine xC ?_ ?_<;>intro hc
 ·(
 have hac:acc26 node t l sv x x=false:=jau hc
 iterate 10 refine zW ?_
 rw [jcf hx,jta hyg hac] at hI
 refine ⟨(n:Int) - 1,⟨by omega,hI⟩,by omega,zWk⟩)
 ·(
 have hac:acc26 node t l sv x x=true:=jat hc
 rw [jcf hx,jpL hyg hac] at hI
 refine xA (jea node t l hlen hl sv x x) ?_
 refine xC ?_ ?_<;>intro hc
 ·(
 have hml:=qc hc
 rw [qf hml] at hI
 have mk58t:True:=trivial
 iterate 18 refine zW ?_
 have h7:=mk58t;rw [show D.i x=D.i lh.2 from by rw [← hI],show D.i (downV node t l sv x x)=D.i lh.1 from by rw [← hI]]
 refine xA (jea node t l hlen hl sv lh.1 lh.2) ?_
 refine xP ?_
 rw [hlh];rfl)
 ·(
 have hml:=qd hc
 rw [qe hml] at hI
 have mk58f:True:=trivial
 iterate 20 refine zW ?_
 have h7:=mk58f;rw [show D.i x=D.i lh.2 from by rw [← hI],show D.i (min lo (downV node t l sv x x))=D.i lh.1 from by rw [← hI]]
 refine xA (jea node t l hlen hl sv lh.1 lh.2) ?_
 refine xP ?_
 rw [hlh];rfl))))
 ·(
 first
 | (exact xQ hc)
 |(
 have hlo:lh=(lo,hi):=by
  first
  | (have h9:decide (i≥0)=false:=(by first | with_reducible assumption | exact hg);have:=qd h9;rw [jgv q (by omega)] at hI;rw [← hI];rfl)
  | (have h9:decide (i≥0)=true:=(by first | with_reducible assumption | exact hg);have h8:=qc h9;have h7:=hy h8 (by omega);obtain ⟨n,rfl⟩:=qz h8;rw [qr] at h7;rw [jcf h7,jhe (qd hc)] at hI;exact hI.symm)
 have e1:lo=lh.1:=by rw [hlo]
 have e2:hi=lh.2:=by rw [hlo]
 iterate 6 refine zW ?_
 have h7:=e1;have h6:=e2;rw [show (D.i lo)=D.i lh.1 from by rw [← e1],show (D.i hi)=D.i lh.2 from by rw [← e2]]
 refine xA (jea node t l hlen hl sv lh.1 lh.2) ?_
 refine xP ?_
 rw [hlh];rfl)))
theorem jn5 (node:Int) (t:Trust) (l:List Evp) (hlen:l.length≤100) (hl:∀ e∈l,sizeT e.t≤1000000000) (sv:Str):C0 266 [.i node,av t,.sl 15 (l.map ev),.v (.string sv)] (.tup [.i (finalB node t l sv).1,.i (finalB node t l sv).2.1,.b (finalB node t l sv).2.2]):=by
 refine xI Tryz.func266 Tryz.call266 fun hcap=>?_
 refine xX fun b5=>?_
 refine xB (jbT l hlen hl sv) ?_;rintro _ _ ⟨rfl,rfl⟩;obtain ⟨q,hq⟩:∃ q,q=boundsV l sv:=⟨_,rfl⟩;rw [← hq];have hqm:(q.map D.i).length=q.length:=(by simp)
 refine xN fun _=>?_
 iterate 5 refine zW ?_
 refine jaj [0,2,3,5,11] [.box b5 _ _] (fun (j:Int) r=>(12,.i j)::r) (fun j r=>r) (fun j=>(-1≤j∧j<(q.length:Int))∧finGo node t l sv (rvP q j)=finalB node t l sv) (fun j=>(j+1).toNat) (((q.length:Int) - 1)) zRc ⟨by omega,by rw [jih,hq];rfl⟩ (by rw [hqm];exact (zWk)) ?_
 intro j ⟨⟨hj1,hj2⟩,hI⟩
 refine xC ?_ ?_<;>intro hc
 ·(
 obtain ⟨n,rfl⟩:=qz (show 0≤j from qc (hc))
 obtain ⟨x,hx,_⟩:=jab (l:=q) (k:=n) (by omega)
 have hx':=jad D.i hx
 refine xA (jhz node t l hlen hl sv x x) ?_
 refine xC ?_ ?_<;>intro hc
 ·(
 have hcf:cnf26 node t l sv x x=false:=jau hc
 iterate 10 refine zW ?_
 rw [jcf hx,finGo,qe (by rw [hcf];decide)] at hI
 refine ⟨(n:Int) - 1,⟨by omega,hI⟩,by omega,zWk⟩)
 ·(
 have hcf:cnf26 node t l sv x x=true:=jat hc
 rw [jcf hx,finGo,qf hcf] at hI
 iterate 17 refine zW ?_
 refine jag [0,2,3,5,11,13] [.box b5 _ _] (fun (i:Int) (f:Int) r=>(14,.i f)::(15,.i i)::r) (fun i f r=>r) (fun i f=>(-1≤i∧i<(q.length:Int))∧finLow node t l sv x (rvP q i) f=finLow node t l sv x (rvP q ((n:Int) - 1)) x) (fun i f=>(i+1).toNat) (((n:Int) - 1)) (x) zRc ⟨by omega,rfl⟩ (zWk) ?_
 intro i f ⟨⟨hi1,hi2⟩,hJ⟩
 obtain ⟨y,hy⟩:=juN q i
 iterate 2 refine zW ?_
 refine zDr [] ?_
 refine zT 0 ?_;refine zT 1 ?_;refine zT 2 ?_
 refine jai 2 rfl (fun hg=>?_) fun hg=>?_
 rotate_left
 case' _ =>(
 refine zK 3 ?_;refine zK 4 ?_;refine zK 5 ?_;refine zK 6 ?_;refine zK 7 ?_;refine zK 8 ?_;refine zK 9 ?_;refine zK 10 ?_;refine zK 11 ?_;refine zK 12 ?_;refine zT 13 ?_
 refine zW ?_)
 rotate_right
 case' _ =>(
 refine zT 3 ?_;refine zT 4 ?_;refine zT 5 ?_;refine zT 6 ?_;refine zT 7 ?_;refine zT 8 ?_
 refine jan 9 rfl zGd zKr zKr zKr (AP.ar (jam (k:=i.toNat) rfl rfl rfl rfl (by decide) (by have h9:decide (i≥0)=true:=(by first | with_reducible assumption | exact hg | exact hc);have:=qc h9;omega) (jad D.i (hy (by have h9:decide (i≥0)=true:=(by first | with_reducible assumption | exact hg | exact hc);have:=qc h9;omega) (by omega))))) rfl rfl ?_
 refine zT 10 ?_;refine zT 11 ?_;refine zOn 12 ?_
 refine xA (jhz node t l hlen hl sv y x) ?_
 refine zW ?_
 refine zT 13 ?_
 refine zW ?_)
 all_goals (
 refine xC ?_ ?_<;>intro hc
 ·(
 first
 | (exact xQ hc)
 |(
 have hi0:0≤i:=qc (by first | with_reducible assumption | exact hg:decide (i≥0)=true)
 obtain ⟨n2,hn2⟩:=qz hi0
 have hyy:q[i.toNat]?=some y:=hy hi0 (by omega)
 have hcy:cnf26 node t l sv y x=true:=hc
 iterate 7 refine zW ?_
 refine zP (jam (k:=i.toNat) rfl rfl rfl rfl (by decide) (by omega) (jad D.i hyy)) ?_
 iterate 11 refine zW ?_
 rw [hn2] at hJ ⊢
 have hyn:q[n2]?=some y:=by rw [hn2,qr] at hyy;exact hyy
 rw [jcf hyn,finLow,qf hcy] at hJ
 refine ⟨(n2:Int) - 1,y,⟨by omega,hJ⟩,by omega,zWk⟩))
 ·(
 first
 | (exact xQ hc)
 |(
 have hfl:finLow node t l sv x (rvP q ((n:Int) - 1)) x=f:=by
  rw [← hJ]
  first
  | (have h9:decide (i≥0)=false:=(by first | with_reducible assumption | exact hg);have:=qd h9;rw [jgv q (by omega)];rfl)
  | (have h9:decide (i≥0)=true:=(by first | with_reducible assumption | exact hg);have h8:=qc h9;have h7:=hy h8 (by omega);obtain ⟨n2,rfl⟩:=qz h8;rw [qr] at h7;rw [jcf h7,finLow,qe (by rw [show cnf26 node t l sv y x=false from hc];decide)])
 rw [hfl] at hI
 refine xP ?_
 rw [← hI];rfl)))))
 ·(
 have hneg:j<0:=by have:=qd hc;omega
 rw [jgv q hneg] at hI
 refine xP ?_
 rw [← hI];rfl)
theorem jpf (node:Int) (t:Trust) (l:List Evp) (hlen:l.length≤100) (hl:∀ e∈l,sizeT e.t≤1000000000) (p p2:Bal):C0 264 [.i node,av t,.sl 15 (l.map ev),bv p,bv p2] (.tup [.v (.string (firstV node t l p p2).1),.i (firstV node t l p p2).2.1,.i (firstV node t l p p2).2.2.1,.b (firstV node t l p p2).2.2.2]):=by
 refine xI Tryz.func264 Tryz.call264 fun hcap=>?_
 refine xX fun b6=>?_
 refine zBx fun b8=>?_
 refine zBx fun b9=>?_
 refine xL fun b14=>?_
 refine xB (jma l hlen hl) ?_;rintro _ _ ⟨rfl,rfl⟩;obtain ⟨vs,hvs⟩:∃ vs,vs=valuesV l:=⟨_,rfl⟩;rw [← hvs];have hvm:(vs.map strv).length=vs.length:=(by simp)
 refine zLn fun _=>?_
 iterate 4 refine zW ?_
 refine jag [0,2,6,8,9,14,25,26] [.box b9 _ _,.box b8 _ _,.box b6 _ _] (fun (k:Nat) (b:Bal) r=>(27,.i (k:Int))::r) (fun k b r=>.box b14 53 [.i b.n,.v (.string b.v)]::r) (fun k b=>k≤vs.length∧bestS node t l p p2 (vs.drop k) b=bestV node t l p p2) (fun k b=>vs.length - k) (0) (Bal.none) zRc ⟨by omega,by rw [hvs];rfl⟩ (zWk) ?_
 intro k b ⟨hk,hI⟩
 refine xC ?_ ?_<;>intro hc
 ·(
 have hlt:=qc hc
 obtain ⟨s,hs,hd⟩:=jab (l:=vs) (k:=k) (by omega)
 have hs':=jad strv hs
 refine xB (jbT l hlen hl s) ?_;rintro _ _ ⟨rfl,rfl⟩;obtain ⟨qb,hqb⟩:∃ q,q=boundsV l s:=⟨_,rfl⟩;rw [← hqb];have hqm:(qb.map D.i).length=qb.length:=(by simp)
 refine zLn fun _=>?_
 iterate 4 refine zW ?_
 refine jag [0,2,6,8,9,14,16,25,26,27,33,34] [.box b9 _ _,.box b8 _ _,.box b6 _ _] (fun (j:Nat) (b:Bal) r=>(35,.i (j:Int))::r) (fun j b r=>.box b14 53 [.i b.n,.v (.string b.v)]::r) (fun j b=>j≤qb.length∧bestS node t l p p2 (vs.drop (k+1)) (bestN node t l p p2 s (qb.drop j) b)=bestV node t l p p2) (fun j b=>qb.length - j) (0) (b) zRc ⟨by omega,by rw [hd] at hI;simp only [bestS] at hI;rw [hqb];exact hI⟩ (zWk) ?_
 intro j b ⟨hj,hJ⟩
 refine xC ?_ ?_<;>intro hc
 ·(
 have hlt2:=qc hc
 obtain ⟨x,hx,hdj⟩:=jab (l:=qb) (k:=j) (by omega)
 have hx':=jad D.i hx
 refine xL fun b19=>?_
 refine xA (jcJ b ⟨x,s⟩) ?_
 refine zW ?_
 iterate 4 all_goals first | refine zW ?_ | refine xG ?_ ?_<;>intro hg
 all_goals first | (refine zY ?_;refine jaa zRc (jk6 p p2 x s) rfl rfl ?_) | refine zSk ?_
 iterate 8 all_goals first | refine zW ?_ | refine xG ?_ ?_<;>intro hg
 all_goals first | (refine zY ?_;refine jaa zRc (jdt node t l hlen hl s x x) rfl rfl ?_) | refine zSk ?_
 all_goals refine zW ?_
 all_goals (
 refine xC ?_ ?_<;>intro hc
 ·(
 first
 | (exact xQ hc)
 |(
 have hcn:(lB b ⟨x,s⟩&&(freeV p p2 x s&&acc26 node t l s x x))=true:=by first | (simp_all;done) | grind
 have mk60t:True:=trivial
 iterate 11 refine zW ?_
 rw [hdj] at hJ;simp only [bestN] at hJ
 have h9:=mk60t;rw [qf hcn] at hJ;refine ⟨j+1,⟨x,s⟩,⟨by omega,hJ⟩,by omega,zWk⟩))
 ·(
 first
 | (exact xQ hc)
 |(
 have hcn:(lB b ⟨x,s⟩&&(freeV p p2 x s&&acc26 node t l s x x))=false:=by first | (simp_all;done) | grind
 have mk60f:True:=trivial
 iterate 8 refine zW ?_
 rw [hdj] at hJ;simp only [bestN] at hJ
 first
 | (have h9:=mk60t;rw [qf hcn] at hJ;refine ⟨j+1,⟨x,s⟩,⟨by omega,hJ⟩,by omega,zWk⟩)
 | (have h9:=mk60f;rw [qe (by rw [hcn];decide)] at hJ;refine ⟨j+1,b,⟨by omega,hJ⟩,by omega,zWk⟩)))))
 ·(
 have hge2:=qd hc
 iterate 11 refine zW ?_
 rw [jac (l:=qb) (k:=j) (by omega)] at hJ;simp only [bestN] at hJ
 refine ⟨k+1,b,⟨by omega,hJ⟩,by omega,zWk⟩))
 ·(
 have hge:=qd hc
 rw [jac (by omega)] at hI;simp only [bestS] at hI
 refine xA (jaJ b) ?_
 refine xC ?_ ?_<;>intro hc
 ·(
 have hbz:zB b=true:=hc
 refine xP ?_
 unfold firstV;rw [← hI,qf hbz];rfl)
 ·(
 have hbz:zB b=false:=hc
 refine xB (jbT l hlen hl b.v) ?_;rintro _ _ ⟨rfl,rfl⟩;obtain ⟨q,hq⟩:∃ q,q=boundsV l b.v:=⟨_,rfl⟩;rw [← hq];have hqm:(q.map D.i).length=q.length:=(by simp)
 refine xN fun _=>?_
 iterate 5 refine zW ?_
 refine jag [0,2,6,8,9,14,21] [.box b14 _ _,.box b9 _ _,.box b8 _ _,.box b6 _ _] (fun (i:Int) (f:Int) r=>(20,.i f)::(22,.i i)::r) (fun i f r=>r) (fun i f=>(-1≤i∧i<(q.length:Int))∧lowGo (fun n=>freeV p p2 n b.v&&acc26 node t l b.v n b.n) (rvP q i) f=lowGo (fun n=>freeV p p2 n b.v&&acc26 node t l b.v n b.n) q.reverse b.n) (fun i f=>(i+1).toNat) (((q.length:Int) - 1)) (b.n) zRc ⟨by omega,by rw [jih]⟩ (by rw [hqm];exact (zWk)) ?_
 intro i f ⟨⟨hi1,hi2⟩,hL⟩
 refine xC ?_ ?_<;>intro hc
 ·(
 obtain ⟨n,rfl⟩:=qz (show 0≤i from qc (hc))
 obtain ⟨x,hx,_⟩:=jab (l:=q) (k:=n) (by omega)
 have hx':=jad D.i hx
 refine xC ?_ ?_<;>intro hc
 ·(
 have hge:x≥f:=qc hc
 have mk85t:True:=trivial
 iterate 10 refine zW ?_
 rw [jcf hx,lowGo] at hL
 have h9:=mk85t;rw [qf hge] at hL;refine ⟨(n:Int) - 1,f,⟨by omega,hL⟩,by omega,zWk⟩)
 ·(
 have hge:¬ x≥f:=qd hc
 refine xA (jk6 p p2 x b.v) ?_
 iterate 2 refine zW ?_
 iterate 8 all_goals first | refine zW ?_ | refine xG ?_ ?_<;>intro hg
 all_goals first | (refine zY ?_;refine jaa zRc (jdt node t l hlen hl b.v x b.n) rfl rfl ?_) | refine zSk ?_
 iterate 2 all_goals refine zW ?_
 all_goals (
 refine xC ?_ ?_<;>intro hc
 ·(
 first
 | (exact xQ hc)
 |(
 have hok:(freeV p p2 x b.v&&acc26 node t l b.v x b.n)=false:=by first | (simp_all;done) | grind
 rw [jcf hx,lowGo,qe hge,qe (by rw [hok];decide)] at hL
 iterate 8 refine zW ?_
 refine zDr [] ?_
 refine zT 0 ?_;refine zT 1 ?_;refine zT 2 ?_;refine zT 3 ?_;refine zT 4 ?_;refine zT 5 ?_;refine zT 6 ?_;refine zT 7 ?_;refine zT 8 ?_
 refine zW ?_
 all_goals (
 refine xP ?_
 unfold firstV;rw [← hI,qe (by rw [hbz];decide),← hq,← hL];rfl)))
 ·(
 first
 | (exact xQ hc)
 |(
 have hok:(freeV p p2 x b.v&&acc26 node t l b.v x b.n)=true:=by first | (simp_all;done) | grind
 iterate 14 refine zW ?_
 rw [jcf hx,lowGo] at hL
 rw [qe hge,qf hok] at hL;refine ⟨(n:Int) - 1,x,⟨by omega,hL⟩,by omega,zWk⟩)))))
 ·(
 have hneg:i<0:=by have:=qd hc;omega
 rw [jgv q hneg] at hL;simp only [lowGo] at hL
 iterate 6 refine zW ?_
 refine zDr [] ?_
 refine zT 0 ?_;refine zT 1 ?_;refine zT 2 ?_;refine zT 3 ?_;refine zT 4 ?_;refine zT 5 ?_;refine zT 6 ?_;refine zT 7 ?_;refine zT 8 ?_
 refine zW ?_
 all_goals (
 refine xP ?_
 unfold firstV;rw [← hI,qe (by rw [hbz];decide),← hq,← hL];rfl))))
theorem juf (l:List Bal) (hlen:l.length≤1000):C0 214 [.sl 2 (l.map bv)] (bv (grM l)):=by
 refine xI Tryz.func214 Tryz.call214 fun hcap=>?_
 have hml:(l.map bv).length=l.length:=by simp
 refine xL fun b2=>?_
 refine xL fun b3=>?_
 refine xN fun _=>?_
 iterate 4 refine zW ?_
 refine jag [2,3,6,7] [.box b2 _ _] (fun (k:Nat) (b:Bal) r=>(8,.i (k:Int))::r) (fun k b r=>.box b3 53 [.i b.n,.v (.string b.v)]::r) (fun k b=>k≤l.length∧(k=0→b=Bal.none)∧(0<k→grGo b (l.drop k)=grM l)) (fun k b=>l.length - k) (0) (Bal.none) zRc ⟨by omega,fun _=>rfl,fun h=>by omega⟩ (zWk) ?_
 intro k b ⟨hk,h0,hI⟩
 refine xC ?_ ?_<;>intro hc
 ·(
 have hlt:=qc hc
 obtain ⟨x,hx,hd⟩:=jab (l:=l) (k:=k) (by omega)
 have hx':=jad bv hx
 refine xL fun b5=>?_
 iterate 9 refine zW ?_
 iterate 2 all_goals first | refine zW ?_ | refine xG ?_ ?_<;>intro hg
 all_goals first | (refine zY ?_;refine jaa zRc (jcJ b x) rfl rfl ?_) | refine zSk ?_
 all_goals refine zW ?_
 all_goals (
 refine xC ?_ ?_<;>intro hc
 ·(
 first
 | (exact xQ hc)
 |(
 iterate 11 refine zW ?_
 first
 | (have hk0:=qc (show decide ((k:Int)=0)=true by first | with_reducible assumption | exact hg);obtain rfl:k=0:=(by omega);refine ⟨0+1,x,⟨by omega,fun h=>by omega,fun _=>?_⟩,by omega,zWk⟩;rw [List.drop_zero] at hd;rw [hd];rfl)
 | (have hk0:=qd (show decide ((k:Int)=0)=false by first | with_reducible assumption | exact hg);have hl9:lB b x=true:=(by first | with_reducible assumption | exact hc);have hI2:=hI (by omega);rw [hd] at hI2;simp only [grGo] at hI2;rw [qf hl9] at hI2;refine ⟨k+1,x,⟨by omega,fun h=>by omega,fun _=>hI2⟩,by omega,zWk⟩)))
 ·(
 first
 | (exact xQ hc)
 |(
 iterate 8 refine zW ?_
 have hk0:=qd (show decide ((k:Int)=0)=false by first | with_reducible assumption | exact hg);have hl9:lB b x=false:=(by first | with_reducible assumption | exact hc);have hI2:=hI (by omega);rw [hd] at hI2;simp only [grGo] at hI2;rw [qe (by rw [hl9];decide)] at hI2;refine ⟨k+1,b,⟨by omega,fun h=>by omega,fun _=>hI2⟩,by omega,zWk⟩))))
 ·(
 have hge:=qd hc
 refine xP ?_
 have hF:b=grM l:=by
  rcases Nat.eq_zero_or_pos k with h | h
  ·rw [h0 h];cases l with
   | nil=>rfl
   | cons y r=>simp at hge hml;omega
  ·have:=hI h;rw [List.drop_eq_nil_of_le (by omega)] at this;exact this
 rw [← hF];rfl)
def lowK (v:Str) (fr:Int) (p q:Bal) (k:Nat):Int:=if k=0 then max fr 1 else if k=1 then low1 v (max fr 1) p else lowestV v fr p q
theorem jx9 (v:Str) (fr:Int) (p q:Bal) {k:Nat} (h:k<2):∃ x:Bal,SubL [D.i p.n,D.v (.string p.v),D.i q.n,D.v (.string q.v)] (k * 2) 2 [D.i x.n,D.v (.string x.v)]∧low1 v (lowK v fr p q k) x=lowK v fr p q (k+1):=by
 have:k=0∨k=1:=by omega
 rcases this with rfl | rfl
 ·exact ⟨p,by repeat constructor,rfl⟩
 ·exact ⟨q,by repeat constructor,rfl⟩
theorem jxJ {b:Bal} (h:vB b=true):1≤b.n∧b.n≤1000000:=by
 simp only [vB,qh,Bool.or_eq_true,qm] at h
 omega
theorem jcw (v:Str) (fr:Int) (p q:Bal):C0 262 [.v (.string v),.i fr,bv p,bv q] (.i (lowestV v fr p q)):=by
 refine xI Tryz.func262 Tryz.call262 fun hcap=>?_
 refine xX fun b6=>?_
 refine zBx fun b7=>?_
 iterate 20 refine zW ?_
 refine jag [0,16] [] (fun (k:Nat) (m:Int) r=>(9,.i m)::(17,.i (k:Int))::r) (fun k m r=>r) (fun k m=>k≤2∧m=lowK v fr p q k) (fun k m=>2 - k) (0) (max fr 1) zRc ⟨by omega,rfl⟩ (zWk) ?_
 intro k m ⟨hk,hm⟩
 refine xC ?_ ?_<;>intro hc
 ·(
 have hlt:=qc hc
 obtain ⟨x,hsx,hlx⟩:=jx9 v fr p q (k:=k) (by omega)
 iterate 6 refine zW ?_
 refine zP (jla (k:=k) rfl rfl rfl rfl rfl rfl (by omega) hsx) ?_
 refine zAl fun b11=>?_
 refine xA (jdh x) ?_
 refine zW ?_
 iterate 4 all_goals first | refine zW ?_ | refine xG ?_ ?_<;>intro hg
 all_goals first | (refine zY ?_;refine jaa zRc (jeS x ⟨m,v⟩) rfl rfl ?_) | refine zSk ?_
 all_goals refine zW ?_
 all_goals (
 refine xC ?_ ?_<;>intro hc
 ·(
 first
 | (exact xQ hc)
 |(
 have h28:(vB x&&abB x ⟨m,v⟩)=true:=by first | (simp_all;done) | grind
 have hxn:=jxJ (b:=x) (by rw [qh] at h28;exact h28.1)
 refine xA (jeS x ⟨x.n,v⟩) ?_
 refine xC ?_ ?_<;>intro hc
 ·(
 have h35:abB x ⟨x.n,v⟩=true:=hc
 have mk35t:True:=trivial
 iterate 12 refine zW ?_
 rw [← hm] at hlx
 have h9:=mk35t;rw [show low1 v m x=x.n+1 from by unfold low1;rw [qf h28,qf h35]] at hlx;refine ⟨k+1,x.n+1,⟨by omega,hlx⟩,by omega,zWk⟩)
 ·(
 have h35:abB x ⟨x.n,v⟩=false:=hc
 have mk35f:True:=trivial
 iterate 8 refine zW ?_
 rw [← hm] at hlx
 have h9:=mk35f;rw [show low1 v m x=x.n from by unfold low1;rw [qf h28,qe (by rw [h35];decide)]] at hlx;refine ⟨k+1,x.n,⟨by omega,hlx⟩,by omega,zWk⟩)))
 ·(
 first
 | (exact xQ hc)
 |(
 have h28:(vB x&&abB x ⟨m,v⟩)=false:=by first | (simp_all;done) | grind
 have mk28f:True:=trivial
 iterate 8 refine zW ?_
 rw [← hm] at hlx
 first
 | (have h9:=mk35t;rw [show low1 v m x=x.n+1 from by unfold low1;rw [qf h28,qf h35]] at hlx;refine ⟨k+1,x.n+1,⟨by omega,hlx⟩,by omega,zWk⟩)
 | (have h9:=mk35f;rw [show low1 v m x=x.n from by unfold low1;rw [qf h28,qe (by rw [h35];decide)]] at hlx;refine ⟨k+1,x.n,⟨by omega,hlx⟩,by omega,zWk⟩)
 | (have h9:=mk28f;rw [show low1 v m x=m from by unfold low1;rw [qe (by rw [h28];decide)]] at hlx;refine ⟨k+1,m,⟨by omega,hlx⟩,by omega,zWk⟩)))))
 ·(
 have hge:=qd hc
 refine xP ?_;refine (icl ?_)
 obtain rfl:k=2:=by omega
 exact hm)
theorem jsb (h:m.phase=1) (h2:(!zB m.conf&&cB m.conf m.bal)=true):envR m=⟨m.node,m.slot,m.seq,m.t,m.phase,m.bal,m.prep,m.prime,m.low,m.conf.n⟩:=by simp [envR,h,h2]
theorem jwu (h:m.phase=1) (h2:(!zB m.conf&&cB m.conf m.bal)=false):envR m=⟨m.node,m.slot,m.seq,m.t,m.phase,m.bal,m.prep,m.prime,m.low,0⟩:=by simp [envR,h,h2]
theorem juj (h:¬ m.phase=1) (h2:m.phase=2):envR m=⟨m.node,m.slot,m.seq,m.t,m.phase,m.bal,m.prep,Bal.none,m.low,m.high⟩:=by simp [envR,h2]
theorem juD (h:¬ m.phase=1) (h2:¬ m.phase=2):envR m=⟨m.node,m.slot,m.seq,m.t,m.phase,m.bal,Bal.none,Bal.none,m.low,m.high⟩:=by simp [envR,h,h2]
end Go.Proofs.YtgmpjpaekpefdaaGreat
