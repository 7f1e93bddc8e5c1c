/- Words that are read, by the program. -/
import Derived.Test.YtimdocpnkimlfaaGreatDoorSA
import Derived.Test.YtimdocpnkimlfaaGreatDoorEM
set_option linter.unusedVariables false
set_option linter.unusedSimpArgs false
set_option maxRecDepth 100000
open Option renaming some→I,getD_some→Ea,none→Hy,map_some→N5
open List renaming length_cons→Eb,getElem?_eq_getElem→Ec,length_append→Ek,length_drop→En,drop_eq_nil_of_le→Gc,length_take→Hz,length→H2,length_map→Ib,length_singleton→If,drop_eq_nil_iff→Jg,drop_left'→N1,map_append→N4,drop_drop→N7,drop_zero→N9,map_cons→Oc,map_nil→Od
open Nat renaming le_refl→E3,zero_add→Jq
open Bool renaming true→Ga,false→Hb
open Int renaming lt_irrefl→Ha
namespace Go.Z
open Go Go.Abs Go.W
theorem jef (w:List UInt8)(g:Bool):B5 w g=I (match kw w with|none=>(0,Hb)|some v=>(v,g)):=by
 unfold B5
 rw[Rl,qi]
 cases kw w<;>cases g<;>rfl
theorem q1s {a0:Option (List (List UInt8))}{L:List (List UInt8)}(hL:a0.getD []=L)(hl:L.length≤1000000):∀(k i:Nat) (o:Option (List Int)) (g fl:Bool),i+k=L.length→(o.getD []).length≤i→(fl=Ga∨o=Hy) →
  ∃o' kV,bq (uc a0) (o,(i:Int),g,fl)=I (o',kV,(L.length:Int),g&&(kh (L.drop i)).isSome)∧∀l,kh (L.drop i)=I l→o'.getD []=o.getD []++l
 |0,i,o,g,fl,hi,lB,hf=>by
  obtain rfl:i=L.length:=by omega
  rw[Gc (E3 _)]
  refine⟨o,fl,jq ?_,fun l hl=>by cases hl;simp⟩
  unfold uc
  rw[hL]
  simp only[Ha,decide_false,cond_false]
  simp[kh]
 |k+1,i,o,g,fl,hi,lB,hf=>by
  have aC:i<L.length:=by omega
  have h2:((i:Int)<(L.length:Int)):=by omega
  have hx:jn L (i:Int)=I L[i]:=by rw[y4,Ec aC]
  have hw:qh .i64 ((i:Int)+1)=((i+1:Nat):Int):=yi (by omega)
  obtain⟨v,g',hv,hg⟩:∃v g',B5 L[i] g=I (v,g')∧(g'=(g&&(kw L[i]).isSome)∧∀x,kw L[i]=I x→v=x):=by
   rw[jef]
   cases kw L[i]with
   |none=>exact⟨0,Hb,rfl,by simp,fun x hx=>by cases hx⟩
   |some x=>exact⟨x,g,rfl,by simp,fun y hy=>by cases hy;rfl⟩
  have gy:=sT (x:=v) (o:=o) (by omega)
  obtain⟨o',kV,h3,h4⟩:=q1s hL hl k (i+1) (I (o.getD []++[v])) g' Ga (by omega) (by simp;omega) (.inl rfl)
  refine⟨o',kV,?_,?_⟩
  ·rw[z6 (s':=(I (o.getD []++[v]),((i+1:Nat):Int),g',Ga)),h3]
   ·rw[mR aC,hg.1]
    simp only[kh]
    cases kw L[i]with
    |none=>simp
    |some x=>cases kh (L.drop (i+1))<;>simp
   ·unfold uc
    rw[hL]
    simp only[h2,decide_true,cond_true,hx,qi,hv,gy,hw]
    rcases hf with rfl|rfl
    ·rfl
    ·cases fl<;>rfl
  ·intro l hn
   rw[mR aC]at hn
   simp only[kh]at hn
   cases hx:kw L[i]with
   |none=>rw[hx]at hn;cases hn
   |some x=>
    rw[hx]at hn
    cases hr:kh (L.drop (i+1))with
    |none=>rw[hr]at hn;cases hn
    |some t=>
     rw[hr]at hn
     cases hn
     rw[h4 t hr,hg.2 x hx];simp
theorem jfd {a0:Option (List (List UInt8))}(hl:(a0.getD []).length≤1000000):∃o fl,Fv a0 Ga=I (o,fl,(kh (a0.getD [])).isSome)∧∀l,kh (a0.getD [])=I l→o.getD []=l:=by
 obtain⟨o,fl,h1,h2⟩:=q1s (a0:=a0) rfl hl _ 0 Hy Ga Hb (Jq _) (E3 _) (.inr rfl)
 refine⟨o,fl,?_,fun l h=>by simpa using h2 l h⟩
 unfold Fv
 rw[show bq (uc a0) (Hy,0,Ga,Hb)=_ from h1,qi]
 simp
end Go.Z
namespace Go.Z
open Go Go.Abs Go.W
theorem qz6:∀ x∈ey,x.2.1≤10∧x.2.2≤10:=by decide
theorem FR {k f}(h:ln k=I f):f.1≤10∧f.2≤10:=qz6 _ (qru h)
theorem jes {a:Option (List (List UInt8))}(h:(a.getD []).length≤1000000):∃o fl,B4 a=I (o,fl)∧o.getD []=a.getD []:=by
 unfold B4
 cases a with
 |none=>exact⟨Hy,Hb,rfl,rfl⟩
 |some l=>
  have:cK (I []) l=I (I l):=ZZ (by simp only[Ea]at h;unfold SM;omega)
  refine⟨I l,Ga,?_,rfl⟩
  simp only[Option.isNone_some,cond_false,Ea]
  rw[this,qi]
theorem jeq {a0:Option (List (List UInt8))}{n:Int}{k:List UInt8}{r:List (List UInt8)}(h:a0=I (k::r))(hl:r.length≤100000):∃e b,Fw a0 n=I (e,b)∧(match lu (k::r) n with|none=>b=Hb|some x=>b=Ga∧e.er=x):=by
 subst h
 have hx:jn ((I (k::r)).getD []) 0=I k:=rfl
 unfold Fw
 rw[hx,qi]
 rcases qr1 k with⟨h1,h2⟩|⟨f,h1,h2,h3⟩
 ·have hi:pi k=Hb:=by unfold pi;rw[h1];rfl
  rw[hi,cond_false]
  exact⟨_,_,rfl,by simp only[lu,h2]⟩
 ·have hi:pi k=Ga:=by unfold pi;rw[h1];rfl
  have hr:ph k=f.2.1:=by unfold ph;rw[h1]
  have hv:su k=f.2.2.1:=by unfold su;rw[h1]
  have hs:=FR h2
  have hk:k≠[]:=(q6u _ (qru h2)).1
  simp only[]at hs
  rw[hi,cond_true,hr,hv,jx (x:=1+(f.2.1.length:Int)) (by omega) (by omega),jx (x:=1+(f.2.1.length:Int)+f.2.2.1) (by omega) (by omega)]
  simp only[Ea,Eb]
  by_cases hc:r.length=f.2.1.length+f.2.2.1.toNat
  ·rw[decide_eq_true (show((r.length+1:Nat):Int)=1+(f.2.1.length:Int)+f.2.2.1 by omega),cond_true,jh4 (by simp only[Ea,Eb];unfold SM;omega),qi]
   have he:((I (k::r)).getD []).any (fun x=>decide (([]:List UInt8)=x))=decide ([]∈r):=by
    simp only[Ea,List.any_cons,decide_eq_false (show ¬([]:List UInt8)=k from fun e=>hk e.symm),Bool.false_or]
    by_cases hm:([]:List UInt8)∈r
    ·rw[decide_eq_true hm,List.any_eq_true];exact⟨[],hm,by simp⟩
    ·rw[decide_eq_false hm,List.any_eq_false];intro x hx;simp only[decide_eq_true_eq];rintro rfl;exact hm hx
   rw[he]
   by_cases hm:([]:List UInt8)∈r
   ·rw[decide_eq_true hm,cond_true]
    refine⟨_,_,rfl,?_⟩
    simp only[lu,h2,hc,hm,not_true,and_false,if_false]
   ·rw[decide_eq_false hm,cond_false]
    have hA:rA (I (k::r)) (I 1) (I (1+(f.2.1.length:Int)))=I (I (r.take f.2.1.length)):=by
     simp only[rA,Ea,kc,jX]
     rw[if_pos ⟨by omega,by simp only[Eb];omega⟩]
     simp only[]
     rw[if_pos ⟨by omega,by omega⟩]
     rw[show(1+(f.2.1.length:Int)).toNat=f.2.1.length+1 by omega];rfl
    have hB:rA (I (k::r)) (I (1+(f.2.1.length:Int))) Hy=I (I (r.drop f.2.1.length)):=by
     simp only[rA,Ea,kc,jX]
     rw[if_pos ⟨by omega,by simp only[Eb];omega⟩]
     rw[show(1+(f.2.1.length:Int)).toNat=f.2.1.length+1 by omega,List.take_length];rfl
    obtain⟨o1,b1,g1,g2⟩:=jes (a:=I (r.take f.2.1.length)) (by simp only[Ea,Hz];omega)
    obtain⟨o2,b2,g3,g4⟩:=jfd (a0:=I (r.drop f.2.1.length)) (by simp only[Ea,En];omega)
    rw[hA,qi,g1,qi,hB,qi,g3,qi]
    simp only[Ea]at g2 g4
    simp only[Ea,lu,h2,hc,hm,not_false_eq_true,and_true,if_true]
    cases hn:kh (r.drop f.2.1.length)with
    |none=>cases b2<;>exact⟨_,_,rfl,rfl⟩
    |some vs=>
     have:=g4 vs hn
     cases b2<;>exact⟨_,_,rfl,rfl,by simp only[aT.er,g2,this]⟩
  ·rw[decide_eq_false (show ¬((r.length+1:Nat):Int)=1+(f.2.1.length:Int)+f.2.2.1 by omega),cond_false]
   refine⟨_,_,rfl,?_⟩
   simp only[lu,h2,hc,false_and,if_false]
end Go.Z
namespace Go.Z
open Go Go.Abs Go.W
theorem jju {s:List UInt8}{c:UInt8}(h:s.length≤1000000000):f44 s [c]=I (I (dz c s)):=by
 simp only[f44]
 rw[Nat.blt_eq.mpr (show s.length<4294967281 by omega),cond_true]
theorem jep {s:List UInt8}(hs:s.length≤90000):∃e b,Fx s=I (e,b)∧(match pO s with|none=>b=Hb|some x=>b=Ga∧e.er=x):=by
 unfold Fx
 rcases E7 32 s with h|⟨a,b,rfl,h⟩
 ·rw[q64 h,qi,Rl,qi]
  refine⟨_,_,rfl,?_⟩
  simp only[pO,nX h]
  cases kw s with
  |none=>exact trivial
  |some n=>exact trivial
 ·have hb:b.length≤90000:=by simp only[Ek,Eb]at hs;omega
  rw[q6w h (by omega),qi,Rl,qi]
  simp only[pO,rD h,cond_true]
  cases hn:kw a with
  |none=>exact⟨_,_,rfl,rfl⟩
  |some n=>
   simp only[cond_true]
   rw[jju (by omega),qi]
   cases iK:dz 32 b with
   |nil=>exact absurd iK (wq 32 b)
   |cons k r=>
    have hr:r.length≤100000:=by have:=q0x 32 b;rw[iK]at this;simp only[Eb]at this;omega
    obtain⟨e,t,h1,h2⟩:=jeq (n:=n) (rfl:I (k::r)=I (k::r)) hr
    rw[h1,qi]
    cases hw:lu (k::r) n with
    |none=>
     rw[hw]at h2
     simp only[]at h2 ⊢
     rw[h2]
     exact⟨_,_,rfl,rfl⟩
    |some x=>
     rw[hw]at h2
     simp only[]at h2 ⊢
     obtain⟨f,g1,g2,g3⟩:=(Rr hw).2.2.2.1
     have hf:=FR g1
     have e1:e.names.getD []=x.names:=by rw[←h2.2];rfl
     have e2:e.values.getD []=x.values:=by rw[←h2.2];rfl
     rw[h2.1,cond_true,q44 (by rw[e1];unfold SM;omega) (by rw[e2];unfold SM;omega),qi,h2.2]
     refine⟨_,_,rfl,?_⟩
     by_cases hc:zu x=0
     ·simp only[hc,if_true,decide_true,true_and];exact h2.2
     ·simp only[hc,if_false,decide_false]
theorem jiv {s:List UInt8}{n:Nat}(hs:s.length≤90000)(hn:n≤1000000):∃e k,f85 s (n:Int)=I (e,k)∧(match mT s n with | .error c=>k=c | .ok x=>k=0∧e.er=x):=by
 unfold f85 mT
 rw[jx (x:=(s.length:Int)-8) (by omega) (by omega)]
 by_cases h8:s.length<8
 ·rw[decide_eq_true (show(s.length:Int)-8<0 by omega),cond_true,if_pos h8]
  exact⟨_,_,rfl,rfl⟩
 ·rw[decide_eq_false (show ¬(s.length:Int)-8<0 by omega),cond_false,if_neg h8]
  have aC:s.length-8<s.length:=by omega
  have ht:(s.take (s.length-8)).length≤90000:=by rw[Hz];omega
  rw[show(s.length:Int)-8=((s.length-8:Nat):Int) by omega,wK aC,qi,jx (x:=((s.length-8:Nat):Int)+1) (by omega) (by omega),show((s.length-8:Nat):Int)+1=((s.length-7:Nat):Int) by omega,wN (by omega),Ec aC]
  by_cases du:s[s.length-8]=35
  ·have lX:((s[s.length-8].toNat:Int)=35):=by rw[du];rfl
   rw[decide_eq_true lX,cond_true,qi,je7,qi]
   cases hd:(s.drop (s.length-7)).all yp with
   |false=>
    rw[if_pos (.inr rfl)]
    exact⟨_,_,rfl,rfl⟩
   |true=>
    rw[if_neg (by simp[du])]
    simp only[Bool.not_true,cond_false]
    rw[Rn (by omega),qi,q0r (by omega),qi]
    by_cases h7:s.drop (s.length-7)=nz (eR (s.take (s.length-8)))
    ·rw[decide_eq_true h7,cond_true,if_neg (fun h=>h h7)]
     obtain⟨e,t,h1,h2⟩:=jep ht
     rw[h1,qi,vY,qi,vY,qi,jd4,qi,jx (by omega) (by omega)]
     cases hp:pO (s.take (s.length-8))with
     |none=>
      rw[hp]at h2
      simp only[]at h2
      rw[h2]
      exact⟨_,_,rfl,rfl⟩
     |some x=>
      rw[hp]at h2
      simp only[]at h2 ⊢
      have hx:e.number=x.number:=by rw[←h2.2];rfl
      rw[h2.1]
      by_cases hq:x.number=(n:Int)+1
      ·have e1:(!decide (e.number=(n:Int)+1))=Hb:=by rw[hx,hq];simp
       rw[show(if x.number≠(n:Int)+1 then(Except.error 11:Except Int cB)else .ok x)=.ok x from if_neg (fun h=>h hq)]
       simp only[e1]
       exact⟨_,_,rfl,rfl,h2.2⟩
      ·have e1:(!decide (e.number=(n:Int)+1))=Ga:=by rw[hx];simp[hq]
       rw[show(if x.number≠(n:Int)+1 then(Except.error 11:Except Int cB)else .ok x)=.error 11 from if_pos hq]
       simp only[e1]
       exact⟨_,_,rfl,rfl⟩
    ·rw[decide_eq_false h7,cond_false,if_pos h7]
     exact⟨_,_,rfl,rfl⟩
  ·have lX:¬((s[s.length-8].toNat:Int)=35):=fun e=>du (UInt8.toNat_inj.1 (by have:(35:UInt8).toNat=35:=rfl;omega))
   rw[decide_eq_false lX,cond_false,if_pos (.inl (fun e=>du (I.inj e)))]
   exact⟨_,_,rfl,rfl⟩
end Go.Z
namespace Go.Z
open Go Go.Abs Go.W
def jc2:((Option (List aT))×Bool×Int×Int)⊕((Option (List aT))×Bool×Int)→(Option (List aT))×Int×Int
 | .inl d=>(d.1,d.2.2.1,d.2.2.2)
 | .inr d=>(d.1,d.2.2,0)
def FT (t:(Option (List aT))×Int×Int)(w:List cB×Nat×Int):Prop:=(t.1.getD []).map aT.er=w.1∧t.2.1=(w.2.1:Int)∧t.2.2=w.2.2
theorem jin {s:List UInt8}(hs:s.length≤90000):∀(k a:Nat) (o:Option (List aT)) (fl:Bool),s.length≤a+k→a≤s.length→(o.getD []).length≤a→(fl=Ga∨o=Hy) →
  ∃d,bq (pC s) (o,(a:Int),fl)=I d∧FT (jc2 d) (kW (dz 10 (s.drop a)) a ((o.getD []).map aT.er)):=by
 intro k
 induction k with
 |zero=>
  intro a o fl h1 h2 h3 hf
  obtain rfl:a=s.length:=by omega
  refine⟨.inr (o,fl,(s.length:Int)),jq ?_,?_⟩
  ·unfold pC
   simp only[Ha,decide_false,cond_false]
  ·rw[Gc (E3 _),nX (by simp)]
   exact⟨rfl,rfl,rfl⟩
 |succ k ih=>
  intro a o fl h1 h2 h3 hf
  by_cases ha:a=s.length
  ·subst ha
   refine⟨.inr (o,fl,(s.length:Int)),jq ?_,?_⟩
   ·unfold pC
    simp only[Ha,decide_false,cond_false]
   ·rw[Gc (E3 _),nX (by simp)]
    exact⟨rfl,rfl,rfl⟩
  ·have aC:(a:Int)<(s.length:Int):=by omega
   have aS:s.drop a≠[]:=by
    intro e
    have:=congrArg H2 e
    rw[En,List.length_nil]at this;omega
   have hld:(s.drop a).length≤90000:=by rw[En];omega
   rcases E7 10 (s.drop a)with h|⟨x,y,he,hx⟩
   ·refine⟨.inl (o,fl,(a:Int),29),jq ?_,?_⟩
    ·unfold pC
     simp only[aC,decide_true,cond_true,wN h2,qi,q64 h,cond_false]
    ·rw[nX h]
     refine⟨rfl,rfl,?_⟩
     show(29:Int)=if s.drop a=[]then 0 else 29
     rw[if_neg aS]
   ·have hlen:x.length+y.length+1≤90000:=by rw[he]at hld;simp only[Ek,Eb]at hld;omega
    have mG:a+(x.length+y.length+1)=s.length:=by
     have:=congrArg H2 he
     simp only[En,Ek,Eb]at this;omega
    have Jm:f84 (s.drop a) [10]=I (x,y,Ga):=by rw[he];exact q6w hx (by simp only[Ek,Eb];omega)
    obtain⟨e,c,g1,g2⟩:=jiv (s:=x) (n:=(o.getD []).length) (by omega) (by omega)
    have hy:y=s.drop (a+x.length+1):=by
     have:(s.drop a).drop (x.length+1)=y:=by rw[he,show x++10::y=(x++[10])++y by simp,N1 (by simp)]
     rw[←this,N7];congr 1
    rw[he,rD hx,Rs (wq 10 y),Ib]
    cases hL:mT x (o.getD []).length with
    |error q=>
     rw[hL]at g2
     simp only[]at g2
     have hq:=Rt hL
     refine⟨.inl (o,fl,(a:Int),c),jq ?_,rfl,rfl,g2⟩
     unfold pC
     have hc:¬c=0:=by rw[g2];exact hq
     simp only[aC,decide_true,cond_true,wN h2,qi,Jm,g1,hc,decide_false,cond_false]
    |ok v=>
     rw[hL]at g2
     simp only[]at g2
     have gy:=sT (x:=e) (o:=o) (by omega)
     obtain⟨d,d1,d2⟩:=ih (a+x.length+1) (I (o.getD []++[e])) Ga (by omega) (by omega) (by simp;omega) (.inl rfl)
     refine⟨d,?_,?_⟩
     ·rw[z6 (s':=(I (o.getD []++[e]),((a+x.length+1:Nat):Int),Ga)),d1]
      unfold pC
      have hw:qh .i64 ((a:Int)+(qh .i64 ((x.length:Int)+1)))=((a+x.length+1:Nat):Int):=by
       rw[jx (x:=(x.length:Int)+1) (by omega) (by omega),jx (by omega) (by omega)];omega
      simp only[aC,decide_true,cond_true,wN h2,qi,Jm,g1,g2.1,gy,hw]
      rcases hf with rfl|rfl
      ·rfl
      ·cases fl<;>rfl
     ·rw[←hy]at d2
      simp only[Ea,N4,Oc,Od,g2.2]at d2
      exact d2
theorem q5q {s:List UInt8}(hs:s.length≤90000):∃t,f30 s=I t∧FT t (jr s):=by
 obtain⟨d,d1,d2⟩:=jin hs s.length 0 Hy Hb (by omega) (by omega) (E3 _) (.inr rfl)
 refine⟨jc2 d,?_,d2⟩
 unfold f30
 rw[decide_eq_false (show ¬(1000000:Int)<(s.length:Int) by omega),cond_false,show bq (pC s) (Hy,0,Hb)=_ from d1,qi]
 rcases d with d|d<;>rfl
end Go.Z
namespace Go.Z
open Go Go.Abs Go.W
theorem q5k {a b:Option (List Int)}{L:List Int}(ha:a.getD []=L)(hb:b.getD []=L)(hl:L.length≤1000000):∀(k i:Nat),i+k=L.length→bq (uh a b) (i:Int)=I (.inr (L.length:Int))
 |0,i,hi=>by
  obtain rfl:i=L.length:=by omega
  refine jq ?_
  unfold uh
  rw[ha]
  simp only[Ha,decide_false,cond_false]
 |k+1,i,hi=>by
  have aC:i<L.length:=by omega
  have h2:((i:Int)<(L.length:Int)):=by omega
  have hx:jn L (i:Int)=I L[i]:=by rw[y4,Ec aC]
  have hw:qh .i64 ((i:Int)+1)=((i+1:Nat):Int):=yi (by omega)
  rw[z6 (s':=((i+1:Nat):Int)),q5k ha hb hl k (i+1) (by omega)]
  unfold uh
  rw[ha,hb]
  simp only[h2,decide_true,cond_true,hx,qi,hw]
theorem jb8 {a b:Option (List Int)}(h:a.getD []=b.getD [])(hl:(a.getD []).length≤1000000):f92 a b=I Ga:=by
 unfold f92
 rw[decide_eq_true (by rw[h]),cond_true,show bq (uh a b) 0=_ from q5k (a:=a) (b:=b) rfl h.symm hl _ 0 (Jq _),qi]
theorem q6d {a b:Option (List aT)}{L M:List aT}(ha:a.getD []=L)(hb:b.getD []=M)(he:L.map aT.er=M.map aT.er)(hl:L.length≤1000000)(hs:∀e∈L,(e.names.getD []).length≤1000000∧(e.values.getD []).length≤1000000):∀(k i:Nat),i+k=L.length→bq (uk a b) (i:Int)=I (.inr (L.length:Int))
 |0,i,hi=>by
  obtain rfl:i=L.length:=by omega
  refine jq ?_
  unfold uk
  rw[ha]
  simp only[Ha,decide_false,cond_false]
 |k+1,i,hi=>by
  have aC:i<L.length:=by omega
  have hlm:L.length=M.length:=by have:=congrArg H2 he;simpa using this
  have FU:i<M.length:=by omega
  have h2:((i:Int)<(L.length:Int)):=by omega
  have hx:jn L (i:Int)=I L[i]:=by rw[y4,Ec aC]
  have hy:jn M (i:Int)=I M[i]:=by rw[y4,Ec FU]
  have hw:qh .i64 ((i:Int)+1)=((i+1:Nat):Int):=yi (by omega)
  have hq:L[i].er=M[i].er:=by
   have:=congrArg (fun l=>l[i]?) he
   simp only[List.getElem?_map,Ec aC,Ec FU,N5]at this
   exact I.inj this
  have q1:L[i].number=M[i].number:=congrArg cB.number hq
  have q2:L[i].kind=M[i].kind:=congrArg cB.kind hq
  have q3:L[i].names.getD []=M[i].names.getD []:=congrArg cB.names hq
  have q4:L[i].values.getD []=M[i].values.getD []:=congrArg cB.values hq
  have q5:L[i].text=M[i].text:=congrArg cB.text hq
  have Jn:=hs L[i] (List.getElem_mem aC)
  have e1:=q7q q3 (by have:=Jn.1;unfold SM;omega)
  have e2:=jb8 q4 Jn.2
  rw[z6 (s':=((i+1:Nat):Int)),q6d ha hb he hl hs k (i+1) (by omega)]
  unfold uk
  rw[ha,hb]
  simp only[h2,decide_true,cond_true,hx,hy,qi,hw,e1,e2,decide_eq_true q1,decide_eq_true q2,decide_eq_true q5]
theorem q8q {a b:Option (List aT)}(he:(a.getD []).map aT.er=(b.getD []).map aT.er)(hl:(a.getD []).length≤1000000)(hs:∀e∈a.getD [],(e.names.getD []).length≤1000000∧(e.values.getD []).length≤1000000):f36 a b=I Ga:=by
 have hlm:(a.getD []).length=(b.getD []).length:=by have:=congrArg H2 he;simpa using this
 unfold f36
 rw[decide_eq_true (by rw[hlm]),cond_true,show bq (uk a b) 0=_ from q6d (a:=a) (b:=b) rfl rfl he hl hs _ 0 (Jq _),qi]
end Go.Z
namespace Go.Z
open Go Go.Abs Go.W
theorem qxs:∀ l:List cB,l.length≤(ke l).length
 | []=>E3 _
 |e::l=>by
  have:=qxs l
  simp only[ke,Eb,Ek];omega
theorem q7b (s:List UInt8):(jr s).1.length≤s.length:=by
 obtain⟨l,h1,h2,h3,t,h4,h5⟩:=Jo (s:=s) (a:=0) (out:=[])
 have od:(jr s).1=l:=h1
 have:=qxs l
 have h6:=congrArg H2 h4
 simp only[Ek]at h6
 rw[od];omega
theorem jkb {s:List UInt8}{e:aT}(hs:s.length≤90000)(h1:(e.names.getD []).length≤1000000)(h2:(e.values.getD []).length≤1000000)(kE:zu e.er=0→Cl e∧(nA e.er).length≤900000):
  f29 s e=I (if jM [(jr s).2.2,zu e.er,if e.number=((jr s).1.length:Int)+1 then 0 else 11]=0 then(s++nA e.er++[10],0)else([],jM [(jr s).2.2,zu e.er,if e.number=((jr s).1.length:Int)+1 then 0 else 11])):=by
 obtain⟨t,t1,t2,t3,t4⟩:=q5q hs
 have hl:(t.1.getD []).length=(jr s).1.length:=by rw[←t2,Ib]
 have hr:=q7b s
 unfold f29
 rw[t1,qi,q44 (by unfold SM;omega) (by unfold SM;omega),qi,vY,qi,vZ (by unfold SM;simp),qi,hl,jx (by omega) (by omega),t4]
 have uZ:(if(!decide (e.number=((jr s).1.length:Int)+1))=Ga then(11:Int)else 0)=if e.number=((jr s).1.length:Int)+1 then 0 else 11:=by
  by_cases h:e.number=((jr s).1.length:Int)+1<;>simp[h]
 rw[uZ]
 by_cases hc:jM [(jr s).2.2,zu e.er,if e.number=((jr s).1.length:Int)+1 then 0 else 11]=0
 ·rw[decide_eq_true hc,cond_true,if_pos hc]
  have hk:zu e.er=0:=by
   by_cases h:zu e.er=0
   ·exact h
   ·exfalso;simp only[jM]at hc;split at hc<;>simp_all
  obtain⟨g,hg⟩:=kE hk
  rw[jjq g.num g.vals g.l1 g.l2 (by have:=g.lb;omega),qi,mS (by simp only[Ek,If];omega),qi,decide_eq_false (by simp only[Ek,If];omega),cond_false,←List.append_assoc]
 ·rw[decide_eq_false hc,cond_false,if_neg hc]
end Go.Z
namespace Go.Z
open Go Go.Abs Go.W
def sU (a:Nat):Nat→List (List UInt8)→Option (List (List UInt8)×List Int)
 |_,[]=>I ([],[])
 |j,w::ws=>if w=[]then Hy else if j<a then(match sU a (j+1) ws with
  |none=>Hy
  |some p=>I (w::p.1,p.2))else match kw w with
  |none=>Hy
  |some v=>match sU a (j+1) ws with
   |none=>Hy
   |some p=>I (p.1,v::p.2)
theorem qy2 {a:Nat}:∀(ws:List (List UInt8)) (j:Nat),sU a j ws=if []∈ws then Hy else match kh (ws.drop (a-j))with
  |none=>Hy
  |some vs=>I (ws.take (a-j),vs)
 | [],j=>by simp[sU,kh]
 |w::ws,j=>by
  rw[sU,qy2 ws (j+1)]
  by_cases hw:w=[]
  ·simp[hw]
  ·have hm:(([]:List UInt8)∈w::ws)=([]∈ws):=by simp[List.mem_cons,Ne.symm hw]
   rw[if_neg hw]
   simp only[hm]
   by_cases he:[]∈ws
   ·simp only[he,if_true]
    cases kw w<;>simp
   ·simp only[he,if_false]
    by_cases hj:j<a
    ·rw[if_pos hj,show a-j=(a-(j+1))+1 by omega,List.drop_succ_cons,List.take_succ_cons]
     cases kh (ws.drop (a-(j+1)))<;>rfl
    ·rw[if_neg hj,show a-j=0 by omega,show a-(j+1)=0 by omega]
     simp only[N9,List.take_zero,kh]
     cases kw w with
     |none=>rfl
     |some v=>cases kh ws<;>rfl
theorem jkx {k0 v3:List UInt8}{r:List (List UInt8)}{a b:Nat}(hr:r.length=a+b)(hl:r.length≤100000):∀(k j:Nat) (on:Option (List (List UInt8))) (ov:Option (List Int)) (f1 f2:Bool),j+k=r.length→(on.getD []).length≤j→(ov.getD []).length≤j→(f1=Ga∨on=Hy)→(f2=Ga∨ov=Hy) →
  ∃d,bq (pI (I (k0::r)) v3 ⟨(a:Int),(b:Int),Ga⟩) (((j+1:Nat):Int),on,ov,f1,f2)=I d∧(match sU a j (r.drop j)with
   |none=>∃x,d=.inl x
   |some p=>∃x,d=.inr x∧x.2.1.getD []=on.getD []++p.1∧x.2.2.2.1.getD []=ov.getD []++p.2):=by
 have hN:qh .i64 (qh .i64 (1+(a:Int))+(b:Int))=((r.length+1:Nat):Int):=by
  rw[jx (x:=1+(a:Int)) (by omega) (by omega),jx (by omega) (by omega)];omega
 intro k
 induction k with
 |zero=>
  intro j on ov f1 f2 hi h1 h2 Bp Bq
  obtain rfl:j=r.length:=by omega
  refine⟨.inr (((r.length+1:Nat):Int),on,f1,ov,f2),jq ?_,?_⟩
  ·unfold pI
   simp only[hN,Ha,decide_false,cond_false]
  ·rw[Gc (E3 _)]
   exact⟨_,rfl,by simp,by simp⟩
 |succ k ih=>
  intro j on ov f1 f2 hi h1 h2 Bp Bq
  have aC:j<r.length:=by omega
  have h3:(((j+1:Nat):Int)<((r.length+1:Nat):Int)):=by omega
  have hx:jn ((I (k0::r)).getD []) ((j+1:Nat):Int)=I r[j]:=by
   rw[Ea,y4,List.getElem?_cons_succ,Ec aC]
  have hw:qh .i64 (((j+1:Nat):Int)+1)=((j+1+1:Nat):Int):=yi (by omega)
  rw[mR aC,sU]
  by_cases he:r[j]=[]
  ·refine⟨.inl (on,f1,ov,f2),jq ?_,?_⟩
   ·unfold pI
    simp only[hN,h3,decide_true,cond_true,hx,qi,he]
   ·rw[if_pos he]
    exact⟨_,rfl⟩
  ·rw[if_neg he]
   by_cases hj:j<a
   ·have h4:(((j+1:Nat):Int)≤(a:Int)):=by omega
    have gy:=sT (x:=r[j]) (o:=on) (by omega)
    obtain⟨d,d1,d2⟩:=ih (j+1) (I (on.getD []++[r[j]])) ov Ga f2 (by omega) (by simp;omega) (by omega) (.inl rfl) Bq
    refine⟨d,?_,?_⟩
    ·rw[z6 (s':=(((j+1+1:Nat):Int),I (on.getD []++[r[j]]),ov,Ga,f2)),d1]
     unfold pI
     simp only[hN,h3,decide_true,cond_true,hx,qi,he,decide_false,cond_false,h4,gy,hw]
     rcases Bp with rfl|rfl
     ·rfl
     ·cases f1<;>rfl
    ·rw[if_pos hj]
     revert d2
     cases sU a (j+1) (r.drop (j+1))with
     |none=>exact fun h=>h
     |some p=>
      rintro ⟨x,rfl,e1,e2⟩
      exact⟨x,rfl,by rw[e1];simp,e2⟩
   ·have h4:¬(((j+1:Nat):Int)≤(a:Int)):=by omega
    rw[if_neg hj]
    cases hn:kw r[j]with
    |none=>
     refine⟨.inl (on,f1,ov,f2),jq ?_,⟨_,rfl⟩⟩
     unfold pI
     simp only[hN,h3,decide_true,cond_true,hx,qi,he,decide_false,cond_false,h4,Jk,hn]
    |some v=>
     have gy:=sT (x:=v) (o:=ov) (by omega)
     obtain⟨d,d1,d2⟩:=ih (j+1) on (I (ov.getD []++[v])) f1 Ga (by omega) (by omega) (by simp;omega) Bp (.inl rfl)
     refine⟨d,?_,?_⟩
     ·rw[z6 (s':=(((j+1+1:Nat):Int),on,I (ov.getD []++[v]),f1,Ga)),d1]
      unfold pI
      simp only[hN,h3,decide_true,cond_true,hx,qi,he,decide_false,cond_false,h4,Jk,hn,gy,hw]
      rcases Bq with rfl|rfl
      ·rfl
      ·cases f2<;>rfl
     ·revert d2
      cases sU a (j+1) (r.drop (j+1))with
      |none=>exact fun h=>h
      |some p=>
       rintro ⟨x,rfl,e1,e2⟩
       exact⟨x,rfl,e1,by rw[e2];simp⟩
theorem jhc {s:List UInt8}(hs:s.length≤90000):∃e b,f97 s=I (e,b)∧(match lu (dz 32 s) 0 with|none=>b=Hb|some x=>b=Ga∧e.er=x):=by
 unfold f97
 rw[show f95 s 32=I (I (dz 32 s))from q4w (c:=32) (by omega),qi]
 cases hb:dz 32 s with
 |nil=>exact absurd hb (wq 32 s)
 |cons k r=>
  have hr:r.length≤100000:=by have:=q0x 32 s;rw[hb]at this;simp only[Eb]at this;omega
  have hx:jn ((I (k::r)).getD []) 0=I k:=rfl
  rw[hx,qi]
  rcases q5t k with⟨h1,h2⟩|⟨a,b,h1,h2⟩
  ·rw[h1,qi]
   refine⟨_,_,rfl,?_⟩
   simp only[lu,h2]
  ·have Jn:=FR h2
   simp only[]at Jn
   rw[h1,qi]
   simp only[cond_true,lu,h2]
   have hN:qh .i64 (qh .i64 (1+(a:Int))+(b:Int))=((a+b+1:Nat):Int):=by
    rw[jx (x:=1+(a:Int)) (by omega) (by omega),jx (by omega) (by omega)];omega
   rw[hN]
   simp only[Ea,Eb]
   by_cases hc:r.length=a+b
   ·rw[decide_eq_true (show((r.length+1:Nat):Int)=((a+b+1:Nat):Int) by omega),cond_true]
    obtain⟨d,d1,d2⟩:=jkx (k0:=k) (v3:=k) hc hr r.length 0 Hy Hy Hb Hb (by omega) (E3 _) (E3 _) (.inr rfl) (.inr rfl)
    rw[show bq (pI (I (k::r)) k ⟨(a:Int),(b:Int),Ga⟩) (1,Hy,Hy,Hb,Hb)=_ from d1,qi]
    rw[N9,qy2,Nat.sub_zero]at d2
    by_cases hm:([]:List UInt8)∈r
    ·rw[if_pos hm]at d2
     obtain⟨x,rfl⟩:=d2
     refine⟨_,_,rfl,?_⟩
     simp only[hm,not_true,and_false,if_false]
    ·rw[if_neg hm]at d2
     simp only[hc,hm,not_false_eq_true,and_true,if_true]
     revert d2
     cases kh (r.drop a)with
     |none=>
      rintro ⟨x,rfl⟩
      exact⟨_,_,rfl,rfl⟩
     |some vs=>
      rintro ⟨x,rfl,e1,e2⟩
      refine⟨_,_,rfl,rfl,?_⟩
      simp only[aT.er]
      rw[e1,e2];simp
   ·rw[decide_eq_false (show ¬((r.length+1:Nat):Int)=((a+b+1:Nat):Int) by omega),cond_false]
    refine⟨_,_,rfl,?_⟩
    simp only[hc,false_and,if_false]
theorem q4l (l:List (List UInt8))(n:Int):lu l n=(lu l 0).map fun e=>{ e with number:=n }:=by
 unfold lu
 cases l with
 |nil=>rfl
 |cons k r=>
  simp only[]
  cases ln k with
  |none=>rfl
  |some f=>
   simp only[]
   split
   ·cases kh (r.drop f.1)<;>rfl
   ·rfl
end Go.Z
namespace Go.Z
open Go Go.Abs Go.W
def FV (s:List UInt8):Except Int cB:=
 if s.length<8 then .error 26 else
 if s[s.length-8]?≠I 35∨(s.drop (s.length-7)).all yp=Hb then .error 26 else
 if s.drop (s.length-7)≠nz (eR (s.take (s.length-8)))then .error 28 else
 match pO (s.take (s.length-8))with
 |none=>.error 26
 |some e=>.ok e
theorem q03 (s:List UInt8)(n:Nat):mT s n=match FV s with
  | .error c=>.error c
  | .ok e=>if e.number≠(n:Int)+1 then .error 11 else .ok e:=by
 unfold mT FV
 split
 ·rfl
 split
 ·rfl
 split
 ·rfl
 cases pO (s.take (s.length-8))<;>rfl
theorem jgh {s:List UInt8}(hs:s.length≤90000):∃e k,f86 s=I (e,k)∧(match FV s with | .error c=>k=c | .ok x=>k=0∧e.er=x):=by
 unfold f86 FV
 rw[jx (x:=(s.length:Int)-8) (by omega) (by omega)]
 by_cases h8:s.length<8
 ·rw[decide_eq_true (show(s.length:Int)-8<0 by omega),cond_true,if_pos h8]
  exact⟨_,_,rfl,rfl⟩
 rw[decide_eq_false (show ¬(s.length:Int)-8<0 by omega),cond_false,if_neg h8]
 have aC:s.length-8<s.length:=by omega
 have ht:(s.take (s.length-8)).length≤90000:=by rw[Hz];omega
 rw[show(s.length:Int)-8=((s.length-8:Nat):Int) by omega,wK aC,qi,jx (x:=((s.length-8:Nat):Int)+1) (by omega) (by omega),show((s.length-8:Nat):Int)+1=((s.length-7:Nat):Int) by omega,wN (by omega),Ec aC]
 by_cases du:s[s.length-8]=35
 ·have lX:((s[s.length-8].toNat:Int)=35):=by rw[du];rfl
  have h7l:(s.drop (s.length-7)).length=7:=by rw[En];omega
  rw[decide_eq_true lX,cond_true,qi,jdu (by omega),qi,decide_eq_true h7l,Bool.and_true]
  cases hd:(s.drop (s.length-7)).all yp with
  |false=>
   rw[if_pos (.inr rfl)]
   exact⟨_,_,rfl,rfl⟩
  |true=>
   rw[if_neg (by simp[du])]
   rw[cond_true,Rn (by omega),qi,q6c (by omega),qi]
   by_cases h7:s.drop (s.length-7)=nz (eR (s.take (s.length-8)))
   ·rw[decide_eq_true h7,cond_true,if_neg (fun h=>h h7)]
    generalize s.take (s.length-8)=b at ht
    rw[show f95 b 32=I (I (dz 32 b))from q4w (c:=32) (by omega),qi]
    rcases E7 32 b with h|⟨w,t,rfl,h⟩
    ·rw[nX h,show jn ((I [b]).getD []) 0=I b from rfl,qi,Jk,qi]
     simp only[pO,nX h]
     cases kw b with
     |none=>exact⟨_,_,rfl,rfl⟩
     |some n=>exact⟨_,_,rfl,rfl⟩
    ·have Hu:t.length≤90000:=by simp only[Ek,Eb]at ht;omega
     have Jp:w.length+1≤(w++32::t).length:=by simp only[Ek,Eb];omega
     rw[rD h,show jn ((I (w::dz 32 t)).getD []) 0=I w from rfl,qi,Jk,qi]
     simp only[pO,rD h]
     cases hn:kw w with
     |none=>exact⟨_,_,rfl,rfl⟩
     |some n=>
      have aS:(dz 32 t).length≠0:=fun e=>wq 32 t (List.length_eq_zero_iff.1 e)
      simp only[cond_true,Ea,Eb]
      rw[decide_eq_false (show ¬((((dz 32 t).length+1:Nat):Int)<2) by omega),cond_false,jx (x:=(w.length:Int)+1) (by omega) (by omega),show(w.length:Int)+1=((w.length+1:Nat):Int) by omega,wN Jp,qi,show(w++32::t).drop (w.length+1)=t by rw[show w++32::t=(w++[32])++t by simp,N1 (by simp)]]
      obtain⟨e,c,g1,g2⟩:=jhc Hu
      rw[g1,qi,q4l]
      cases hw:lu (dz 32 t) 0 with
      |none=>
       rw[hw]at g2
       simp only[]at g2
       rw[g2]
       exact⟨_,_,rfl,rfl⟩
      |some x=>
       rw[hw]at g2
       simp only[]at g2
       obtain⟨f,q1,q2,q3⟩:=(Rr hw).2.2.2.1
       have hf:=FR q1
       have e1:e.names.getD []=x.names:=by rw[←g2.2];rfl
       have e2:e.values.getD []=x.values:=by rw[←g2.2];rfl
       have e3:(aT.er ⟨n,e.kind,e.names,e.values,e.text⟩)={ x with number:=n }:=by rw[←g2.2];rfl
       rw[g2.1,cond_true,q65 (e:=⟨n,e.kind,e.names,e.values,e.text⟩) (by show(e.names.getD []).length≤_;rw[e1];unfold SM;omega) (by show(e.values.getD []).length≤_;rw[e2];unfold SM;omega),qi,e3]
       simp only[N5]
       by_cases hc:zu { x with number:=n }=0
       ·rw[decide_eq_true hc,cond_true,if_pos hc]
        exact⟨_,_,rfl,rfl,e3⟩
       ·rw[decide_eq_false hc,cond_false,if_neg hc]
        exact⟨_,_,rfl,rfl⟩
   ·rw[decide_eq_false h7,cond_false,if_pos h7]
    exact⟨_,_,rfl,rfl⟩
 ·have lX:¬((s[s.length-8].toNat:Int)=35):=fun e=>du (UInt8.toNat_inj.1 (by have:(35:UInt8).toNat=35:=rfl;omega))
  rw[decide_eq_false lX,cond_false,if_pos (.inl (fun e=>du (I.inj e)))]
  exact⟨_,_,rfl,rfl⟩
def Ru (s:List UInt8):((Option (List aT))×Bool×Int×Int)⊕((Option (List aT))×Bool×Int×Int)→(Option (List aT))×Int×Int
 | .inl d=>(d.1,d.2.2.1,d.2.2.2)
 | .inr d=>(d.1,d.2.2.1,if d.2.2.1<(s.length:Int)then 29 else 0)
theorem jhh {s:List UInt8}(hs:s.length≤90000):∀(k i st:Nat) (o:Option (List aT)) (fl:Bool),i+k=s.length→st≤i→(10:UInt8) ∉ (s.drop st).take (i-st)→(o.getD []).length≤i→(fl=Ga∨o=Hy) →
  ∃d,bq (pL s) (o,(st:Int),(i:Int),fl)=I d∧FT (Ru s d) (kW (dz 10 (s.drop st)) st ((o.getD []).map aT.er)):=by
 intro k
 induction k with
 |zero=>
  intro i st o fl h1 h2 h3 h4 hf
  obtain rfl:i=s.length:=by omega
  rw[List.take_of_length_le (by rw[En];omega)]at h3
  refine⟨.inr (o,fl,(st:Int),(s.length:Int)),jq ?_,?_⟩
  ·unfold pL
   simp only[Ha,decide_false,cond_false]
  ·rw[nX h3]
   refine⟨rfl,rfl,?_⟩
   show(if(st:Int)<(s.length:Int)then(29:Int)else 0)=if s.drop st=[]then 0 else 29
   by_cases hc:st<s.length
   ·rw[if_pos (by omega),if_neg (fun e=>by have:=Jg.1 e;omega)]
   ·rw[if_neg (by omega),if_pos (Jg.2 (by omega))]
 |succ k ih=>
  intro i st o fl h1 h2 h3 h4 hf
  have aC:i<s.length:=by omega
  have fe:(i:Int)<(s.length:Int):=by omega
  have hw:qh .i64 ((i:Int)+1)=((i+1:Nat):Int):=yi (by omega)
  by_cases hc:s[i]=10
  ·have hd:((s[i].toNat:Int)=10):=by rw[hc];rfl
   have gA:=je6 (s:=s) h2 (show i≤s.length by omega)
   have hx:(s.take i).drop st=(s.drop st).take (i-st):=by rw[List.drop_take]
   have kD:((s.drop st).take (i-st)).length=i-st:=by rw[Hz,En];omega
   have jS:s.drop st=(s.drop st).take (i-st)++10::s.drop (i+1):=by
    conv=>lhs;rw[←List.take_append_drop (i-st) (s.drop st)]
    congr 1
    rw[N7,show st+(i-st)=i by omega,mR aC,hc]
   obtain⟨e,c,g1,g2⟩:=jgh (s:=(s.drop st).take (i-st)) (by omega)
   rw[hx]at gA
   have Rv:kW (dz 10 (s.drop st)) st ((o.getD []).map aT.er)=match mT ((s.drop st).take (i-st)) (o.getD []).length with
     | .error k=>((o.getD []).map aT.er,st,k)
     | .ok v=>kW (dz 10 (s.drop (i+1))) (i+1) ((o.getD []).map aT.er++[v]):=by
    conv=>lhs;rw[jS,rD h3,Rs (wq 10 _),Ib]
    rw[kD,show st+(i-st)+1=i+1 by omega]
    cases mT ((s.drop st).take (i-st)) (o.getD []).length<;>rfl
   rw[Rv,q03]
   cases hL:FV ((s.drop st).take (i-st))with
   |error q=>
    rw[hL]at g2
    simp only[]at g2
    have hq:q≠0:=Rt (s:=(s.drop st).take (i-st)) (n:=0) (by rw[q03,hL])
    refine⟨.inl (o,fl,(st:Int),c),jq ?_,rfl,rfl,g2⟩
    unfold pL
    have Bt:¬c=0:=by rw[g2];exact hq
    simp only[fe,decide_true,cond_true,wK aC,qi,hd,gA,g1,Bt,decide_false,cond_false]
   |ok v=>
    rw[hL]at g2
    simp only[]at g2
    dsimp only
    have FW:e.number=v.number:=by rw[←g2.2];rfl
    have Jp:qh .i64 (((o.getD []).length:Int)+1)=((o.getD []).length:Int)+1:=jx (by omega) (by omega)
    by_cases hq:v.number=((o.getD []).length:Int)+1
    ·have gy:=sT (x:=e) (o:=o) (by omega)
     obtain⟨d,d1,d2⟩:=ih (i+1) (i+1) (I (o.getD []++[e])) Ga (by omega) (E3 _) (by simp) (by simp;omega) (.inl rfl)
     refine⟨d,?_,?_⟩
     ·rw[z6 (s':=(I (o.getD []++[e]),((i+1:Nat):Int),((i+1:Nat):Int),Ga)),d1]
      unfold pL
      simp only[fe,decide_true,cond_true,wK aC,qi,hd,gA,g1,g2.1,Jp,FW,hq,gy,hw]
      rcases hf with rfl|rfl
      ·rfl
      ·cases fl<;>rfl
     ·simp only[Ea,N4,Oc,Od,g2.2]at d2
      rw[show(if v.number≠((o.getD []).length:Int)+1 then(Except.error 11:Except Int cB)else .ok v)=.ok v from if_neg (fun h=>h hq)]
      exact d2
    ·refine⟨.inl (o,fl,(st:Int),11),jq ?_,?_⟩
     ·unfold pL
      simp only[fe,decide_true,cond_true,wK aC,qi,hd,gA,g1,g2.1,Jp,FW,hq,decide_false,cond_false]
     ·rw[show(if v.number≠((o.getD []).length:Int)+1 then(Except.error 11:Except Int cB)else .ok v)=.error 11 from if_pos hq]
      exact⟨rfl,rfl,rfl⟩
  ·have hd:¬((s[i].toNat:Int)=10):=fun e=>hc (UInt8.toNat_inj.1 (by have:(10:UInt8).toNat=10:=rfl;omega))
   have pN:(10:UInt8) ∉ (s.drop st).take (i+1-st):=by
    rw[show i+1-st=(i-st)+1 by omega,List.take_succ_eq_append_getElem (by rw[En];omega)]
    intro hm
    rcases List.mem_append.1 hm with hm|hm
    ·exact h3 hm
    ·have:=List.mem_singleton.1 hm
     rw[List.getElem_drop]at this
     refine hc (Eq.trans ?_ this.symm)
     congr 1;omega
   obtain⟨d,d1,d2⟩:=ih (i+1) st o fl (by omega) (by omega) pN (by omega) hf
   refine⟨d,?_,d2⟩
   rw[z6 (s':=(o,(st:Int),((i+1:Nat):Int),fl)),d1]
   unfold pL
   simp only[fe,decide_true,cond_true,wK aC,qi,hd,decide_false,cond_false,hw]
theorem jjf {s:List UInt8}(hs:s.length≤90000):∃t,f31 s=I t∧FT t (jr s):=by
 obtain⟨d,d1,d2⟩:=jhh hs s.length 0 0 Hy Hb (by omega) (E3 _) (by simp) (Nat.zero_le _) (.inr rfl)
 refine⟨Ru s d,?_,d2⟩
 unfold f31
 rw[decide_eq_false (show ¬(1000000:Int)<(s.length:Int) by omega),cond_false,show bq (pL s) (Hy,0,0,Hb)=_ from d1,qi]
 rcases d with d|d
 ·rfl
 ·simp only[Ru]
  by_cases hc:d.2.2.1<(s.length:Int)
  ·rw[decide_eq_true hc,cond_true,if_pos hc]
  ·rw[decide_eq_false hc,cond_false,if_neg hc]
end Go.Z
