/- Loops as plain functions of their lists. -/
import Derived.Test.YtnjngdcbkkonnaaGreatDoorA1
set_option linter.unusedVariables false
set_option linter.unusedSimpArgs false
set_option maxRecDepth 100000
namespace Go.Z
open Go Go.Abs
theorem qdc {σ δ γ:Type}(n:Nat)(mk:Nat→σ)(f:σ→Option (σ⊕δ))(V:δ→γ)(r:Nat→γ)(hend:∃d,f (mk n)=some (.inr d)∧V d=r n)
  (hstep:∀i,i<n→(f (mk i)=some (.inl (mk (i+1)))∧r i=r (i+1))∨(∃d,f (mk i)=some (.inr d)∧V d=r i)):∃d,itO f (mk 0)=some d∧V d=r 0:=by
 have key:∀(k i:Nat),i+k=n→∃d,itO f (mk i)=some d∧V d=r i:=by
  intro k
  induction k with
  |zero=>
   intro i hi
   have:i=n:=by omega
   subst this
   obtain⟨d,h1,h2⟩:=hend
   exact⟨d,k9 h1,h2⟩
  |succ k ih=>
   intro i hi
   rcases hstep i (by omega)with⟨h1,h2⟩|⟨d,h1,h2⟩
   ·rw[qbb h1,h2];exact ih (i+1) (by omega)
   ·exact⟨d,k9 h1,h2⟩
 exact key n 0 (by omega)
theorem q4o {α:Type}{l:List α}{q:α→Int}{i:Nat}{x:α}(hx:l[i]?=some x):y9 ((l.drop i).map q)=if q x=0 then y9 ((l.drop (i+1)).map q)else q x:=by
 rw[kh hx];rfl
theorem qn3 {α δ:Type}(l:List α)(f:Int→Option (Int⊕δ))(q:α→Int)(V:δ→Int)(hend:∃d,f (l.length:Int)=some (.inr d)∧V d=0)
  (hstep:∀(i:Nat) x,l[i]?=some x→i<l.length→(q x=0∧f (i:Int)=some (.inl ((i+1:Nat):Int)))∨(q x≠0∧∃d,f (i:Int)=some (.inr d)∧V d=q x)):∃d,itO f 0=some d∧V d=y9 (l.map q):=by
 have:=qdc l.length (fun i=>(i:Int)) f V (fun i=>y9 ((l.drop i).map q)) (by rw[List.drop_eq_nil_of_le (Nat.le_refl _)];exact hend) (fun i hi=>by
  obtain⟨x,hx⟩:∃x,l[i]?=some x:=⟨_,List.getElem?_eq_getElem hi⟩
  simp only[q4o hx]
  rcases hstep i x hx hi with⟨h1,h2⟩|⟨h1,h2⟩
  ·rw[if_pos h1];exact .inl ⟨h2,rfl⟩
  ·rw[if_neg h1];exact .inr h2)
 simpa using this
theorem qe5 {α δ:Type}(l:List α)(f:Int→Option (Int⊕δ))(q:α→Bool)(V:δ→Bool)(hend:∃d,f (l.length:Int)=some (.inr d)∧V d=true)
  (hstep:∀(i:Nat) x,l[i]?=some x→i<l.length→(q x=true∧f (i:Int)=some (.inl ((i+1:Nat):Int)))∨(q x=false∧∃d,f (i:Int)=some (.inr d)∧V d=false)):∃d,itO f 0=some d∧V d=l.all q:=by
 have:=qdc l.length (fun i=>(i:Int)) f V (fun i=>(l.drop i).all q) (by rw[List.drop_eq_nil_of_le (Nat.le_refl _)];exact hend) (fun i hi=>by
  obtain⟨x,hx⟩:∃x,l[i]?=some x:=⟨_,List.getElem?_eq_getElem hi⟩
  simp only[kh hx,List.all_cons]
  rcases hstep i x hx hi with⟨h1,h2⟩|⟨h1,h2⟩
  ·rw[h1];exact .inl ⟨h2,rfl⟩
  ·rw[h1];exact .inr h2)
 simpa using this
theorem qe8 {α β:Type}(l:List α)(ix:Nat→Int)(f:Option (List β)×Int×Bool→Option ((Option (List β)×Int×Bool)⊕(Option (List β)×Bool×Int)))(h:α→List β)(a0:List β)(I:Nat→List β→Prop)(hI:I 0 a0)
  (hend:∀a,f (za a,ix l.length,yx a)=some (.inr (za a,yx a,ix l.length)))
  (hstep:∀(i:Nat) x a,l[i]?=some x→i<l.length→I i a→I (i+1) (a++h x)∧f (za a,ix i,yx a)=some (.inl (za (a++h x),ix (i+1),yx (a++h x)))):
  itO f (za a0,ix 0,yx a0)=some (za (a0++l.flatMap h),yx (a0++l.flatMap h),ix l.length):=by
 have key:∀(k i:Nat),i+k=l.length→∀a,I i a→itO f (za a,ix i,yx a)=some (za (a++(l.drop i).flatMap h),yx (a++(l.drop i).flatMap h),ix l.length):=by
  intro k
  induction k with
  |zero=>
   intro i hi a _
   have:i=l.length:=by omega
   subst this
   rw[List.drop_eq_nil_of_le (Nat.le_refl _),List.flatMap_nil,List.append_nil,k9 (hend a)]
  |succ k ih=>
   intro i hi a ha
   obtain⟨x,hx⟩:∃x,l[i]?=some x:=⟨_,List.getElem?_eq_getElem (by omega)⟩
   obtain⟨h1,h2⟩:=hstep i x a hx (by omega) ha
   rw[qbb h2,ih (i+1) (by omega) _ h1,kh hx,List.flatMap_cons,List.append_assoc]
 have:=key l.length 0 (by omega) a0 hI
 rwa [List.drop_zero]at this
theorem qqz {α:Type}{a:List α}{x:α}(h:a.length<1073741824):apO (za a) [x]=some (za (a++[x])):=by
 unfold apO
 cases a with
 |nil=>rfl
 |cons y a=>
  have:((za (y::a)).getD []).length + [x].length≤1073741824:=by simp[za]at h ⊢;omega
  rw[if_pos this];rfl
theorem qc3 {α γ:Type}{a:List α}{x:α}{k:Option (List α)→Option γ}(h:a.length<1073741824):cond (yx a) (j5 (apO (za a) [x]) k) (cond (za a).isNone (j5 (apO (za a) [x]) k) none)=k (za (a++[x])):=by
 rw[qqz h]
 cases a<;>rfl
theorem yd {α:Type}(a:List α):(za a).getD []=a:=by cases a<;>rfl
theorem qeq {α β:Type}(h:α→β):∀l:List α,l.flatMap (fun x=>[h x])=l.map h
 | []=>rfl
 |x::l=>by rw[List.flatMap_cons,qeq h l];rfl
theorem qo4 {α β:Type}(l:List α)(f:Option (List β)×Int×Bool→Option ((Option (List β)×Int×Bool)⊕(Option (List β)×Bool×Int)))(h:α→β)(hl:l.length≤1073741824)
  (hend:∀a:Option (List β)×Bool,f (a.1,(l.length:Int),a.2)=some (.inr (a.1,a.2,(l.length:Int))))
  (hstep:∀(i:Nat) x (a:List β),l[i]?=some x→i<l.length→a.length<1073741824→f (za a,(i:Int),yx a)=some (.inl (za (a++[h x]),((i+1:Nat):Int),true))):
  itO f (none,0,false)=some (za (l.map h),yx (l.map h),(l.length:Int)):=by
 have:=qe8 l (fun i=>(i:Int)) f (fun x=>[h x]) [] (fun i a=>a.length=i) rfl (fun a=>hend (za a,yx a)) (fun i x a hx hi ha=>⟨by simp[ha],by rw[hstep i x a hx hi (by omega),qc8]⟩)
 rw[qeq,List.nil_append]at this
 exact this
theorem y8 {α:Type}{l:List α}{i:Nat}{x:α}(hx:l[i]?=some x):yo l (i:Int)=some x:=by rw[qgl,hx]
theorem kl {α:Type}{l:List α}{i:Nat}(h:i<l.length):decide ((i:Int)<(l.length:Int))=true:=dT (by omega)
theorem kc {n:Nat}:decide ((n:Int)<(n:Int))=false:=dF (by omega)
set_option maxHeartbeats 1000000
theorem qfm {b:Bool}{e:Int}:f106 b e=some (qbg b e):=by cases b<;>rfl
theorem qyv {b:Bool}{e:Int}:f194 b e=some (qbg b e):=by cases b<;>rfl
theorem q7h {b:Bool}{e:Int}:f101 b e=some (qbg b e):=by cases b<;>rfl
theorem q7t {o:Option (List Int)}(hn:(o.getD []).length≤9223372036854775807):f105 o=some (y9 (o.getD [])):=by
 obtain⟨d,h1,h2⟩:=qn3 (o.getD []) (qlu o) id (fun d=>match d with | .inl x=>x | .inr _=>0) ⟨.inr _,by unfold qlu;rw[kc];rfl,rfl⟩ (fun i x hx hi=>by
  unfold qlu
  rw[kl hi,cT,y8 hx,j6]
  by_cases h:x=0
  ·refine .inl ⟨h,?_⟩
   rw[dT h,cT,yg hi hn]
  ·refine .inr ⟨h,.inl x,?_,rfl⟩
   rw[dF h,cF])
 unfold f105
 rw[h1,j6]
 rw[List.map_id]at h2
 rw[←h2]
 cases d<;>rfl
theorem qgr {l:List Int}(hn:l.length≤100):f105 (some l)=some (y9 l):=q7t (o:=some l) (by simp only[Option.getD_some];omega)
theorem jka {o:Option (List Int)}(hn:(o.getD []).length≤9223372036854775807):f171 o=some (y9 (o.getD [])):=by
 obtain⟨d,h1,h2⟩:=qn3 (o.getD []) (qma o) id (fun d=>match d with | .inl x=>x | .inr _=>0) ⟨.inr _,by unfold qma;rw[kc];rfl,rfl⟩ (fun i x hx hi=>by
  unfold qma
  rw[kl hi,cT,y8 hx,j6]
  by_cases h:x=0
  ·refine .inl ⟨h,?_⟩
   rw[dT h,cT,yg hi hn]
  ·refine .inr ⟨h,.inl x,?_,rfl⟩
   rw[dF h,cF])
 unfold f171
 rw[h1,j6]
 rw[List.map_id]at h2
 rw[←h2]
 cases d<;>rfl
theorem qe2 {l:List Int}(hn:l.length≤100):f171 (some l)=some (y9 l):=jka (o:=some l) (by simp only[Option.getD_some];omega)
theorem jjd {o:Option (List Int)}(hn:(o.getD []).length≤9223372036854775807):f100 o=some (y9 (o.getD [])):=by
 obtain⟨d,h1,h2⟩:=qn3 (o.getD []) (ql8 o) id (fun d=>match d with | .inl x=>x | .inr _=>0) ⟨.inr _,by unfold ql8;rw[kc];rfl,rfl⟩ (fun i x hx hi=>by
  unfold ql8
  rw[kl hi,cT,y8 hx,j6]
  by_cases h:x=0
  ·refine .inl ⟨h,?_⟩
   rw[dT h,cT,yg hi hn]
  ·refine .inr ⟨h,.inl x,?_,rfl⟩
   rw[dF h,cF])
 unfold f100
 rw[h1,j6]
 rw[List.map_id]at h2
 rw[←h2]
 cases d<;>rfl
theorem qqy {l:List Int}(hn:l.length≤100):f100 (some l)=some (y9 l):=jjd (o:=some l) (by simp only[Option.getD_some];omega)
theorem qoe {n lo hi:Int}:f109 n lo hi=some (yj n lo hi):=by
 unfold f109 yj
 by_cases h:n<lo
 ·simp only[h,decide_true,cT,qfm,j6,qbg,if_true]
 ·by_cases h2:hi<n<;>simp[h,h2,qfm,qbg]
theorem q6r {n lo hi:Int}:f195 n lo hi=some (yj n lo hi):=by
 unfold f195 yj
 by_cases h:n<lo
 ·simp only[h,decide_true,cT,qyv,j6,qbg,if_true]
 ·by_cases h2:hi<n<;>simp[h,h2,qyv,qbg]
theorem qs2 {n lo hi:Int}:f40 n lo hi=some (yj n lo hi):=by
 unfold f40 yj
 by_cases h:n<lo
 ·simp[h]
 ·by_cases h2:hi<n<;>simp[h,h2]
theorem jkf {w:Int}:f172 w=some (yj w 1 8):=by unfold f172;rw[q6r];rfl
theorem jji {w:Int}:f122 w=some (yj w 1 8):=by unfold f122;rw[qoe];rfl
theorem qao:∀ {l:List Int},y9 l=0↔∀x∈l,x=0
 | []=>by simp[y9]
 |x::l=>by
  simp only[y9,List.mem_cons,forall_eq_or_imp]
  by_cases h:x=0
  ·rw[if_pos h,qao];simp[h]
  ·rw[if_neg h];simp[h]
theorem qry {s:List UInt8}{i:Nat}{c:UInt8}(hc:s[i]?=some c):qlb i (s.drop i)=(qqe i c.toNat&&qlb (i+1) (s.drop (i+1))):=by
 rw[kh hc];rfl
theorem jie {s:List UInt8}:f102 s=some (qrr s):=by
 unfold f102 qrr
 by_cases h0:s=[]
 ·subst h0;rfl
 have hl:¬((s.length:Int)=0):=by
  intro h
  exact h0 (List.eq_nil_of_length_eq_zero (by omega))
 by_cases h1:(24:Int)<s.length
 ·have h2:¬s.length≤24:=by omega
  simp[hl,h0,h1,h2]
 ·have h2:s.length≤24:=by omega
  obtain⟨d,g1,g2⟩:=qdc s.length (fun i=>(i:Int)) (qjf s) (fun d=>match d with | .inl _=>false | .inr _=>true) (fun i=>qlb i (s.drop i)) ⟨.inr _,by unfold qjf;rw[kc];rfl,by rw[List.drop_eq_nil_of_le (Nat.le_refl _)];rfl⟩ (fun i hi=>by
   obtain⟨c,hc⟩:∃c,s[i]?=some c:=⟨_,List.getElem?_eq_getElem hi⟩
   unfold qjf
   rw[qry hc,kl hi,cT,y8 hc,j6]
   simp only[yg hi (show s.length≤9223372036854775807 by omega)]
   unfold qqe
   have hx:0≤(c.toNat:Int):=by omega
   generalize (c.toNat:Int)=x at hx ⊢
   by_cases z:i=0
   ·subst z
    rcases kinds x with h|h|h|h|h|h|h|h|h <;>
     simp (disch:=omega) only[dT,dF,cT,cF,Bool.or_false,Bool.false_or,Bool.true_or,Bool.and_true,Bool.true_and,Bool.false_and] <;>
     first
      |exact .inl ⟨trivial,trivial⟩
      |exact .inl ⟨rfl,trivial⟩
      |exact .inl ⟨rfl,rfl⟩
      |exact .inr ⟨_,rfl,rfl⟩
   ·rcases kinds x with h|h|h|h|h|h|h|h|h <;>
     simp (disch:=omega) only[dT,dF,cT,cF,Bool.or_false,Bool.or_true,Bool.false_or,Bool.true_or,Bool.and_true,Bool.true_and,Bool.false_and] <;>
     first
      |exact .inl ⟨trivial,trivial⟩
      |exact .inl ⟨rfl,trivial⟩
      |exact .inl ⟨rfl,rfl⟩
      |exact .inr ⟨_,rfl,rfl⟩)
  have g1:itO (qjf s) 0=some d:=g1
  rw[dF hl,cF,dF h1,cF,g1,j6]
  simp only[h0,h2,ne_eq,not_false_eq_true,decide_true,Bool.true_and]
  rw[List.drop_zero]at g2
  rw[←g2]
  cases d<;>rfl
theorem qx2 {s:List UInt8}{i:Nat}{c:UInt8}(hc:s[i]?=some c):(c.toNat<128∧zi s i=(c.toNat,1))∨(128≤c.toNat∧128≤(zi s i).1):=by
 by_cases h:c.toNat<128
 ·exact .inl ⟨h,jdm hc h⟩
 ·exact .inr ⟨by omega,jdb hc h⟩
theorem q0i {i:Nat}{x:Int}(h:128≤x):qqe i x=false:=by
 unfold qqe
 simp (disch:=omega) only[dF,Bool.or_self,Bool.and_false]
def jv3:Nat→Option Nat
 |0=>none
 |i+1=>some (i+1)
theorem jin {s:List UInt8}:f107 s=some (qrr s):=by
 unfold f107
 obtain⟨d,g1,g2⟩:=qdc s.length jv3 (qsj s) (fun d=>match d with | .inl _=>false | .inr _=>true) (fun i=>qlb i (s.drop i)) (by
   rw[List.drop_eq_nil_of_le (Nat.le_refl _)]
   cases hn:s.length with
   |zero=>
    refine⟨.inr 0,?_,rfl⟩
    show qgx s=_
    unfold qgx
    rw[hn];rfl
   |succ n=>
    refine⟨.inr (n+1),?_,rfl⟩
    show qgz s (n+1)=_
    unfold qgz
    rw[hn,dF (by omega)];rfl) (fun i hi=>by
   obtain⟨c,hc⟩:∃c,s[i]?=some c:=⟨_,List.getElem?_eq_getElem hi⟩
   rw[qry hc]
   cases i with
   |zero=>
    show(qgx s=_∧_)∨(∃d,qgx s=_∧_)
    unfold qgx
    rw[dT hi,cT]
    rcases qx2 hc with⟨hlt,he⟩|⟨hge,hr⟩
    ·rw[he]
     simp only[]
     have hx:0≤(c.toNat:Int):=by omega
     unfold qqe
     generalize (c.toNat:Int)=x at hx ⊢
     rcases kinds x with h|h|h|h|h|h|h|h|h <;>
      simp (disch:=omega) only[dT,dF,cT,cF,Bool.or_false,Bool.false_or,Bool.true_or,Bool.and_true,Bool.true_and,Bool.false_and] <;>
      first
       |exact .inl ⟨trivial,trivial⟩
       |exact .inl ⟨rfl,trivial⟩
       |exact .inl ⟨rfl,rfl⟩
       |exact .inr ⟨_,rfl,rfl⟩
    ·rw[q0i (by omega)]
     generalize hd:zi s 0=dd at hr ⊢
     have hr':(128:Int)≤(dd.1:Int):=by omega
     generalize (dd.1:Int)=x at hr' ⊢
     simp (disch:=omega) only[dT,dF,cT,cF,Bool.false_and]
     exact .inr ⟨_,rfl,rfl⟩
   |succ i=>
    show(qgz s (i+1)=_∧_)∨(∃d,qgz s (i+1)=_∧_)
    unfold qgz
    rw[dT hi,cT]
    rcases qx2 hc with⟨hlt,he⟩|⟨hge,hr⟩
    ·rw[he]
     simp only[]
     have hx:0≤(c.toNat:Int):=by omega
     unfold qqe
     generalize (c.toNat:Int)=x at hx ⊢
     have e0:decide (((i+1:Nat):Int)=0)=false:=dF (by omega)
     rcases kinds x with h|h|h|h|h|h|h|h|h <;>
      simp (disch:=omega) only[e0,dT,dF,cT,cF,Bool.or_false,Bool.or_true,Bool.false_or,Bool.true_or,Bool.and_true,Bool.true_and,Bool.false_and] <;>
      first
       |exact .inl ⟨trivial,trivial⟩
       |exact .inl ⟨rfl,trivial⟩
       |exact .inl ⟨rfl,rfl⟩
       |exact .inr ⟨_,rfl,rfl⟩
    ·rw[q0i (by omega)]
     generalize hd:zi s (i+1)=dd at hr ⊢
     have hr':(128:Int)≤(dd.1:Int):=by omega
     have e0:decide (((i+1:Nat):Int)=0)=false:=dF (by omega)
     generalize (dd.1:Int)=x at hr' ⊢
     simp (disch:=omega) only[e0,dT,dF,cT,cF,Bool.false_and]
     exact .inr ⟨_,rfl,rfl⟩)
 have g1:itO (qsj s) none=some d:=g1
 rw[g1,j6]
 unfold qrr
 rw[List.drop_zero]at g2
 cases d with
 |inl d=>simp only[]at g2;rw[←g2];simp
 |inr d=>
  simp only[]at g2
  rw[←g2]
  by_cases h0:s=[]
  ·subst h0;rfl
  ·have e:decide ((s.length:Int)≤24)=decide (s.length≤24):=by by_cases h:s.length≤24<;>simp[h]<;>omega
   rw[e]
   simp[h0]
def kB:List UInt8:=[98,108,111,99,107]
def kSe:List UInt8:=[115,101,114,105,101,115]
def kSh:List UInt8:=[115,104,117,110,116]
def kT:List UInt8:=[116,114,97,112]
def isK (s:List UInt8):Bool:=decide (s=kB)||decide (s=kSe)||decide (s=kSh)||decide (s=kT)
def qde (s:List UInt8):Bool:=decide (s=kB)||decide (s=kT)
def qa8 (x:ql):Int:=y9 [qbg (!isK x.kind) 13,yj x.a 0 8,yj x.b 0 8,qbg (qde x.kind&&decide (x.a=0)&&decide (x.b=0)) 6]
def qa0 (l:List ql):Int:=if 5<l.length then 5 else y9 (l.map qa8)
theorem qfd {δ:Type}{F q:Int}{A B:Option (Int⊕δ)}{d:δ}{V:δ→Int}(hF:F=q)(hA:A=B)(hV:V d=F):(q=0∧cond (decide (F=0)) A (some (.inr d))=B)∨(q≠0∧∃d',cond (decide (F=0)) A (some (.inr d))=some (.inr d')∧V d'=q):=by
 subst hF
 by_cases h:F=0
 ·exact .inl ⟨h,by rw[dT h];exact hA⟩
 ·exact .inr ⟨h,d,by rw[dF h];rfl,hV⟩
theorem q7r {o:Option (List ql)}:f158 o=some (qa0 (o.getD [])):=by
 unfold f158 qa0
 by_cases h5:(5:Int)<((o.getD []).length:Int)
 ·rw[dT h5,if_pos (by omega)];rfl
 ·rw[dF h5,if_neg (by omega),cF]
  have hn:(o.getD []).length≤9223372036854775807:=by omega
  obtain⟨d,g1,g2⟩:=qn3 (o.getD []) (qli o) qa8 (fun d=>match d with
   | .inl d226=>d226.1
   | .inr (.inl d227)=>d227.1
   | .inr (.inr (.inl d228))=>d228.1
   | .inr (.inr (.inr (.inl d229)))=>d229.1
   | .inr (.inr (.inr (.inr (.inl d230))))=>d230.1
   | .inr (.inr (.inr (.inr (.inr d231))))=>0) ⟨_,by unfold qli;rw[kc];rfl,rfl⟩ (fun i x hx hi=>by
    unfold qli
    rw[kl hi,cT,y8 hx,j6,yg hi hn]
    simp only[qyv,q6r,j6]
    by_cases k1:x.kind=kB
    ·rw[dT (show x.kind=[98,108,111,99,107]from k1),cT]
     by_cases ha:x.a=0
     ·rw[dT ha,cT,qe2 (by simp),j6]
      exact qfd (by simp[qa8,isK,qde,k1,ha]) rfl rfl
     ·rw[dF ha,cF,qe2 (by simp),j6]
      exact qfd (by simp[qa8,isK,qde,k1,ha]) rfl rfl
    rw[dF (show ¬x.kind=[98,108,111,99,107]from k1),cF]
    by_cases k2:x.kind=kSe
    ·rw[dT (show x.kind=[115,101,114,105,101,115]from k2),cT,qe2 (by simp),j6]
     exact qfd (by simp[qa8,isK,qde,k2,kSe,kB,kT]) rfl rfl
    rw[dF (show ¬x.kind=[115,101,114,105,101,115]from k2),cF]
    by_cases k3:x.kind=kSh
    ·rw[dT (show x.kind=[115,104,117,110,116]from k3),cT,qe2 (by simp),j6]
     exact qfd (by simp[qa8,isK,qde,k3,kSh,kSe,kB,kT]) rfl rfl
    rw[dF (show ¬x.kind=[115,104,117,110,116]from k3),cF]
    by_cases k4:x.kind=kT
    ·rw[dT (show x.kind=[116,114,97,112]from k4),cT]
     by_cases ha:x.a=0
     ·rw[dT ha,cT,qe2 (by simp),j6]
      exact qfd (by simp[qa8,isK,qde,k4,ha]) rfl rfl
     ·rw[dF ha,cF,qe2 (by simp),j6]
      exact qfd (by simp[qa8,isK,qde,k4,ha]) rfl rfl
    rw[dF (show ¬x.kind=[116,114,97,112]from k4),cF,qe2 (by simp),j6]
    exact qfd (by simp[qa8,isK,qde,k1,k2,k3,k4]) rfl rfl)
  rw[g1,j6,←g2]
  rcases d with d|d|d|d|d|d<;>rfl
theorem qnl {x:ql}:qa0 [x]=qa8 x:=by
 unfold qa0
 simp only[List.length_cons,List.length_nil,List.map_cons,List.map_nil,y9]
 by_cases h:qa8 x=0<;>simp[h]
theorem q7q {x:ql}:f108 x=some (qa8 x):=by unfold f108;rw[q7r];simp only[Option.getD_some,qnl];rfl
theorem jfm {x:ql}:q1s x=some (qa8 x):=q7q
theorem jik {l:List (List UInt8)}{s:List UInt8}(hn:l.length≤100):f191 (some l) s=some (!l.all fun y=>!decide (y=s)):=by
 unfold f191
 obtain⟨d,g1,g2⟩:=qe5 l (qmp (some l) s) (fun y=>!decide (y=s)) (fun d=>match d with | .inl _=>false | .inr _=>true) ⟨.inr _,by unfold qmp;simp only[Option.getD_some];rw[kc];rfl,rfl⟩ (fun i x hx hi=>by
  unfold qmp
  simp only[Option.getD_some]
  rw[kl hi,cT,y8 hx,j6,yg hi (by omega)]
  by_cases h:x=s
  ·exact .inr ⟨by simp[h],.inl (),by rw[dT h];rfl,rfl⟩
  ·exact .inl ⟨by simp[h],by rw[dF h];rfl⟩)
 rw[g1,j6,←g2]
 cases d<;>rfl
theorem jiq {x:ql}:f157 x=some (qa8 x):=by
 unfold f157
 have h192:f192=some (some [kB,kSe,kSh,kT]):=rfl
 rw[h192,j6,jik (by decide),j6]
 have hk:(!([kB,kSe,kSh,kT].all fun y=>!decide (y=x.kind)))=isK x.kind:=by
  simp only[List.all_cons,List.all_nil,isK,Bool.and_true,Bool.not_and,Bool.not_not,eq_comm (a:=x.kind),Bool.or_assoc]
 rw[hk]
 simp only[qs2,j6]
 unfold qa8
 cases hK:isK x.kind with
 |false=>simp[y9,qbg]
 |true=>
  rw[cT,qqy (by simp),j6]
  have hd:f55 x.kind=some (qde x.kind):=by
   unfold f55 qde
   by_cases h:x.kind=kB
   ·rw[dT (show x.kind=[98,108,111,99,107]from h),dT h];rfl
   ·rw[dF (show ¬x.kind=[98,108,111,99,107]from h),dF h];rfl
  rw[hd]
  by_cases h1:yj x.a 0 8=0
  ·by_cases h2:yj x.b 0 8=0
   ·simp only[y9,h1,h2,if_true,decide_true,cT,j6]
    cases hD:qde x.kind with
    |false=>simp[qbg]
    |true=>
     by_cases ha:x.a=0
     ·by_cases hb:x.b=0<;>simp[qbg,ha,hb]
     ·simp[qbg,ha]
   ·simp[y9,h1,h2,qbg]
  ·simp[y9,h1,qbg]
theorem q7n {o:Option (List ql)}:f103 o=some (qa0 (o.getD [])):=by
 unfold f103 qa0
 by_cases h5:(5:Int)<((o.getD []).length:Int)
 ·rw[dT h5,if_pos (by omega)];rfl
 ·rw[dF h5,if_neg (by omega),cF]
  have hn:(o.getD []).length≤9223372036854775807:=by omega
  obtain⟨d,g1,g2⟩:=qn3 (o.getD []) (qls o) qa8 (fun d=>match d with | .inl x=>x | .inr _=>0) ⟨.inr _,by unfold qls;rw[kc];rfl,rfl⟩ (fun i x hx hi=>by
   unfold qls
   rw[kl hi,cT,y8 hx,j6,jiq,j6,yg hi hn]
   exact qfd rfl rfl rfl)
  rw[g1,j6,←g2]
  cases d<;>rfl
def qap (a s:Int)(c:Bool):List Int:=if s=0 then [a]else if c then [a-s,a+s]else [a-1,a,a+1]
def okN (a s:Int):Prop:=0≤a∧a≤8∧0≤s∧s≤1
theorem qba {x:Int}(h:-1000000≤x∧x≤1000000):j9 .i64 x=x:=by
 exact yq (by omega) (by omega)
theorem qid {a s:Int}(h:okN a s):((qap a s false).length:Int)=2*s+1:=by
 obtain⟨h1,h2,h3,h4⟩:=h
 rcases(show s=0∨s=1 by omega)with rfl|rfl<;>rfl
theorem qzc {a s:Int}(h:okN a s){i:Nat}{x:Int}(hx:(qap a s false)[i]?=some x):x=a-s+i:=by
 obtain⟨h1,h2,h3,h4⟩:=h
 rcases(show s=0∨s=1 by omega)with rfl|rfl
 ·match i,hx with
  |0,hx=>cases hx;omega
 ·match i,hx with
  |0,hx=>cases hx;omega
  |1,hx=>cases hx;omega
  |2,hx=>cases hx;omega
theorem qk3 {a s:Int}{c:Bool}:(qap a s c).length≤3:=by
 unfold qap
 split
 ·simp
 ·split<;>simp
theorem q6i {a s:Int}(h:okN a s):f155 a s=some ⟨a-s,a+s⟩:=by
 obtain⟨h1,h2,h3,h4⟩:=h
 unfold f155
 rw[qba (by omega),qba (by omega)]
theorem q7z {a s:Int}{c:Bool}(h:okN a s):f156 ⟨a-s,a+s⟩ c=some (some (qap a s c),true):=by
 have h':=h
 obtain⟨h1,h2,h3,h4⟩:=h'
 unfold f156
 simp only[]
 by_cases hs:s=0
 ·subst hs
  rw[dT (by omega)]
  simp[qap]
 ·rw[dF (by omega),cF]
  cases c with
  |true=>simp[qap,hs]
  |false=>
   rw[cF]
   have:=qe8 (qap a s false) (fun i=>a-s+i) (qly ⟨a-s,a+s⟩) (fun x=>[x]) [] (fun i l=>l.length=i) rfl (fun l=>by
    unfold qly
    simp only[]
    rw[qid h,dF (by omega)];rfl) (fun i x l hx hi hl=>by
    have hxi:=qzc h hx
    have:=qid h
    refine⟨by simp[hl],?_⟩
    unfold qly
    simp only[]
    rw[dT (by omega),cT,qc3 (by omega),qba (by omega),qc8,hxi]
    congr 4
    omega)
   have e0:a-s+((0:Nat):Int)=a-s:=by omega
   rw[e0]at this
   rw[show(za ([]:List Int),a-s,yx ([]:List Int))=(none,a-s,false)from rfl]at this
   rw[this,j6,List.nil_append,qeq,List.map_id']
   have hne:qap a s false=[a-1,a,a+1]:=by simp[qap,hs]
   rw[hne];rfl
def ki (p:qb)(c:Bool):List ql:=(qap p.pa p.sa c).flatMap fun a=>(qap p.pb p.sb c).map fun b=>⟨p.kd,a,b⟩
def okP (p:qb):Prop:=okN p.pa p.sa∧okN p.pb p.sb
theorem q6n {p:qb}{c:Bool}:ki p c≠[]:=by
 have h:∀a s,qap a s c≠[]:=by
  intro a s
  unfold qap
  split
  ·simp
  ·split<;>simp
 unfold ki
 obtain⟨x,l,hx⟩:∃x l,qap p.pa p.sa c=x::l:=by
  cases hn:qap p.pa p.sa c with
  |nil=>exact absurd hn (h _ _)
  |cons x l=>exact⟨x,l,rfl⟩
 obtain⟨y,m,hy⟩:∃x l,qap p.pb p.sb c=x::l:=by
  cases hn:qap p.pb p.sb c with
  |nil=>exact absurd hn (h _ _)
  |cons x l=>exact⟨x,l,rfl⟩
 rw[hx,hy]
 simp
theorem q0q {α:Type}{l:List α}(h:l≠[]):za l=some l∧yx l=true:=by
 cases l with
 |nil=>exact absurd rfl h
 |cons x l=>exact⟨rfl,rfl⟩
theorem qd1 {p:qb}{c:Bool}:(ki p c).length≤9:=by
 unfold ki
 have h1:=qk3 (a:=p.pa) (s:=p.sa) (c:=c)
 have h2:=qk3 (a:=p.pb) (s:=p.sb) (c:=c)
 generalize qap p.pa p.sa c=l at h1
 generalize qap p.pb p.sb c=m at h2
 have:∀l:List Int,(l.flatMap fun a=>m.map fun b=>(⟨p.kd,a,b⟩:ql)).length=l.length*m.length:=by
  intro l
  induction l with
  |nil=>simp
  |cons x l ih=>rw[List.flatMap_cons,List.length_append,ih,List.length_map,List.length_cons,Nat.succ_mul];omega
 rw[this]
 exact Nat.le_trans (Nat.mul_le_mul h1 h2) (by decide)
theorem qya {p:qb}{c:Bool}(h:okP p):f99 p c=some (some (ki p c),true):=by
 unfold f99
 rw[q6i h.1,j6,q7z h.1,j6]
 have:=qe8 (qap p.pa p.sa c) (fun i=>(i:Int)) (qqa p c (some (qap p.pa p.sa c),true)) (fun a=>(qap p.pb p.sb c).map fun b=>(⟨p.kd,a,b⟩:ql)) [] (fun i l=>l.length≤3*i) (by simp) (fun l=>by
  unfold qqa
  simp only[Option.getD_some]
  rw[kc];rfl) (fun i x l hx hi hl=>by
  have hn:=qk3 (a:=p.pa) (s:=p.sa) (c:=c)
  have hm:=qk3 (a:=p.pb) (s:=p.sb) (c:=c)
  refine⟨by rw[List.length_append,List.length_map];omega,?_⟩
  unfold qqa
  simp only[Option.getD_some]
  rw[kl hi,cT,y8 hx,j6,q6i h.2,j6,q7z h.2,j6]
  have inner:=qe8 (qap p.pb p.sb c) (fun j=>(j:Int)) (qqr p c (some (qap p.pa p.sa c),true) (za l,(i:Int),yx l) x (some (qap p.pb p.sb c),true)) (fun b=>[(⟨p.kd,x,b⟩:ql)]) l (fun j k=>k.length=l.length+j) (by simp) (fun k=>by
   unfold qqr
   simp only[Option.getD_some]
   rw[kc];rfl) (fun j y k hy hj hk=>by
   refine⟨by simp[hk];omega,?_⟩
   unfold qqr
   simp only[Option.getD_some]
   rw[kl hj,cT,y8 hy,j6,qc3 (by omega),yg hj (by omega),qc8])
  rw[qeq]at inner
  rw[show(((0:Nat):Int))=0 from rfl]at inner
  rw[inner,j6,yg hi (by omega)])
 rw[show(za ([]:List ql),((0:Nat):Int),yx ([]:List ql))=(none,0,false)from rfl]at this
 rw[this,j6,List.nil_append]
 obtain⟨e1,e2⟩:=q0q (q6n (p:=p) (c:=c))
 show some (za (ki p c),yx (ki p c))=_
 rw[e1,e2]
theorem q6j {p:qb}(h:okP p):f104 p=some (some (ki p false),true):=by
 obtain⟨⟨a1,a2,a3,a4⟩,b1,b2,b3,b4⟩:=id h
 unfold f104
 have:=qe8 (qap p.pa p.sa false) (fun i=>p.pa-p.sa+i) (qlm p) (fun a=>(qap p.pb p.sb false).map fun b=>(⟨p.kd,a,b⟩:ql)) [] (fun i l=>l.length≤3*i) (by simp) (fun l=>by
  unfold qlm
  simp only[]
  rw[qid h.1,qba (by omega),dF (by omega)];rfl) (fun i x l hx hi hl=>by
  have hn:=qk3 (a:=p.pa) (s:=p.sa) (c:=false)
  have hm:=qk3 (a:=p.pb) (s:=p.sb) (c:=false)
  have hxi:=qzc h.1 hx
  have hnl:=qid h.1
  refine⟨by rw[List.length_append,List.length_map];omega,?_⟩
  unfold qlm
  simp only[]
  rw[qba (x:=p.pa+p.sa) (by omega),dT (by omega),cT]
  have inner:=qe8 (qap p.pb p.sb false) (fun j=>p.pb-p.sb+j) (qmm p (za l,p.pa-p.sa+(i:Int),yx l)) (fun b=>[(⟨p.kd,x,b⟩:ql)]) l (fun j k=>k.length=l.length+j) (by simp) (fun k=>by
   unfold qmm
   simp only[]
   rw[qid h.2,qba (by omega),dF (by omega)];rfl) (fun j y k hy hj hk=>by
   have hyj:=qzc h.2 hy
   have hml:=qid h.2
   refine⟨by simp[hk];omega,?_⟩
   unfold qmm
   simp only[]
   rw[qba (x:=p.pb+p.sb) (by omega),dT (by omega),cT,qc3 (by omega),qba (by omega),qc8,hyj,hxi]
   congr 4
   omega)
  rw[qeq]at inner
  rw[show p.pb-p.sb+((0:Nat):Int)=p.pb-p.sb by omega]at inner
  rw[qba (x:=p.pb-p.sb) (by omega),inner,j6,qba (by omega)]
  congr 4
  omega)
 rw[show p.pa-p.sa+((0:Nat):Int)=p.pa-p.sa by omega]at this
 rw[qba (x:=p.pa-p.sa) (by omega)]
 rw[show(za ([]:List ql),p.pa-p.sa,yx ([]:List ql))=(none,p.pa-p.sa,false)from rfl]at this
 rw[this,j6,List.nil_append]
 obtain⟨e1,e2⟩:=q0q (q6n (p:=p) (c:=false))
 show some (za (ki p false),yx (ki p false))=_
 rw[e1,e2]
theorem jip {l:List ql}(hl:l.length≤1073741824):f110 (some l)=some (za (l.map qa8),yx (l.map qa8)):=by
 unfold f110
 rw[qo4 l (qmi (some l)) qa8 hl (fun a=>by unfold qmi;simp only[Option.getD_some];rw[kc];rfl) (fun i x a hx hi ha=>by
  unfold qmi
  simp only[Option.getD_some]
  rw[kl hi,cT,y8 hx,j6,jfm,j6,qc3 ha,yg hi (by omega)]),j6]
def qha (p:qb):Int:=y9 [qbg (!qrr p.name) 8,qa8 ⟨p.kd,p.pa,p.pb⟩,yj p.sa 0 1,yj p.sb 0 1,yj p.cost 1 1000000,yj p.stock 0 100]
def qaz (p:qb):Int:=if qha p=0 then qbg (!decide (y9 ((ki p false).map qa8)=0)) 1 else qha p
theorem qfn {n lo hi:Int}:yj n lo hi=0↔lo≤n∧n≤hi:=by
 unfold yj
 split
 ·constructor
  ·intro h;cases h
  ·intro h;omega
 ·split
  ·constructor
   ·intro h;cases h
   ·intro h;omega
  ·constructor
   ·intro;omega
   ·intro;rfl
theorem jco {x:ql}(h:qa8 x=0):isK x.kind=true∧(0≤x.a∧x.a≤8)∧(0≤x.b∧x.b≤8)∧¬(qde x.kind=true∧x.a=0∧x.b=0):=by
 have:=qao.1 h
 simp only[List.mem_cons,List.not_mem_nil,or_false,forall_eq_or_imp,forall_eq]at this
 obtain⟨h1,h2,h3,h4⟩:=this
 refine⟨?_,qfn.1 h2,qfn.1 h3,?_⟩
 ·cases hk:isK x.kind with
  |true=>rfl
  |false=>rw[hk]at h1;cases h1
 ·rintro ⟨hd,ha,hb⟩
  rw[hd,ha,hb]at h4
  cases h4
theorem qz1 {p:qb}(h:qha p=0):okP p:=by
 have:=qao.1 h
 simp only[List.mem_cons,List.not_mem_nil,or_false,forall_eq_or_imp,forall_eq]at this
 obtain⟨_,h2,h3,h4,_⟩:=this
 obtain⟨_,ha,hb,_⟩:=jco h2
 have e1:=qfn.1 h3
 have e2:=qfn.1 h4
 exact⟨⟨ha.1,ha.2,e1.1,e1.2⟩,⟨hb.1,hb.2,e2.1,e2.2⟩⟩
theorem jmj {p:qb}:f22 p=some (qaz p):=by
 unfold f22
 simp only[jin,qfm,q7q,qoe,j6]
 rw[qgr (by simp),j6]
 show cond (decide (qha p=0)) _ (some (qha p))=_
 unfold qaz
 by_cases h:qha p=0
 ·rw[dT h,cT,if_pos h,qya (qz1 h),j6,jip (by have:=qd1 (p:=p) (c:=false);omega),j6,
   q7t (by rw[yd,List.length_map];have:=qd1 (p:=p) (c:=false);omega),j6,yd]
 ·rw[dF h,if_neg h];rfl
theorem jkg {α:Type}{l:List α}{i:Nat}{x:α}(hx:l[i]?=some x):qkf (some l) (some (i:Int)) (some ((i+1:Nat):Int))=some (some [x]):=by
 have hi:=(List.getElem?_eq_some_iff.1 hx).1
 unfold qkf q4t qil
 simp only[Option.getD_some]
 rw[if_pos ⟨by omega,by omega⟩]
 simp only[Int.toNat_natCast]
 rw[if_pos ⟨by omega,by omega⟩]
 simp only[Option.map_some,Int.toNat_natCast]
 rw[List.drop_take,show i+1-i=1 by omega,kh hx]
 rfl
theorem jg7 {l:List Int}:(l.all fun x=>decide (x=0))=decide (y9 l=0):=by
 induction l with
 |nil=>rfl
 |cons x l ih=>
  rw[List.all_cons,ih]
  show _=decide ((if x=0 then y9 l else x)=0)
  by_cases h:x=0<;>simp[h]
theorem jnj {p:qb}:f20 p=some (qaz p):=by
 unfold f20
 simp only[jie,q7h,q7n,qs2,j6,Option.getD_some,qnl]
 rw[qqy (by simp),j6]
 show cond (decide (qha p=0)) _ (some (qha p))=_
 unfold qaz
 by_cases h:qha p=0
 ·rw[dT h,cT,if_pos h,q6j (qz1 h),j6]
  have hv:=qd1 (p:=p) (c:=false)
  obtain⟨d,g1,g2⟩:=qe5 (ki p false) (qp4 (some (ki p false),true)) (fun x=>decide (qa8 x=0)) (fun d=>match d with | .inl _=>false | .inr _=>true) ⟨.inr _,by unfold qp4;simp only[Option.getD_some];rw[kc];rfl,rfl⟩ (fun i x hx hi=>by
   unfold qp4
   simp only[Option.getD_some]
   rw[kl hi,cT,yg hi (by omega),jkg hx,j6,q7n,j6,Option.getD_some,qnl]
   by_cases he:qa8 x=0
   ·exact .inl ⟨by simp[he],by rw[dT he];rfl⟩
   ·exact .inr ⟨by simp[he],.inl (),by rw[dF he];rfl,rfl⟩)
  rw[g1,j6]
  have e:(ki p false).all (fun x=>decide (qa8 x=0))=decide (y9 ((ki p false).map qa8)=0):=by
   rw[←jg7,List.all_map];rfl
  rw[e]at g2
  rw[←g2]
  cases d<;>rfl
 ·rw[dF h,if_neg h];rfl
def qgj:List (List UInt8)→List qb→Int
 |_,[]=>0
 |seen,p::l=>if y9 [qaz p,qbg (decide (p.name∈seen)) 9]=0 then qgj (seen++[p.name]) l else y9 [qaz p,qbg (decide (p.name∈seen)) 9]
def qb2 (l:List qb):Int:=if 6<l.length then 5 else qgj [] l
theorem q0e {l:List qb}{i:Nat}{p:qb}(hp:l[i]?=some p):(l.take (i+1)).map (·.name)=(l.take i).map (·.name)++[p.name]:=by
 obtain⟨hi,rfl⟩:=List.getElem?_eq_some_iff.1 hp
 rw[List.take_add_one,List.getElem?_eq_getElem hi,List.map_append]
 rfl
theorem qye {o:Option (List qb)}:f23 o=some (qb2 (o.getD [])):=by
 unfold f23 qb2
 by_cases h6:(6:Int)<((o.getD []).length:Int)
 ·rw[dT h6,if_pos (by omega)];rfl
 ·rw[dF h6,if_neg (by omega),cF]
  generalize hl:o.getD []=l at h6 ⊢
  obtain⟨d,g1,g2⟩:=qdc l.length (fun i=>((i:Int),(l.take i).map (·.name))) (qm4 o) (fun d=>match d with | .inl x=>x.1 | .inr _=>0) (fun i=>qgj ((l.take i).map (·.name)) (l.drop i)) ⟨.inr _,by unfold qm4;simp only[hl];rw[kc];rfl,by rw[List.drop_eq_nil_of_le (Nat.le_refl _)];rfl⟩ (fun i hi=>by
   obtain⟨p,hp⟩:∃p,l[i]?=some p:=⟨_,List.getElem?_eq_getElem hi⟩
   unfold qm4
   simp only[hl]
   rw[kl hi,cT,y8 hp,j6,jmj,j6,qfm,j6,qgr (by simp),j6,yg hi (by omega),kh hp]
   simp only[qgj]
   rw[show qnq (List.map (·.name) (List.take i l)) p.name=decide (p.name∈(l.take i).map (·.name))from rfl]
   by_cases he:y9 [qaz p,qbg (decide (p.name∈(l.take i).map (·.name))) 9]=0
   ·left
    rw[dT he,cT,if_pos he,q0e hp]
    refine⟨?_,rfl⟩
    have hn:decide (p.name∈(l.take i).map (·.name))=false:=by
     cases hm:decide (p.name∈(l.take i).map (·.name))with
     |false=>rfl
     |true=>
      rw[hm]at he
      have:=qao.1 he (qbg true 9) (by simp)
      cases this
    have ha:qvn ((l.take i).map (·.name)) p.name=some ((l.take i).map (·.name)++[p.name]):=by
     unfold qvn qnq
     rw[hn]
     simp only[Bool.false_eq_true,if_false]
     rw[if_pos (by rw[List.length_map,List.length_take];omega)]
    rw[ha];rfl
   ·right
    rw[dF he,cF,if_neg he]
    exact⟨_,rfl,rfl⟩)
  have g1:itO (qm4 o) (0,[])=some d:=g1
  rw[g1,j6]
  simp only[List.take_zero,List.map_nil,List.drop_zero]at g2
  rw[←g2]
  cases d<;>rfl
theorem jos {o:Option (List qb)}:f25 o=some (qb2 (o.getD [])):=by
 unfold f25 qb2
 by_cases h6:(6:Int)<((o.getD []).length:Int)
 ·rw[dT h6,if_pos (by omega)];rfl
 ·rw[dF h6,if_neg (by omega),cF]
  generalize hl:o.getD []=l at h6 ⊢
  obtain⟨d,g1,g2⟩:=qdc l.length (fun i=>(i:Int)) (qnj o) (fun d=>match d with | .inl x=>x | .inr _=>0) (fun i=>qgj ((l.take i).map (·.name)) (l.drop i)) ⟨.inr _,by unfold qnj;simp only[hl];rw[kc];rfl,by rw[List.drop_eq_nil_of_le (Nat.le_refl _)];rfl⟩ (fun i hi=>by
   obtain⟨p,hp⟩:∃p,l[i]?=some p:=⟨_,List.getElem?_eq_getElem hi⟩
   unfold qnj
   simp only[hl]
   rw[kl hi,cT,y8 hp,j6,jnj,j6,yg hi (by omega),kh hp]
   simp only[qgj,y9]
   by_cases he:qaz p=0
   ·rw[dT he,cT]
    have hti:(l.take i).length=i:=by rw[List.length_take];omega
    obtain⟨d,k1,k2⟩:=qe5 (l.take i) (qqk o (i:Int)) (fun x=>!decide (x.name=p.name)) (fun d=>match d with | .inl _=>false | .inr _=>true) ⟨.inr _,by unfold qqk;rw[hti,kc];rfl,rfl⟩ (fun k x hx hk=>by
     have hki:k<i:=by omega
     have hxl:l[k]?=some x:=by rw[List.getElem?_take,if_pos hki]at hx;exact hx
     unfold qqk
     simp only[hl]
     rw[dT (show(k:Int)<(i:Int) by omega),cT,y8 hxl,j6,y8 hp,j6,yg hki (by omega)]
     by_cases hxn:x.name=p.name
     ·exact .inr ⟨by simp[hxn],.inl (),by rw[dT hxn];rfl,rfl⟩
     ·exact .inl ⟨by simp[hxn],by rw[dF hxn];rfl⟩)
    rw[k1,j6]
    have hmem:decide (p.name∈(l.take i).map (·.name))=!((l.take i).all fun x=>!decide (x.name=p.name)):=by
     rw[Bool.eq_iff_iff]
     simp only[decide_eq_true_eq,List.mem_map,Bool.not_eq_true',List.all_eq_false,Bool.not_eq_true',Bool.not_eq_false]
    rw[hmem,←k2]
    cases d with
    |inl d=>right;exact⟨_,rfl,by simp[he,qbg]⟩
    |inr d=>left;refine⟨rfl,?_⟩;simp only[he,if_true,Bool.not_true,qbg,Bool.false_eq_true,if_false];rw[q0e hp]
   ·right
    rw[dF he,cF]
    exact⟨_,rfl,by simp[he]⟩)
  have g1:itO (qnj o) 0=some d:=g1
  rw[g1,j6]
  simp only[List.take_zero,List.map_nil,List.drop_zero]at g2
  rw[←g2]
  cases d<;>rfl
theorem qv5 {p:qb}(h:qaz p=0):okP p:=by
 refine qz1 ?_
 unfold qaz at h
 by_cases hA:qha p=0
 ·exact hA
 ·rw[if_neg hA]at h;exact h
def qsn (l:List qb):Bool:=(decide (l.length≤4)||decide (l.length=7))&&l.all fun p=>decide (p.name.length≤60)&&decide (p.kd.length≤60)
theorem q70 {n:Int}{p:qb}{A B:Option (Int⊕(Unit⊕Int))}(hA:A=B):
  ((decide (p.name.length≤60)&&decide (p.kd.length≤60))=true∧cond (decide (60<(p.name.length:Int))) (some (.inr (.inl ()))) (cond (decide (60<(p.kd.length:Int))) (some (.inr (.inl ()))) A)=B) ∨
  ((decide (p.name.length≤60)&&decide (p.kd.length≤60))=false∧∃d:Unit⊕Int,cond (decide (60<(p.name.length:Int))) (some (.inr (.inl ()))) (cond (decide (60<(p.kd.length:Int))) (some (.inr (.inl ()))) A)=some (.inr d)∧(match d with | .inl _=>false | .inr _=>true)=false):=by
 subst hA
 by_cases h1:p.name.length≤60
 ·have e1:decide (60<(p.name.length:Int))=false:=dF (by omega)
  by_cases h2:p.kd.length≤60
  ·have e2:decide (60<(p.kd.length:Int))=false:=dF (by omega)
   left
   rw[dT h1,dT h2,e1,e2]
   exact⟨rfl,rfl⟩
  ·have e2:decide (60<(p.kd.length:Int))=true:=dT (by omega)
   right
   rw[dF h2,e1,e2]
   exact⟨by simp,.inl (),rfl,rfl⟩
 ·have e1:decide (60<(p.name.length:Int))=true:=dT (by omega)
  right
  rw[dF h1,e1]
  exact⟨by simp,.inl (),rfl,rfl⟩
theorem jov {o:Option (List qb)}:f17 o=some (qsn (o.getD [])):=by
 unfold f17 qsn
 generalize hl:o.getD []=l
 have hs:l.length≤7→∃d,itO (qkg o) 0=some d∧(match d with | .inl _=>false | .inr _=>true)=l.all fun p=>decide (p.name.length≤60)&&decide (p.kd.length≤60):=fun hn=>
  qe5 l (qkg o) _ (fun d=>match d with | .inl _=>false | .inr _=>true) ⟨.inr _,by unfold qkg;simp only[hl];rw[kc];rfl,rfl⟩ (fun i x hx hi=>by
   unfold qkg
   simp only[hl]
   rw[kl hi,cT,y8 hx,j6,yg hi (by omega)]
   exact q70 (n:=0) rfl)
 have hb:qr3 o=qkg o:=rfl
 by_cases h4:(4:Int)<(l.length:Int)
 ·rw[dT h4,cT,dF (show ¬l.length≤4 by omega)]
  by_cases h7:(l.length:Int)=7
  ·obtain⟨d,g1,g2⟩:=hs (by omega)
   rw[dT h7,cT,dT (show l.length=7 by omega),g1,j6,←g2]
   cases d<;>rfl
  ·rw[dF h7,dF (show ¬l.length=7 by omega)];rfl
 ·obtain⟨d,g1,g2⟩:=hs (by omega)
  rw[dF h4,cF,dT (show l.length≤4 by omega),hb,g1,j6,←g2]
  cases d<;>rfl
theorem q4f {o:Option (List qb)}(hn:(o.getD []).length≤1073741824):f24 o=some (za (o.getD []),yx (o.getD [])):=by
 unfold f24
 rw[qo4 (o.getD []) (qq0 o) id hn (fun a=>by unfold qq0;rw[kc];rfl) (fun i x a hx hi ha=>by
  unfold qq0
  rw[kl hi,cT,y8 hx,j6,show f19 x=some x from rfl,j6,qc3 ha,yg hi (by omega)];rfl),j6,List.map_id]
end Go.Z
