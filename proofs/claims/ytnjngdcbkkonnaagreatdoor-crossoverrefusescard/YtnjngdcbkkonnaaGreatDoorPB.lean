/- Loops as plain functions of their lists. -/
import Derived.Test.YtnjngdcbkkonnaaGreatDoorA1
set_option linter.unusedVariables false
set_option linter.unusedSimpArgs false
set_option maxRecDepth 100000
namespace Go.Z
open Go Go.Abs
theorem qc0 {σ δ γ:Type}(n:Nat)(mk:Nat→σ)(f:σ→Option (σ⊕δ))(V:δ→γ)(r:Nat→γ)(hend:∃d,f (mk n)=some (.inr d)∧V d=r n)
  (hstep:∀i,i<n→(f (mk i)=some (.inl (mk (i+1)))∧r i=r (i+1))∨(∃d,f (mk i)=some (.inr d)∧V d=r i)):∃d,itO f (mk 0)=some d∧V d=r 0:=by
 have key:∀(k i:Nat),i+k=n→∃d,itO f (mk i)=some d∧V d=r i:=by
  intro k
  induction k with
  |zero=>
   intro i hi
   have:i=n:=by omega
   subst this
   obtain⟨d,h1,h2⟩:=hend
   exact⟨d,qab h1,h2⟩
  |succ k ih=>
   intro i hi
   rcases hstep i (by omega)with⟨h1,h2⟩|⟨d,h1,h2⟩
   ·rw[qbi h1,h2];exact ih (i+1) (by omega)
   ·exact⟨d,qab h1,h2⟩
 exact key n 0 (by omega)
theorem q1t {α:Type}{l:List α}{q:α→Int}{i:Nat}{x:α}(hx:l[i]?=some x):kf ((l.drop i).map q)=if q x=0 then kf ((l.drop (i+1)).map q)else q x:=by
 rw[kl hx];rfl
theorem qob {α δ:Type}(l:List α)(f:Int→Option (Int⊕δ))(q:α→Int)(V:δ→Int)(hend:∃d,f (l.length:Int)=some (.inr d)∧V d=0)
  (hstep:∀(i:Nat) x,l[i]?=some x→i<l.length→(q x=0∧f (i:Int)=some (.inl ((i+1:Nat):Int)))∨(q x≠0∧∃d,f (i:Int)=some (.inr d)∧V d=q x)):∃d,itO f 0=some d∧V d=kf (l.map q):=by
 have:=qc0 l.length (fun i=>(i:Int)) f V (fun i=>kf ((l.drop i).map q)) (by rw[List.drop_eq_nil_of_le (Nat.le_refl _)];exact hend) (fun i hi=>by
  obtain⟨x,hx⟩:∃x,l[i]?=some x:=⟨_,List.getElem?_eq_getElem hi⟩
  simp only[q1t hx]
  rcases hstep i x hx hi with⟨h1,h2⟩|⟨h1,h2⟩
  ·rw[if_pos h1];exact .inl ⟨h2,rfl⟩
  ·rw[if_neg h1];exact .inr h2)
 simpa using this
theorem qc3 {α δ:Type}(l:List α)(f:Int→Option (Int⊕δ))(q:α→Bool)(V:δ→Bool)(hend:∃d,f (l.length:Int)=some (.inr d)∧V d=true)
  (hstep:∀(i:Nat) x,l[i]?=some x→i<l.length→(q x=true∧f (i:Int)=some (.inl ((i+1:Nat):Int)))∨(q x=false∧∃d,f (i:Int)=some (.inr d)∧V d=false)):∃d,itO f 0=some d∧V d=l.all q:=by
 have:=qc0 l.length (fun i=>(i:Int)) f V (fun i=>(l.drop i).all q) (by rw[List.drop_eq_nil_of_le (Nat.le_refl _)];exact hend) (fun i hi=>by
  obtain⟨x,hx⟩:∃x,l[i]?=some x:=⟨_,List.getElem?_eq_getElem hi⟩
  simp only[kl hx,List.all_cons]
  rcases hstep i x hx hi with⟨h1,h2⟩|⟨h1,h2⟩
  ·rw[h1];exact .inl ⟨h2,rfl⟩
  ·rw[h1];exact .inr h2)
 simpa using this
theorem qe2 {α β:Type}(l:List α)(ix:Nat→Int)(f:Option (List β)×Int×Bool→Option ((Option (List β)×Int×Bool)⊕(Option (List β)×Bool×Int)))(h:α→List β)(a0:List β)(I:Nat→List β→Prop)(hI:I 0 a0)
  (hend:∀a,f (zb a,ix l.length,kh a)=some (.inr (zb a,kh a,ix l.length)))
  (hstep:∀(i:Nat) x a,l[i]?=some x→i<l.length→I i a→I (i+1) (a++h x)∧f (zb a,ix i,kh a)=some (.inl (zb (a++h x),ix (i+1),kh (a++h x)))):
  itO f (zb a0,ix 0,kh a0)=some (zb (a0++l.flatMap h),kh (a0++l.flatMap h),ix l.length):=by
 have key:∀(k i:Nat),i+k=l.length→∀a,I i a→itO f (zb a,ix i,kh a)=some (zb (a++(l.drop i).flatMap h),kh (a++(l.drop i).flatMap h),ix l.length):=by
  intro k
  induction k with
  |zero=>
   intro i hi a _
   have:i=l.length:=by omega
   subst this
   rw[List.drop_eq_nil_of_le (Nat.le_refl _),List.flatMap_nil,List.append_nil,qab (hend a)]
  |succ k ih=>
   intro i hi a ha
   obtain⟨x,hx⟩:∃x,l[i]?=some x:=⟨_,List.getElem?_eq_getElem (by omega)⟩
   obtain⟨h1,h2⟩:=hstep i x a hx (by omega) ha
   rw[qbi h2,ih (i+1) (by omega) _ h1,kl hx,List.flatMap_cons,List.append_assoc]
 have:=key l.length 0 (by omega) a0 hI
 rwa [List.drop_zero]at this
theorem qqv {α:Type}{a:List α}{x:α}(h:a.length<1073741824):apO (zb a) [x]=some (zb (a++[x])):=by
 unfold apO
 cases a with
 |nil=>rfl
 |cons y a=>
  have:((zb (y::a)).getD []).length + [x].length≤1073741824:=by simp[zb]at h ⊢;omega
  rw[if_pos this];rfl
theorem qbk {α γ:Type}{a:List α}{x:α}{k:Option (List α)→Option γ}(h:a.length<1073741824):cond (kh a) (j5 (apO (zb a) [x]) k) (cond (zb a).isNone (j5 (apO (zb a) [x]) k) none)=k (zb (a++[x])):=by
 rw[qqv h]
 cases a<;>rfl
theorem ya {α:Type}(a:List α):(zb a).getD []=a:=by cases a<;>rfl
theorem qep {α β:Type}(h:α→β):∀l:List α,l.flatMap (fun x=>[h x])=l.map h
 | []=>rfl
 |x::l=>by rw[List.flatMap_cons,qep h l];rfl
theorem qgn {α β:Type}(l:List α)(f:Option (List β)×Int×Bool→Option ((Option (List β)×Int×Bool)⊕(Option (List β)×Bool×Int)))(h:α→β)(hl:l.length≤1073741824)
  (hend:∀a:Option (List β)×Bool,f (a.1,(l.length:Int),a.2)=some (.inr (a.1,a.2,(l.length:Int))))
  (hstep:∀(i:Nat) x (a:List β),l[i]?=some x→i<l.length→a.length<1073741824→f (zb a,(i:Int),kh a)=some (.inl (zb (a++[h x]),((i+1:Nat):Int),true))):
  itO f (none,0,false)=some (zb (l.map h),kh (l.map h),(l.length:Int)):=by
 have:=qe2 l (fun i=>(i:Int)) f (fun x=>[h x]) [] (fun i a=>a.length=i) rfl (fun a=>hend (zb a,kh a)) (fun i x a hx hi ha=>⟨by simp[ha],by rw[hstep i x a hx hi (by omega),qck]⟩)
 rw[qep,List.nil_append]at this
 exact this
theorem yn {α:Type}{l:List α}{i:Nat}{x:α}(hx:l[i]?=some x):yd l (i:Int)=some x:=by rw[qgg,hx]
theorem kc {α:Type}{l:List α}{i:Nat}(h:i<l.length):decide ((i:Int)<(l.length:Int))=true:=dT (by omega)
theorem yu {n:Nat}:decide ((n:Int)<(n:Int))=false:=dF (by omega)
set_option maxHeartbeats 1000000
theorem qda {b:Bool}{e:Int}:f106 b e=some (qbf b e):=by cases b<;>rfl
theorem qzl {b:Bool}{e:Int}:f194 b e=some (qbf b e):=by cases b<;>rfl
theorem qzc {b:Bool}{e:Int}:f101 b e=some (qbf b e):=by cases b<;>rfl
theorem q6e {o:Option (List Int)}(hn:(o.getD []).length≤9223372036854775807):f105 o=some (kf (o.getD [])):=by
 obtain⟨d,h1,h2⟩:=qob (o.getD []) (qml o) id (fun d=>match d with | .inl x=>x | .inr _=>0) ⟨.inr _,by unfold qml;rw[yu];rfl,rfl⟩ (fun i x hx hi=>by
  unfold qml
  rw[kc hi,cT,yn hx,j6]
  by_cases h:x=0
  ·refine .inl ⟨h,?_⟩
   rw[dT h,cT,yb hi hn]
  ·refine .inr ⟨h,.inl x,?_,rfl⟩
   rw[dF h,cF])
 unfold f105
 rw[h1,j6]
 rw[List.map_id]at h2
 rw[←h2]
 cases d<;>rfl
theorem qfc {l:List Int}(hn:l.length≤100):f105 (some l)=some (kf l):=q6e (o:=some l) (by simp only[Option.getD_some];omega)
theorem jid {o:Option (List Int)}(hn:(o.getD []).length≤9223372036854775807):f171 o=some (kf (o.getD [])):=by
 obtain⟨d,h1,h2⟩:=qob (o.getD []) (qlf o) id (fun d=>match d with | .inl x=>x | .inr _=>0) ⟨.inr _,by unfold qlf;rw[yu];rfl,rfl⟩ (fun i x hx hi=>by
  unfold qlf
  rw[kc hi,cT,yn hx,j6]
  by_cases h:x=0
  ·refine .inl ⟨h,?_⟩
   rw[dT h,cT,yb hi hn]
  ·refine .inr ⟨h,.inl x,?_,rfl⟩
   rw[dF h,cF])
 unfold f171
 rw[h1,j6]
 rw[List.map_id]at h2
 rw[←h2]
 cases d<;>rfl
theorem qe0 {l:List Int}(hn:l.length≤100):f171 (some l)=some (kf l):=jid (o:=some l) (by simp only[Option.getD_some];omega)
theorem jip {o:Option (List Int)}(hn:(o.getD []).length≤9223372036854775807):f100 o=some (kf (o.getD [])):=by
 obtain⟨d,h1,h2⟩:=qob (o.getD []) (qma o) id (fun d=>match d with | .inl x=>x | .inr _=>0) ⟨.inr _,by unfold qma;rw[yu];rfl,rfl⟩ (fun i x hx hi=>by
  unfold qma
  rw[kc hi,cT,yn hx,j6]
  by_cases h:x=0
  ·refine .inl ⟨h,?_⟩
   rw[dT h,cT,yb hi hn]
  ·refine .inr ⟨h,.inl x,?_,rfl⟩
   rw[dF h,cF])
 unfold f100
 rw[h1,j6]
 rw[List.map_id]at h2
 rw[←h2]
 cases d<;>rfl
theorem qmg {l:List Int}(hn:l.length≤100):f100 (some l)=some (kf l):=jip (o:=some l) (by simp only[Option.getD_some];omega)
theorem qps {n lo hi:Int}:f109 n lo hi=some (yf n lo hi):=by
 unfold f109 yf
 by_cases h:n<lo
 ·simp only[h,decide_true,cT,qda,j6,qbf,if_true]
 ·by_cases h2:hi<n<;>simp[h,h2,qda,qbf]
theorem q6f {n lo hi:Int}:f195 n lo hi=some (yf n lo hi):=by
 unfold f195 yf
 by_cases h:n<lo
 ·simp only[h,decide_true,cT,qzl,j6,qbf,if_true]
 ·by_cases h2:hi<n<;>simp[h,h2,qzl,qbf]
theorem qpp {n lo hi:Int}:f40 n lo hi=some (yf n lo hi):=by
 unfold f40 yf
 by_cases h:n<lo
 ·simp[h]
 ·by_cases h2:hi<n<;>simp[h,h2]
theorem jiw {w:Int}:f172 w=some (yf w 1 8):=by unfold f172;rw[q6f];rfl
theorem jir {w:Int}:f122 w=some (yf w 1 8):=by unfold f122;rw[qps];rfl
theorem qbc:∀ {l:List Int},kf l=0↔∀x∈l,x=0
 | []=>by simp[kf]
 |x::l=>by
  simp only[kf,List.mem_cons,forall_eq_or_imp]
  by_cases h:x=0
  ·rw[if_pos h,qbc];simp[h]
  ·rw[if_neg h];simp[h]
theorem qsq {s:List UInt8}{i:Nat}{c:UInt8}(hc:s[i]?=some c):qk9 i (s.drop i)=(qrc i c.toNat&&qk9 (i+1) (s.drop (i+1))):=by
 rw[kl hc];rfl
theorem jhm {s:List UInt8}:f102 s=some (qsm s):=by
 unfold f102 qsm
 by_cases h0:s=[]
 ·subst h0;rfl
 have hl:¬((s.length:Int)=0):=by
  intro h
  exact h0 (List.eq_nil_of_length_eq_zero (by omega))
 by_cases h1:(24:Int)<s.length
 ·have h2:¬s.length≤24:=by omega
  simp[hl,h0,h1,h2]
 ·have h2:s.length≤24:=by omega
  obtain⟨d,g1,g2⟩:=qc0 s.length (fun i=>(i:Int)) (qjk s) (fun d=>match d with | .inl _=>false | .inr _=>true) (fun i=>qk9 i (s.drop i)) ⟨.inr _,by unfold qjk;rw[yu];rfl,by rw[List.drop_eq_nil_of_le (Nat.le_refl _)];rfl⟩ (fun i hi=>by
   obtain⟨c,hc⟩:∃c,s[i]?=some c:=⟨_,List.getElem?_eq_getElem hi⟩
   unfold qjk
   rw[qsq hc,kc hi,cT,yn hc,j6]
   simp only[yb hi (show s.length≤9223372036854775807 by omega)]
   unfold qrc
   have hx:0≤(c.toNat:Int):=by omega
   generalize (c.toNat:Int)=x at hx ⊢
   by_cases z:i=0
   ·subst z
    rcases kinds x with h|h|h|h|h|h|h|h|h <;>
     simp (disch:=omega) only[dT,dF,cT,cF,Bool.or_false,Bool.false_or,Bool.true_or,Bool.and_true,Bool.true_and,Bool.false_and] <;>
     first
      |exact .inl ⟨trivial,trivial⟩
      |exact .inl ⟨rfl,trivial⟩
      |exact .inl ⟨rfl,rfl⟩
      |exact .inr ⟨_,rfl,rfl⟩
   ·rcases kinds x with h|h|h|h|h|h|h|h|h <;>
     simp (disch:=omega) only[dT,dF,cT,cF,Bool.or_false,Bool.or_true,Bool.false_or,Bool.true_or,Bool.and_true,Bool.true_and,Bool.false_and] <;>
     first
      |exact .inl ⟨trivial,trivial⟩
      |exact .inl ⟨rfl,trivial⟩
      |exact .inl ⟨rfl,rfl⟩
      |exact .inr ⟨_,rfl,rfl⟩)
  have g1:itO (qjk s) 0=some d:=g1
  rw[dF hl,cF,dF h1,cF,g1,j6]
  simp only[h0,h2,ne_eq,not_false_eq_true,decide_true,Bool.true_and]
  rw[List.drop_zero]at g2
  rw[←g2]
  cases d<;>rfl
theorem qx1 {s:List UInt8}{i:Nat}{c:UInt8}(hc:s[i]?=some c):(c.toNat<128∧zk s i=(c.toNat,1))∨(128≤c.toNat∧128≤(zk s i).1):=by
 by_cases h:c.toNat<128
 ·exact .inl ⟨h,q9l hc h⟩
 ·exact .inr ⟨by omega,jca hc h⟩
theorem q0b {i:Nat}{x:Int}(h:128≤x):qrc i x=false:=by
 unfold qrc
 simp (disch:=omega) only[dF,Bool.or_self,Bool.and_false]
def jvv:Nat→Option Nat
 |0=>none
 |i+1=>some (i+1)
theorem jgm {s:List UInt8}:f107 s=some (qsm s):=by
 unfold f107
 obtain⟨d,g1,g2⟩:=qc0 s.length jvv (qr2 s) (fun d=>match d with | .inl _=>false | .inr _=>true) (fun i=>qk9 i (s.drop i)) (by
   rw[List.drop_eq_nil_of_le (Nat.le_refl _)]
   cases hn:s.length with
   |zero=>
    refine⟨.inr 0,?_,rfl⟩
    show qgs s=_
    unfold qgs
    rw[hn];rfl
   |succ n=>
    refine⟨.inr (n+1),?_,rfl⟩
    show qgl s (n+1)=_
    unfold qgl
    rw[hn,dF (by omega)];rfl) (fun i hi=>by
   obtain⟨c,hc⟩:∃c,s[i]?=some c:=⟨_,List.getElem?_eq_getElem hi⟩
   rw[qsq hc]
   cases i with
   |zero=>
    show(qgs s=_∧_)∨(∃d,qgs s=_∧_)
    unfold qgs
    rw[dT hi,cT]
    rcases qx1 hc with⟨hlt,he⟩|⟨hge,hr⟩
    ·rw[he]
     simp only[]
     have hx:0≤(c.toNat:Int):=by omega
     unfold qrc
     generalize (c.toNat:Int)=x at hx ⊢
     rcases kinds x with h|h|h|h|h|h|h|h|h <;>
      simp (disch:=omega) only[dT,dF,cT,cF,Bool.or_false,Bool.false_or,Bool.true_or,Bool.and_true,Bool.true_and,Bool.false_and] <;>
      first
       |exact .inl ⟨trivial,trivial⟩
       |exact .inl ⟨rfl,trivial⟩
       |exact .inl ⟨rfl,rfl⟩
       |exact .inr ⟨_,rfl,rfl⟩
    ·rw[q0b (by omega)]
     generalize hd:zk s 0=dd at hr ⊢
     have hr':(128:Int)≤(dd.1:Int):=by omega
     generalize (dd.1:Int)=x at hr' ⊢
     simp (disch:=omega) only[dT,dF,cT,cF,Bool.false_and]
     exact .inr ⟨_,rfl,rfl⟩
   |succ i=>
    show(qgl s (i+1)=_∧_)∨(∃d,qgl s (i+1)=_∧_)
    unfold qgl
    rw[dT hi,cT]
    rcases qx1 hc with⟨hlt,he⟩|⟨hge,hr⟩
    ·rw[he]
     simp only[]
     have hx:0≤(c.toNat:Int):=by omega
     unfold qrc
     generalize (c.toNat:Int)=x at hx ⊢
     have e0:decide (((i+1:Nat):Int)=0)=false:=dF (by omega)
     rcases kinds x with h|h|h|h|h|h|h|h|h <;>
      simp (disch:=omega) only[e0,dT,dF,cT,cF,Bool.or_false,Bool.or_true,Bool.false_or,Bool.true_or,Bool.and_true,Bool.true_and,Bool.false_and] <;>
      first
       |exact .inl ⟨trivial,trivial⟩
       |exact .inl ⟨rfl,trivial⟩
       |exact .inl ⟨rfl,rfl⟩
       |exact .inr ⟨_,rfl,rfl⟩
    ·rw[q0b (by omega)]
     generalize hd:zk s (i+1)=dd at hr ⊢
     have hr':(128:Int)≤(dd.1:Int):=by omega
     have e0:decide (((i+1:Nat):Int)=0)=false:=dF (by omega)
     generalize (dd.1:Int)=x at hr' ⊢
     simp (disch:=omega) only[e0,dT,dF,cT,cF,Bool.false_and]
     exact .inr ⟨_,rfl,rfl⟩)
 have g1:itO (qr2 s) none=some d:=g1
 rw[g1,j6]
 unfold qsm
 rw[List.drop_zero]at g2
 cases d with
 |inl d=>simp only[]at g2;rw[←g2];simp
 |inr d=>
  simp only[]at g2
  rw[←g2]
  by_cases h0:s=[]
  ·subst h0;rfl
  ·have e:decide ((s.length:Int)≤24)=decide (s.length≤24):=by by_cases h:s.length≤24<;>simp[h]<;>omega
   rw[e]
   simp[h0]
def kB:List UInt8:=[98,108,111,99,107]
def kSe:List UInt8:=[115,101,114,105,101,115]
def kSh:List UInt8:=[115,104,117,110,116]
def kT:List UInt8:=[116,114,97,112]
def isK (s:List UInt8):Bool:=decide (s=kB)||decide (s=kSe)||decide (s=kSh)||decide (s=kT)
def qc1 (s:List UInt8):Bool:=decide (s=kB)||decide (s=kT)
def qa7 (x:qk):Int:=kf [qbf (!isK x.kind) 13,yf x.a 0 8,yf x.b 0 8,qbf (qc1 x.kind&&decide (x.a=0)&&decide (x.b=0)) 6]
def qa0 (l:List qk):Int:=if 5<l.length then 5 else kf (l.map qa7)
theorem qe6 {δ:Type}{F q:Int}{A B:Option (Int⊕δ)}{d:δ}{V:δ→Int}(hF:F=q)(hA:A=B)(hV:V d=F):(q=0∧cond (decide (F=0)) A (some (.inr d))=B)∨(q≠0∧∃d',cond (decide (F=0)) A (some (.inr d))=some (.inr d')∧V d'=q):=by
 subst hF
 by_cases h:F=0
 ·exact .inl ⟨h,by rw[dT h];exact hA⟩
 ·exact .inr ⟨h,d,by rw[dF h];rfl,hV⟩
theorem q5x {o:Option (List qk)}:f158 o=some (qa0 (o.getD [])):=by
 unfold f158 qa0
 by_cases h5:(5:Int)<((o.getD []).length:Int)
 ·rw[dT h5,if_pos (by omega)];rfl
 ·rw[dF h5,if_neg (by omega),cF]
  have hn:(o.getD []).length≤9223372036854775807:=by omega
  obtain⟨d,g1,g2⟩:=qob (o.getD []) (qle o) qa7 (fun d=>match d with
   | .inl d226=>d226.1
   | .inr (.inl d227)=>d227.1
   | .inr (.inr (.inl d228))=>d228.1
   | .inr (.inr (.inr (.inl d229)))=>d229.1
   | .inr (.inr (.inr (.inr (.inl d230))))=>d230.1
   | .inr (.inr (.inr (.inr (.inr d231))))=>0) ⟨_,by unfold qle;rw[yu];rfl,rfl⟩ (fun i x hx hi=>by
    unfold qle
    rw[kc hi,cT,yn hx,j6,yb hi hn]
    simp only[qzl,q6f,j6]
    by_cases k1:x.kind=kB
    ·rw[dT (show x.kind=[98,108,111,99,107]from k1),cT]
     by_cases ha:x.a=0
     ·rw[dT ha,cT,qe0 (by simp),j6]
      exact qe6 (by simp[qa7,isK,qc1,k1,ha]) rfl rfl
     ·rw[dF ha,cF,qe0 (by simp),j6]
      exact qe6 (by simp[qa7,isK,qc1,k1,ha]) rfl rfl
    rw[dF (show ¬x.kind=[98,108,111,99,107]from k1),cF]
    by_cases k2:x.kind=kSe
    ·rw[dT (show x.kind=[115,101,114,105,101,115]from k2),cT,qe0 (by simp),j6]
     exact qe6 (by simp[qa7,isK,qc1,k2,kSe,kB,kT]) rfl rfl
    rw[dF (show ¬x.kind=[115,101,114,105,101,115]from k2),cF]
    by_cases k3:x.kind=kSh
    ·rw[dT (show x.kind=[115,104,117,110,116]from k3),cT,qe0 (by simp),j6]
     exact qe6 (by simp[qa7,isK,qc1,k3,kSh,kSe,kB,kT]) rfl rfl
    rw[dF (show ¬x.kind=[115,104,117,110,116]from k3),cF]
    by_cases k4:x.kind=kT
    ·rw[dT (show x.kind=[116,114,97,112]from k4),cT]
     by_cases ha:x.a=0
     ·rw[dT ha,cT,qe0 (by simp),j6]
      exact qe6 (by simp[qa7,isK,qc1,k4,ha]) rfl rfl
     ·rw[dF ha,cF,qe0 (by simp),j6]
      exact qe6 (by simp[qa7,isK,qc1,k4,ha]) rfl rfl
    rw[dF (show ¬x.kind=[116,114,97,112]from k4),cF,qe0 (by simp),j6]
    exact qe6 (by simp[qa7,isK,qc1,k1,k2,k3,k4]) rfl rfl)
  rw[g1,j6,←g2]
  rcases d with d|d|d|d|d|d<;>rfl
theorem qnp {x:qk}:qa0 [x]=qa7 x:=by
 unfold qa0
 simp only[List.length_cons,List.length_nil,List.map_cons,List.map_nil,kf]
 by_cases h:qa7 x=0<;>simp[h]
theorem q5w {x:qk}:f108 x=some (qa7 x):=by unfold f108;rw[q5x];simp only[Option.getD_some,qnp];rfl
theorem jdd {x:qk}:q1m x=some (qa7 x):=q5w
theorem jgv {l:List (List UInt8)}{s:List UInt8}(hn:l.length≤100):f191 (some l) s=some (!l.all fun y=>!decide (y=s)):=by
 unfold f191
 obtain⟨d,g1,g2⟩:=qc3 l (ql2 (some l) s) (fun y=>!decide (y=s)) (fun d=>match d with | .inl _=>false | .inr _=>true) ⟨.inr _,by unfold ql2;simp only[Option.getD_some];rw[yu];rfl,rfl⟩ (fun i x hx hi=>by
  unfold ql2
  simp only[Option.getD_some]
  rw[kc hi,cT,yn hx,j6,yb hi (by omega)]
  by_cases h:x=s
  ·exact .inr ⟨by simp[h],.inl (),by rw[dT h];rfl,rfl⟩
  ·exact .inl ⟨by simp[h],by rw[dF h];rfl⟩)
 rw[g1,j6,←g2]
 cases d<;>rfl
theorem jg2 {x:qk}:f157 x=some (qa7 x):=by
 unfold f157
 have h192:f192=some (some [kB,kSe,kSh,kT]):=rfl
 rw[h192,j6,jgv (by decide),j6]
 have hk:(!([kB,kSe,kSh,kT].all fun y=>!decide (y=x.kind)))=isK x.kind:=by
  simp only[List.all_cons,List.all_nil,isK,Bool.and_true,Bool.not_and,Bool.not_not,eq_comm (a:=x.kind),Bool.or_assoc]
 rw[hk]
 simp only[qpp,j6]
 unfold qa7
 cases hK:isK x.kind with
 |false=>simp[kf,qbf]
 |true=>
  rw[cT,qmg (by simp),j6]
  have hd:f55 x.kind=some (qc1 x.kind):=by
   unfold f55 qc1
   by_cases h:x.kind=kB
   ·rw[dT (show x.kind=[98,108,111,99,107]from h),dT h];rfl
   ·rw[dF (show ¬x.kind=[98,108,111,99,107]from h),dF h];rfl
  rw[hd]
  by_cases h1:yf x.a 0 8=0
  ·by_cases h2:yf x.b 0 8=0
   ·simp only[kf,h1,h2,if_true,decide_true,cT,j6]
    cases hD:qc1 x.kind with
    |false=>simp[qbf]
    |true=>
     by_cases ha:x.a=0
     ·by_cases hb:x.b=0<;>simp[qbf,ha,hb]
     ·simp[qbf,ha]
   ·simp[kf,h1,h2,qbf]
  ·simp[kf,h1,qbf]
theorem q55 {o:Option (List qk)}:f103 o=some (qa0 (o.getD [])):=by
 unfold f103 qa0
 by_cases h5:(5:Int)<((o.getD []).length:Int)
 ·rw[dT h5,if_pos (by omega)];rfl
 ·rw[dF h5,if_neg (by omega),cF]
  have hn:(o.getD []).length≤9223372036854775807:=by omega
  obtain⟨d,g1,g2⟩:=qob (o.getD []) (qmj o) qa7 (fun d=>match d with | .inl x=>x | .inr _=>0) ⟨.inr _,by unfold qmj;rw[yu];rfl,rfl⟩ (fun i x hx hi=>by
   unfold qmj
   rw[kc hi,cT,yn hx,j6,jg2,j6,yb hi hn]
   exact qe6 rfl rfl rfl)
  rw[g1,j6,←g2]
  cases d<;>rfl
def qaq (a s:Int)(c:Bool):List Int:=if s=0 then [a]else if c then [a-s,a+s]else [a-1,a,a+1]
def okN (a s:Int):Prop:=0≤a∧a≤8∧0≤s∧s≤1
theorem qa5 {x:Int}(h:-1000000≤x∧x≤1000000):za .i64 x=x:=by
 exact yz (by omega) (by omega)
theorem qh5 {a s:Int}(h:okN a s):((qaq a s false).length:Int)=2*s+1:=by
 obtain⟨h1,h2,h3,h4⟩:=h
 rcases(show s=0∨s=1 by omega)with rfl|rfl<;>rfl
theorem qzp {a s:Int}(h:okN a s){i:Nat}{x:Int}(hx:(qaq a s false)[i]?=some x):x=a-s+i:=by
 obtain⟨h1,h2,h3,h4⟩:=h
 rcases(show s=0∨s=1 by omega)with rfl|rfl
 ·match i,hx with
  |0,hx=>cases hx;omega
 ·match i,hx with
  |0,hx=>cases hx;omega
  |1,hx=>cases hx;omega
  |2,hx=>cases hx;omega
theorem qk8 {a s:Int}{c:Bool}:(qaq a s c).length≤3:=by
 unfold qaq
 split
 ·simp
 ·split<;>simp
theorem q6j {a s:Int}(h:okN a s):f155 a s=some ⟨a-s,a+s⟩:=by
 obtain⟨h1,h2,h3,h4⟩:=h
 unfold f155
 rw[qa5 (by omega),qa5 (by omega)]
theorem q6d {a s:Int}{c:Bool}(h:okN a s):f156 ⟨a-s,a+s⟩ c=some (some (qaq a s c),true):=by
 have h':=h
 obtain⟨h1,h2,h3,h4⟩:=h'
 unfold f156
 simp only[]
 by_cases hs:s=0
 ·subst hs
  rw[dT (by omega)]
  simp[qaq]
 ·rw[dF (by omega),cF]
  cases c with
  |true=>simp[qaq,hs]
  |false=>
   rw[cF]
   have:=qe2 (qaq a s false) (fun i=>a-s+i) (qlk ⟨a-s,a+s⟩) (fun x=>[x]) [] (fun i l=>l.length=i) rfl (fun l=>by
    unfold qlk
    simp only[]
    rw[qh5 h,dF (by omega)];rfl) (fun i x l hx hi hl=>by
    have hxi:=qzp h hx
    have:=qh5 h
    refine⟨by simp[hl],?_⟩
    unfold qlk
    simp only[]
    rw[dT (by omega),cT,qbk (by omega),qa5 (by omega),qck,hxi]
    congr 4
    omega)
   have e0:a-s+((0:Nat):Int)=a-s:=by omega
   rw[e0]at this
   rw[show(zb ([]:List Int),a-s,kh ([]:List Int))=(none,a-s,false)from rfl]at this
   rw[this,j6,List.nil_append,qep,List.map_id']
   have hne:qaq a s false=[a-1,a,a+1]:=by simp[qaq,hs]
   rw[hne];rfl
def ki (p:qb)(c:Bool):List qk:=(qaq p.pa p.sa c).flatMap fun a=>(qaq p.pb p.sb c).map fun b=>⟨p.kd,a,b⟩
def okP (p:qb):Prop:=okN p.pa p.sa∧okN p.pb p.sb
theorem q6t {p:qb}{c:Bool}:ki p c≠[]:=by
 have h:∀a s,qaq a s c≠[]:=by
  intro a s
  unfold qaq
  split
  ·simp
  ·split<;>simp
 unfold ki
 obtain⟨x,l,hx⟩:∃x l,qaq p.pa p.sa c=x::l:=by
  cases hn:qaq p.pa p.sa c with
  |nil=>exact absurd hn (h _ _)
  |cons x l=>exact⟨x,l,rfl⟩
 obtain⟨y,m,hy⟩:∃x l,qaq p.pb p.sb c=x::l:=by
  cases hn:qaq p.pb p.sb c with
  |nil=>exact absurd hn (h _ _)
  |cons x l=>exact⟨x,l,rfl⟩
 rw[hx,hy]
 simp
theorem qz9 {α:Type}{l:List α}(h:l≠[]):zb l=some l∧kh l=true:=by
 cases l with
 |nil=>exact absurd rfl h
 |cons x l=>exact⟨rfl,rfl⟩
theorem qds {p:qb}{c:Bool}:(ki p c).length≤9:=by
 unfold ki
 have h1:=qk8 (a:=p.pa) (s:=p.sa) (c:=c)
 have h2:=qk8 (a:=p.pb) (s:=p.sb) (c:=c)
 generalize qaq p.pa p.sa c=l at h1
 generalize qaq p.pb p.sb c=m at h2
 have:∀l:List Int,(l.flatMap fun a=>m.map fun b=>(⟨p.kd,a,b⟩:qk)).length=l.length*m.length:=by
  intro l
  induction l with
  |nil=>simp
  |cons x l ih=>rw[List.flatMap_cons,List.length_append,ih,List.length_map,List.length_cons,Nat.succ_mul];omega
 rw[this]
 exact Nat.le_trans (Nat.mul_le_mul h1 h2) (by decide)
theorem q16 {p:qb}{c:Bool}(h:okP p):f99 p c=some (some (ki p c),true):=by
 unfold f99
 rw[q6j h.1,j6,q6d h.1,j6]
 have:=qe2 (qaq p.pa p.sa c) (fun i=>(i:Int)) (qp7 p c (some (qaq p.pa p.sa c),true)) (fun a=>(qaq p.pb p.sb c).map fun b=>(⟨p.kd,a,b⟩:qk)) [] (fun i l=>l.length≤3*i) (by simp) (fun l=>by
  unfold qp7
  simp only[Option.getD_some]
  rw[yu];rfl) (fun i x l hx hi hl=>by
  have hn:=qk8 (a:=p.pa) (s:=p.sa) (c:=c)
  have hm:=qk8 (a:=p.pb) (s:=p.sb) (c:=c)
  refine⟨by rw[List.length_append,List.length_map];omega,?_⟩
  unfold qp7
  simp only[Option.getD_some]
  rw[kc hi,cT,yn hx,j6,q6j h.2,j6,q6d h.2,j6]
  have inner:=qe2 (qaq p.pb p.sb c) (fun j=>(j:Int)) (qp6 p c (some (qaq p.pa p.sa c),true) (zb l,(i:Int),kh l) x (some (qaq p.pb p.sb c),true)) (fun b=>[(⟨p.kd,x,b⟩:qk)]) l (fun j k=>k.length=l.length+j) (by simp) (fun k=>by
   unfold qp6
   simp only[Option.getD_some]
   rw[yu];rfl) (fun j y k hy hj hk=>by
   refine⟨by simp[hk];omega,?_⟩
   unfold qp6
   simp only[Option.getD_some]
   rw[kc hj,cT,yn hy,j6,qbk (by omega),yb hj (by omega),qck])
  rw[qep]at inner
  rw[show(((0:Nat):Int))=0 from rfl]at inner
  rw[inner,j6,yb hi (by omega)])
 rw[show(zb ([]:List qk),((0:Nat):Int),kh ([]:List qk))=(none,0,false)from rfl]at this
 rw[this,j6,List.nil_append]
 obtain⟨e1,e2⟩:=qz9 (q6t (p:=p) (c:=c))
 show some (zb (ki p c),kh (ki p c))=_
 rw[e1,e2]
theorem qys {p:qb}(h:okP p):f104 p=some (some (ki p false),true):=by
 obtain⟨⟨a1,a2,a3,a4⟩,b1,b2,b3,b4⟩:=id h
 unfold f104
 have:=qe2 (qaq p.pa p.sa false) (fun i=>p.pa-p.sa+i) (qlx p) (fun a=>(qaq p.pb p.sb false).map fun b=>(⟨p.kd,a,b⟩:qk)) [] (fun i l=>l.length≤3*i) (by simp) (fun l=>by
  unfold qlx
  simp only[]
  rw[qh5 h.1,qa5 (by omega),dF (by omega)];rfl) (fun i x l hx hi hl=>by
  have hn:=qk8 (a:=p.pa) (s:=p.sa) (c:=false)
  have hm:=qk8 (a:=p.pb) (s:=p.sb) (c:=false)
  have hxi:=qzp h.1 hx
  have hnl:=qh5 h.1
  refine⟨by rw[List.length_append,List.length_map];omega,?_⟩
  unfold qlx
  simp only[]
  rw[qa5 (x:=p.pa+p.sa) (by omega),dT (by omega),cT]
  have inner:=qe2 (qaq p.pb p.sb false) (fun j=>p.pb-p.sb+j) (qli p (zb l,p.pa-p.sa+(i:Int),kh l)) (fun b=>[(⟨p.kd,x,b⟩:qk)]) l (fun j k=>k.length=l.length+j) (by simp) (fun k=>by
   unfold qli
   simp only[]
   rw[qh5 h.2,qa5 (by omega),dF (by omega)];rfl) (fun j y k hy hj hk=>by
   have hyj:=qzp h.2 hy
   have hml:=qh5 h.2
   refine⟨by simp[hk];omega,?_⟩
   unfold qli
   simp only[]
   rw[qa5 (x:=p.pb+p.sb) (by omega),dT (by omega),cT,qbk (by omega),qa5 (by omega),qck,hyj,hxi]
   congr 4
   omega)
  rw[qep]at inner
  rw[show p.pb-p.sb+((0:Nat):Int)=p.pb-p.sb by omega]at inner
  rw[qa5 (x:=p.pb-p.sb) (by omega),inner,j6,qa5 (by omega)]
  congr 4
  omega)
 rw[show p.pa-p.sa+((0:Nat):Int)=p.pa-p.sa by omega]at this
 rw[qa5 (x:=p.pa-p.sa) (by omega)]
 rw[show(zb ([]:List qk),p.pa-p.sa,kh ([]:List qk))=(none,p.pa-p.sa,false)from rfl]at this
 rw[this,j6,List.nil_append]
 obtain⟨e1,e2⟩:=qz9 (q6t (p:=p) (c:=false))
 show some (zb (ki p false),kh (ki p false))=_
 rw[e1,e2]
theorem jik {l:List qk}(hl:l.length≤1073741824):f110 (some l)=some (zb (l.map qa7),kh (l.map qa7)):=by
 unfold f110
 rw[qgn l (qmm (some l)) qa7 hl (fun a=>by unfold qmm;simp only[Option.getD_some];rw[yu];rfl) (fun i x a hx hi ha=>by
  unfold qmm
  simp only[Option.getD_some]
  rw[kc hi,cT,yn hx,j6,jdd,j6,qbk ha,yb hi (by omega)]),j6]
def qie (p:qb):Int:=kf [qbf (!qsm p.name) 8,qa7 ⟨p.kd,p.pa,p.pb⟩,yf p.sa 0 1,yf p.sb 0 1,yf p.cost 1 1000000,yf p.stock 0 100]
def qca (p:qb):Int:=if qie p=0 then qbf (!decide (kf ((ki p false).map qa7)=0)) 1 else qie p
theorem qjz {n lo hi:Int}:yf n lo hi=0↔lo≤n∧n≤hi:=by
 unfold yf
 split
 ·constructor
  ·intro h;cases h
  ·intro h;omega
 ·split
  ·constructor
   ·intro h;cases h
   ·intro h;omega
  ·constructor
   ·intro;omega
   ·intro;rfl
theorem jb6 {x:qk}(h:qa7 x=0):isK x.kind=true∧(0≤x.a∧x.a≤8)∧(0≤x.b∧x.b≤8)∧¬(qc1 x.kind=true∧x.a=0∧x.b=0):=by
 have:=qbc.1 h
 simp only[List.mem_cons,List.not_mem_nil,or_false,forall_eq_or_imp,forall_eq]at this
 obtain⟨h1,h2,h3,h4⟩:=this
 refine⟨?_,qjz.1 h2,qjz.1 h3,?_⟩
 ·cases hk:isK x.kind with
  |true=>rfl
  |false=>rw[hk]at h1;cases h1
 ·rintro ⟨hd,ha,hb⟩
  rw[hd,ha,hb]at h4
  cases h4
theorem qzs {p:qb}(h:qie p=0):okP p:=by
 have:=qbc.1 h
 simp only[List.mem_cons,List.not_mem_nil,or_false,forall_eq_or_imp,forall_eq]at this
 obtain⟨_,h2,h3,h4,_⟩:=this
 obtain⟨_,ha,hb,_⟩:=jb6 h2
 have e1:=qjz.1 h3
 have e2:=qjz.1 h4
 exact⟨⟨ha.1,ha.2,e1.1,e1.2⟩,⟨hb.1,hb.2,e2.1,e2.2⟩⟩
theorem jlb {p:qb}:f22 p=some (qca p):=by
 unfold f22
 simp only[jgm,qda,q5w,qps,j6]
 rw[qfc (by simp),j6]
 show cond (decide (qie p=0)) _ (some (qie p))=_
 unfold qca
 by_cases h:qie p=0
 ·rw[dT h,cT,if_pos h,q16 (qzs h),j6,jik (by have:=qds (p:=p) (c:=false);omega),j6,
   q6e (by rw[ya,List.length_map];have:=qds (p:=p) (c:=false);omega),j6,ya]
 ·rw[dF h,if_neg h];rfl
theorem jgj {α:Type}{l:List α}{i:Nat}{x:α}(hx:l[i]?=some x):qtv (some l) (some (i:Int)) (some ((i+1:Nat):Int))=some (some [x]):=by
 have hi:=(List.getElem?_eq_some_iff.1 hx).1
 unfold qtv jdx qnj
 simp only[Option.getD_some]
 rw[if_pos ⟨by omega,by omega⟩]
 simp only[Int.toNat_natCast]
 rw[if_pos ⟨by omega,by omega⟩]
 simp only[Option.map_some,Int.toNat_natCast]
 rw[List.drop_take,show i+1-i=1 by omega,kl hx]
 rfl
theorem jc6 {l:List Int}:(l.all fun x=>decide (x=0))=decide (kf l=0):=by
 induction l with
 |nil=>rfl
 |cons x l ih=>
  rw[List.all_cons,ih]
  show _=decide ((if x=0 then kf l else x)=0)
  by_cases h:x=0<;>simp[h]
theorem jnx {p:qb}:f20 p=some (qca p):=by
 unfold f20
 simp only[jhm,qzc,q55,qpp,j6,Option.getD_some,qnp]
 rw[qmg (by simp),j6]
 show cond (decide (qie p=0)) _ (some (qie p))=_
 unfold qca
 by_cases h:qie p=0
 ·rw[dT h,cT,if_pos h,qys (qzs h),j6]
  have hv:=qds (p:=p) (c:=false)
  obtain⟨d,g1,g2⟩:=qc3 (ki p false) (qq6 (some (ki p false),true)) (fun x=>decide (qa7 x=0)) (fun d=>match d with | .inl _=>false | .inr _=>true) ⟨.inr _,by unfold qq6;simp only[Option.getD_some];rw[yu];rfl,rfl⟩ (fun i x hx hi=>by
   unfold qq6
   simp only[Option.getD_some]
   rw[kc hi,cT,yb hi (by omega),jgj hx,j6,q55,j6,Option.getD_some,qnp]
   by_cases he:qa7 x=0
   ·exact .inl ⟨by simp[he],by rw[dT he];rfl⟩
   ·exact .inr ⟨by simp[he],.inl (),by rw[dF he];rfl,rfl⟩)
  rw[g1,j6]
  have e:(ki p false).all (fun x=>decide (qa7 x=0))=decide (kf ((ki p false).map qa7)=0):=by
   rw[←jc6,List.all_map];rfl
  rw[e]at g2
  rw[←g2]
  cases d<;>rfl
 ·rw[dF h,if_neg h];rfl
def qsk:List (List UInt8)→List qb→Int
 |_,[]=>0
 |seen,p::l=>if kf [qca p,qbf (decide (p.name∈seen)) 9]=0 then qsk (seen++[p.name]) l else kf [qca p,qbf (decide (p.name∈seen)) 9]
def qcs (l:List qb):Int:=if 6<l.length then 5 else qsk [] l
theorem qz1 {l:List qb}{i:Nat}{p:qb}(hp:l[i]?=some p):(l.take (i+1)).map (·.name)=(l.take i).map (·.name)++[p.name]:=by
 obtain⟨hi,rfl⟩:=List.getElem?_eq_some_iff.1 hp
 rw[List.take_add_one,List.getElem?_eq_getElem hi,List.map_append]
 rfl
theorem ja3 {o:Option (List qb)}:f23 o=some (qcs (o.getD [])):=by
 unfold f23 qcs
 by_cases h6:(6:Int)<((o.getD []).length:Int)
 ·rw[dT h6,if_pos (by omega)];rfl
 ·rw[dF h6,if_neg (by omega),cF]
  generalize hl:o.getD []=l at h6 ⊢
  obtain⟨d,g1,g2⟩:=qc0 l.length (fun i=>((i:Int),(l.take i).map (·.name))) (qnd o) (fun d=>match d with | .inl x=>x.1 | .inr _=>0) (fun i=>qsk ((l.take i).map (·.name)) (l.drop i)) ⟨.inr _,by unfold qnd;simp only[hl];rw[yu];rfl,by rw[List.drop_eq_nil_of_le (Nat.le_refl _)];rfl⟩ (fun i hi=>by
   obtain⟨p,hp⟩:∃p,l[i]?=some p:=⟨_,List.getElem?_eq_getElem hi⟩
   unfold qnd
   simp only[hl]
   rw[kc hi,cT,yn hp,j6,jlb,j6,qda,j6,qfc (by simp),j6,yb hi (by omega),kl hp]
   simp only[qsk]
   rw[show qno (List.map (·.name) (List.take i l)) p.name=decide (p.name∈(l.take i).map (·.name))from rfl]
   by_cases he:kf [qca p,qbf (decide (p.name∈(l.take i).map (·.name))) 9]=0
   ·left
    rw[dT he,cT,if_pos he,qz1 hp]
    refine⟨?_,rfl⟩
    have hn:decide (p.name∈(l.take i).map (·.name))=false:=by
     cases hm:decide (p.name∈(l.take i).map (·.name))with
     |false=>rfl
     |true=>
      rw[hm]at he
      have:=qbc.1 he (qbf true 9) (by simp)
      cases this
    have ha:qv1 ((l.take i).map (·.name)) p.name=some ((l.take i).map (·.name)++[p.name]):=by
     unfold qv1 qno
     rw[hn]
     simp only[Bool.false_eq_true,if_false]
     rw[if_pos (by rw[List.length_map,List.length_take];omega)]
    rw[ha];rfl
   ·right
    rw[dF he,cF,if_neg he]
    exact⟨_,rfl,rfl⟩)
  have g1:itO (qnd o) (0,[])=some d:=g1
  rw[g1,j6]
  simp only[List.take_zero,List.map_nil,List.drop_zero]at g2
  rw[←g2]
  cases d<;>rfl
theorem jm3 {o:Option (List qb)}:f25 o=some (qcs (o.getD [])):=by
 unfold f25 qcs
 by_cases h6:(6:Int)<((o.getD []).length:Int)
 ·rw[dT h6,if_pos (by omega)];rfl
 ·rw[dF h6,if_neg (by omega),cF]
  generalize hl:o.getD []=l at h6 ⊢
  obtain⟨d,g1,g2⟩:=qc0 l.length (fun i=>(i:Int)) (qm3 o) (fun d=>match d with | .inl x=>x | .inr _=>0) (fun i=>qsk ((l.take i).map (·.name)) (l.drop i)) ⟨.inr _,by unfold qm3;simp only[hl];rw[yu];rfl,by rw[List.drop_eq_nil_of_le (Nat.le_refl _)];rfl⟩ (fun i hi=>by
   obtain⟨p,hp⟩:∃p,l[i]?=some p:=⟨_,List.getElem?_eq_getElem hi⟩
   unfold qm3
   simp only[hl]
   rw[kc hi,cT,yn hp,j6,jnx,j6,yb hi (by omega),kl hp]
   simp only[qsk,kf]
   by_cases he:qca p=0
   ·rw[dT he,cT]
    have hti:(l.take i).length=i:=by rw[List.length_take];omega
    obtain⟨d,k1,k2⟩:=qc3 (l.take i) (qqx o (i:Int)) (fun x=>!decide (x.name=p.name)) (fun d=>match d with | .inl _=>false | .inr _=>true) ⟨.inr _,by unfold qqx;rw[hti,yu];rfl,rfl⟩ (fun k x hx hk=>by
     have hki:k<i:=by omega
     have hxl:l[k]?=some x:=by rw[List.getElem?_take,if_pos hki]at hx;exact hx
     unfold qqx
     simp only[hl]
     rw[dT (show(k:Int)<(i:Int) by omega),cT,yn hxl,j6,yn hp,j6,yb hki (by omega)]
     by_cases hxn:x.name=p.name
     ·exact .inr ⟨by simp[hxn],.inl (),by rw[dT hxn];rfl,rfl⟩
     ·exact .inl ⟨by simp[hxn],by rw[dF hxn];rfl⟩)
    rw[k1,j6]
    have hmem:decide (p.name∈(l.take i).map (·.name))=!((l.take i).all fun x=>!decide (x.name=p.name)):=by
     rw[Bool.eq_iff_iff]
     simp only[decide_eq_true_eq,List.mem_map,Bool.not_eq_true',List.all_eq_false,Bool.not_eq_true',Bool.not_eq_false]
    rw[hmem,←k2]
    cases d with
    |inl d=>right;exact⟨_,rfl,by simp[he,qbf]⟩
    |inr d=>left;refine⟨rfl,?_⟩;simp only[he,if_true,Bool.not_true,qbf,Bool.false_eq_true,if_false];rw[qz1 hp]
   ·right
    rw[dF he,cF]
    exact⟨_,rfl,by simp[he]⟩)
  have g1:itO (qm3 o) 0=some d:=g1
  rw[g1,j6]
  simp only[List.take_zero,List.map_nil,List.drop_zero]at g2
  rw[←g2]
  cases d<;>rfl
theorem qql {p:qb}(h:qca p=0):okP p:=by
 refine qzs ?_
 unfold qca at h
 by_cases hA:qie p=0
 ·exact hA
 ·rw[if_neg hA]at h;exact h
def qmk (l:List qb):Bool:=(decide (l.length≤4)||decide (l.length=7))&&l.all fun p=>decide (p.name.length≤60)&&decide (p.kd.length≤60)
theorem q68 {n:Int}{p:qb}{A B:Option (Int⊕(Unit⊕Int))}(hA:A=B):
  ((decide (p.name.length≤60)&&decide (p.kd.length≤60))=true∧cond (decide (60<(p.name.length:Int))) (some (.inr (.inl ()))) (cond (decide (60<(p.kd.length:Int))) (some (.inr (.inl ()))) A)=B) ∨
  ((decide (p.name.length≤60)&&decide (p.kd.length≤60))=false∧∃d:Unit⊕Int,cond (decide (60<(p.name.length:Int))) (some (.inr (.inl ()))) (cond (decide (60<(p.kd.length:Int))) (some (.inr (.inl ()))) A)=some (.inr d)∧(match d with | .inl _=>false | .inr _=>true)=false):=by
 subst hA
 by_cases h1:p.name.length≤60
 ·have e1:decide (60<(p.name.length:Int))=false:=dF (by omega)
  by_cases h2:p.kd.length≤60
  ·have e2:decide (60<(p.kd.length:Int))=false:=dF (by omega)
   left
   rw[dT h1,dT h2,e1,e2]
   exact⟨rfl,rfl⟩
  ·have e2:decide (60<(p.kd.length:Int))=true:=dT (by omega)
   right
   rw[dF h2,e1,e2]
   exact⟨by simp,.inl (),rfl,rfl⟩
 ·have e1:decide (60<(p.name.length:Int))=true:=dT (by omega)
  right
  rw[dF h1,e1]
  exact⟨by simp,.inl (),rfl,rfl⟩
theorem jkz {o:Option (List qb)}:f17 o=some (qmk (o.getD [])):=by
 unfold f17 qmk
 generalize hl:o.getD []=l
 have hs:l.length≤7→∃d,itO (qkb o) 0=some d∧(match d with | .inl _=>false | .inr _=>true)=l.all fun p=>decide (p.name.length≤60)&&decide (p.kd.length≤60):=fun hn=>
  qc3 l (qkb o) _ (fun d=>match d with | .inl _=>false | .inr _=>true) ⟨.inr _,by unfold qkb;simp only[hl];rw[yu];rfl,rfl⟩ (fun i x hx hi=>by
   unfold qkb
   simp only[hl]
   rw[kc hi,cT,yn hx,j6,yb hi (by omega)]
   exact q68 (n:=0) rfl)
 have hb:qr9 o=qkb o:=rfl
 by_cases h4:(4:Int)<(l.length:Int)
 ·rw[dT h4,cT,dF (show ¬l.length≤4 by omega)]
  by_cases h7:(l.length:Int)=7
  ·obtain⟨d,g1,g2⟩:=hs (by omega)
   rw[dT h7,cT,dT (show l.length=7 by omega),g1,j6,←g2]
   cases d<;>rfl
  ·rw[dF h7,dF (show ¬l.length=7 by omega)];rfl
 ·obtain⟨d,g1,g2⟩:=hs (by omega)
  rw[dF h4,cF,dT (show l.length≤4 by omega),hb,g1,j6,←g2]
  cases d<;>rfl
theorem q10 {x y:qk}:(decide (x.kind=y.kind)&&decide (x.a=y.a)&&decide (x.b=y.b))=true↔x=y:=by
 cases x;cases y
 simp[and_assoc]
theorem jl7 {a b:Option (List qk)}(hn:(a.getD []).length≤1073741824):∃r,f26 a b=some r∧(r=true↔a.getD []=b.getD []):=by
 unfold f26
 by_cases h:((a.getD []).length:Int)=((b.getD []).length:Int)
 ·rw[dT h,cT]
  obtain⟨d,g1,g2⟩:=qc0 (a.getD []).length (fun i=>(i:Int)) (qm4 a b) (fun d=>match d with | .inl _=>False | .inr _=>True) (fun i=>(a.getD []).drop i=(b.getD []).drop i) ⟨.inr _,by unfold qm4;rw[yu];rfl,by
    rw[List.drop_eq_nil_of_le (Nat.le_refl _),List.drop_eq_nil_of_le (by omega)];simp⟩ (fun i hi=>by
   obtain⟨x,hx⟩:∃x,(a.getD [])[i]?=some x:=⟨_,List.getElem?_eq_getElem hi⟩
   obtain⟨y,hy⟩:∃y,(b.getD [])[i]?=some y:=⟨_,List.getElem?_eq_getElem (by omega)⟩
   unfold qm4
   rw[kc hi,cT,yn hx,j6,yn hy,j6,yb hi (by omega),kl hx,kl hy]
   by_cases hxy:x=y
   ·left
    rw[q10.2 hxy]
    subst hxy
    exact⟨rfl,by simp⟩
   ·right
    have hf:(decide (x.kind=y.kind)&&decide (x.a=y.a)&&decide (x.b=y.b))=false:=by
     cases hc:(decide (x.kind=y.kind)&&decide (x.a=y.a)&&decide (x.b=y.b))with
     |false=>rfl
     |true=>exact absurd (q10.1 hc) hxy
    rw[hf]
    exact⟨.inl (),rfl,by simp[hxy]⟩)
  have g1:itO (qm4 a b) 0=some d:=g1
  rw[g1,j6]
  simp only[List.drop_zero]at g2
  cases d with
  |inl d=>exact⟨false,rfl,by rw[←g2];simp⟩
  |inr d=>exact⟨true,rfl,by rw[←g2];simp⟩
 ·rw[dF h]
  exact⟨false,rfl,⟨(fun hh=>by cases hh),(fun hh=>absurd (by rw[hh]) h)⟩⟩
theorem jkw {o:Option (List qk)}(hn:(o.getD []).length≤1073741824):f27 o=some (zb (o.getD []),kh (o.getD [])):=by
 unfold f27
 rw[qgn (o.getD []) (qqk o) id hn (fun a=>by unfold qqk;rw[yu];rfl) (fun i x a hx hi ha=>by
  unfold qqk
  rw[kc hi,cT,yn hx,j6,qbk ha,yb hi (by omega)];rfl),j6,List.map_id]
theorem jn2 {o:Option (List qb)}(hn:(o.getD []).length≤1073741824):f24 o=some (zb (o.getD []),kh (o.getD [])):=by
 unfold f24
 rw[qgn (o.getD []) (qrh o) id hn (fun a=>by unfold qrh;rw[yu];rfl) (fun i x a hx hi ha=>by
  unfold qrh
  rw[kc hi,cT,yn hx,j6,show f19 x=some x from rfl,j6,qbk ha,yb hi (by omega)];rfl),j6,List.map_id]
end Go.Z
