/- Chapter 10, plain. -/
import Derived.Test.YtimdocpnkimlfaaGreatDoorEA
import Derived.Test.YtimdocpnkimlfaaGreatDoorW12
set_option linter.unusedVariables false
set_option linter.unusedSimpArgs false
set_option maxRecDepth 100000
set_option maxHeartbeats 4000000
open Ne renaming symm→I
open Option renaming some→Ea
open Bool renaming false_and→Eb,true_and→Ec,or_false→Ek,false_or→En,and_true→E3,true_or→Ga,and_false→Gc,false→Ha,false_eq_true→Hb,true→Hu,or_true→Hy
namespace Go.Z
open Go Go.Abs Go.W
def EP (s:List UInt8):Bool:=decide (s≠[])&&decide (s.length≤24)&&rm 0 s
theorem Z3 {s:List UInt8}{i c}(hc:s[i]?=Ea c):rm i (s.drop i)=(nu i c.toNat&&rm (i+1) (s.drop (i+1))):=by
 rw[BD hc];rfl
theorem ji3 {s:List UInt8}:f90 s=Ea (EP s):=by
 unfold f90 EP
 by_cases h0:s=[]
 ·subst h0;rfl
 have hl:¬((s.length:Int)=0):=by
  intro h
  exact h0 (List.eq_nil_of_length_eq_zero (by omega))
 by_cases h1:(24:Int)<s.length
 ·have h2:¬s.length≤24:=by omega
  simp[hl,h0,h1,h2]
 ·have h2:s.length≤24:=by omega
  obtain⟨d,g1,g2⟩:=EH s.length (fun i=>(i:Int)) (tV s) (fun d=>match d with | .inl _=>Ha | .inr _=>Hu) (fun i=>rm i (s.drop i)) ⟨.inr _,by unfold tV;rw[rj];rfl,by rw[List.drop_eq_nil_of_le (Nat.le_refl _)];rfl⟩ (fun i hi=>by
   obtain⟨c,hc⟩:∃c,s[i]?=Ea c:=⟨_,List.getElem?_eq_getElem hi⟩
   unfold tV
   rw[Z3 hc,tT hi,cond_true,mK hc,qi]
   simp only[q69 hi (show s.length≤9223372036854775807 by omega)]
   unfold nu
   have hx:0≤(c.toNat:Int):=by omega
   generalize (c.toNat:Int)=x at hx ⊢
   by_cases z:i=0
   ·subst z
    rcases kinds x with h|h|h|h|h|h|h|h|h <;>
     simp (disch:=omega) only[decide_eq_true,decide_eq_false,cond_true,cond_false,Ek,En,Ga,E3,Ec,Eb] <;>
     first
      |exact .inl ⟨trivial,trivial⟩
      |exact .inl ⟨rfl,trivial⟩
      |exact .inl ⟨rfl,rfl⟩
      |exact .inr ⟨_,rfl,rfl⟩
   ·rcases kinds x with h|h|h|h|h|h|h|h|h <;>
     simp (disch:=omega) only[decide_eq_true,decide_eq_false,cond_true,cond_false,Ek,Hy,En,Ga,E3,Ec,Eb] <;>
     first
      |exact .inl ⟨trivial,trivial⟩
      |exact .inl ⟨rfl,trivial⟩
      |exact .inl ⟨rfl,rfl⟩
      |exact .inr ⟨_,rfl,rfl⟩)
  have g1:bq (tV s) 0=Ea d:=g1
  rw[decide_eq_false hl,cond_false,decide_eq_false h1,cond_false,g1,qi]
  simp only[h0,h2,ne_eq,not_false_eq_true,decide_true,Ec]
  rw[List.drop_zero]at g2
  rw[←g2]
  cases d<;>rfl
theorem Z4 {s i c}(hc:s[i]?=Ea c):(c.toNat<128∧qf s i=(c.toNat,1))∨(128≤c.toNat∧128≤(qf s i).1):=by
 by_cases h:c.toNat<128
 ·exact .inl ⟨h,IC hc h⟩
 ·exact .inr ⟨by omega,Qh hc h⟩
theorem Z5 {i x}(h:128≤x):nu i x=Ha:=by
 unfold nu
 simp (disch:=omega) only[decide_eq_false,Bool.or_self,Gc]
def j22:Nat→Option Nat
 |0=>none
 |i+1=>Ea (i+1)
theorem jig {s:List UInt8}:f81 s=Ea (EP s):=by
 unfold f81
 obtain⟨d,g1,g2⟩:=EH s.length j22 (EQ s) (fun d=>match d with | .inl _=>Ha | .inr _=>Hu) (fun i=>rm i (s.drop i)) (by
   rw[List.drop_eq_nil_of_le (Nat.le_refl _)]
   cases hn:s.length with
   |zero=>
    refine⟨.inr 0,?_,rfl⟩
    show tW s=_
    unfold tW
    rw[hn];rfl
   |succ n=>
    refine⟨.inr (n+1),?_,rfl⟩
    show tX s (n+1)=_
    unfold tX
    rw[hn,decide_eq_false (by omega)];rfl) (fun i hi=>by
   obtain⟨c,hc⟩:∃c,s[i]?=Ea c:=⟨_,List.getElem?_eq_getElem hi⟩
   rw[Z3 hc]
   cases i with
   |zero=>
    show(tW s=_∧_)∨(∃d,tW s=_∧_)
    unfold tW
    rw[decide_eq_true hi,cond_true]
    rcases Z4 hc with⟨aC,he⟩|⟨oD,hr⟩
    ·rw[he]
     simp only[]
     have hx:0≤(c.toNat:Int):=by omega
     unfold nu
     generalize (c.toNat:Int)=x at hx ⊢
     rcases kinds x with h|h|h|h|h|h|h|h|h <;>
      simp (disch:=omega) only[decide_eq_true,decide_eq_false,cond_true,cond_false,Ek,En,Ga,E3,Ec,Eb] <;>
      first
       |exact .inl ⟨trivial,trivial⟩
       |exact .inl ⟨rfl,trivial⟩
       |exact .inl ⟨rfl,rfl⟩
       |exact .inr ⟨_,rfl,rfl⟩
    ·rw[Z5 (by omega)]
     generalize hd:qf s 0=dd at hr ⊢
     have iF:(128:Int)≤(dd.1:Int):=by omega
     generalize (dd.1:Int)=x at iF ⊢
     simp (disch:=omega) only[decide_eq_true,decide_eq_false,cond_true,cond_false,Eb]
     exact .inr ⟨_,rfl,rfl⟩
   |succ i=>
    show(tX s (i+1)=_∧_)∨(∃d,tX s (i+1)=_∧_)
    unfold tX
    rw[decide_eq_true hi,cond_true]
    rcases Z4 hc with⟨aC,he⟩|⟨oD,hr⟩
    ·rw[he]
     simp only[]
     have hx:0≤(c.toNat:Int):=by omega
     unfold nu
     generalize (c.toNat:Int)=x at hx ⊢
     have e0:decide (((i+1:Nat):Int)=0)=Ha:=decide_eq_false (by omega)
     rcases kinds x with h|h|h|h|h|h|h|h|h <;>
      simp (disch:=omega) only[e0,decide_eq_true,decide_eq_false,cond_true,cond_false,Ek,Hy,En,Ga,E3,Ec,Eb] <;>
      first
       |exact .inl ⟨trivial,trivial⟩
       |exact .inl ⟨rfl,trivial⟩
       |exact .inl ⟨rfl,rfl⟩
       |exact .inr ⟨_,rfl,rfl⟩
    ·rw[Z5 (by omega)]
     generalize hd:qf s (i+1)=dd at hr ⊢
     have iF:(128:Int)≤(dd.1:Int):=by omega
     have e0:decide (((i+1:Nat):Int)=0)=Ha:=decide_eq_false (by omega)
     generalize (dd.1:Int)=x at iF ⊢
     simp (disch:=omega) only[e0,decide_eq_true,decide_eq_false,cond_true,cond_false,Eb]
     exact .inr ⟨_,rfl,rfl⟩)
 have g1:bq (EQ s) none=Ea d:=g1
 rw[g1,qi]
 unfold EP
 rw[List.drop_zero]at g2
 cases d with
 |inl d=>simp only[]at g2;rw[←g2];simp
 |inr d=>
  simp only[]at g2
  rw[←g2]
  by_cases h0:s=[]
  ·subst h0;rfl
  ·have e:decide ((s.length:Int)≤24)=decide (s.length≤24):=by by_cases h:s.length≤24<;>simp[h]<;>omega
   rw[e]
   simp[h0]
theorem Z6 {c}:nu 0 (c.toNat:Int)=rn c:=by
 unfold nu rn
 have h:∀a b:Nat,(decide ((a:Int)≤(c.toNat:Int)∧(c.toNat:Int)≤(b:Int)))=(decide (a≤c.toNat)&&decide (c.toNat≤b)):=by
  intro a b
  by_cases h1:a≤c.toNat<;>by_cases h2:c.toNat≤b<;>simp[h1,h2]<;>omega
 rw[show(65:Int)=((65:Nat):Int)from rfl,show(90:Int)=((90:Nat):Int)from rfl,show(97:Int)=((97:Nat):Int)from rfl,show(122:Int)=((122:Nat):Int)from rfl,h,h]
 simp
theorem jh0 {c i}:nu (i+1) (c.toNat:Int)=(rn c||BO c):=by
 rw[←Z6]
 unfold nu BO
 have h:(decide ((48:Int)≤(c.toNat:Int)∧(c.toNat:Int)≤(57:Int)))=(decide (48≤c.toNat)&&decide (c.toNat≤57)):=by
  by_cases h1:48≤c.toNat<;>by_cases h2:c.toNat≤57<;>simp[h1,h2]<;>omega
 have h3:decide ((c.toNat:Int)=95)=decide (c.toNat=95):=by
  by_cases h1:c.toNat=95
  ·rw[decide_eq_true h1];exact decide_eq_true (by omega)
  ·rw[decide_eq_false h1];exact decide_eq_false (by omega)
 rw[h,h3]
 simp
theorem Z7:∀ (s:List UInt8) (i:Nat),rm (i+1) s=s.all fun c=>rn c||BO c
 | [],_=>rfl
 |c::s,i=>by
  show(nu (i+1) c.toNat&&rm (i+1+1) s)=_
  rw[jh0,Z7 s (i+1)];rfl
theorem Z8 {s}:EP s=Go.W.b9 s:=by
 cases s with
 |nil=>rfl
 |cons c t=>
  show(decide (c::t≠[])&&decide ((c::t).length≤24)&&(nu 0 c.toNat&&rm 1 t))=(rn c&&t.all (fun c=>rn c||BO c)&&decide ((c::t).length≤24))
  rw[Z6,Z7 t 0,show decide (c::t≠[])=Hu from decide_eq_true (by simp)]
  cases rn c<;>cases t.all (fun c=>rn c||BO c)<;>cases decide ((c::t).length≤24)<;>rfl
variable {e:aT}
theorem jec {s}:BP s=Ea (if Go.W.b9 s then 0 else 8):=by
 unfold BP
 rw[jig,Z8]
 simp only[qe,vY]
 cases Go.W.b9 s<;>rfl
theorem Qz {α:Type}{p c}(hc:c≠0):∀l:List α,jM (l.map fun x=>if p x then 0 else c)=if l.all p then 0 else c
 | []=>rfl
 |x::l=>by
  rw[List.map_cons,List.all_cons]
  cases p x with
  |true=>simp only[if_true,jM,Ec];exact Qz hc l
  |false=>simp[jM,hc]
theorem Z9 {o}(hl:(o.getD []).length≤SM):f46 o=Ea (jM (o.getD [])):=by
 cases o with
 |none=>exact vZ (l:=[]) (Nat.zero_le _)
 |some l=>exact vZ hl
theorem jeg {o}(hl:(o.getD []).length≤SM):∃w,ER o=Ea (yh ((o.getD []).map fun s=>if Go.W.b9 s then 0 else 8),w):=by
 unfold ER
 rw[ZX (f:=ES o) (l:=o.getD []) (g:=fun s=>if Go.W.b9 s then(0:Int)else 8) (q:=BP) hl (fun x _=>jec) (fun s=>rfl)]
 exact⟨_,rfl⟩
def pj (n:Int):Bool:=decide (0≤n)&&decide (n≤999999999)
theorem jd2 {n}:BQ n=Ea (if pj n then 0 else 3):=by
 unfold BQ
 rw[Z1]
 simp only[qe]
 unfold pj
 by_cases h1:n<0
 ·rw[if_pos (Or.inl h1),decide_eq_false (by omega)];rfl
 ·by_cases h2:999999999<n
  ·rw[if_pos (Or.inr h2),decide_eq_true (by omega),decide_eq_false (by omega)];rfl
  ·rw[if_neg (by omega),decide_eq_true (by omega),decide_eq_true (by omega)];rfl
theorem jdn {o}(hl:(o.getD []).length≤SM):∃w,ET o=Ea (yh ((o.getD []).map fun s=>if pj s then 0 else 3),w):=by
 unfold ET
 rw[ZX (f:=EU o) (l:=o.getD []) (g:=fun s=>if pj s then(0:Int)else 3) (q:=BQ) hl (fun x _=>jd2) (fun s=>rfl)]
 exact⟨_,rfl⟩
theorem qr1:∀ (k:List UInt8),sn k=none∧ln k=none∨∃f,sn k=Ea f∧ln k=Ea (f.2.1.length,f.2.2.1.toNat)∧0≤f.2.2.1:=by
 intro k
 unfold sn ln jL ey
 simp only[List.find?_cons,List.find?_nil,eq_comm (a:=k)]
 by_cases h1:BE=k
 ·simp[h1]
 by_cases h2:BF=k
 ·simp[h1,h2]
 by_cases h3:BG=k
 ·simp[h1,h2,h3]
 by_cases h4:BH=k
 ·simp[h1,h2,h3,h4]
 by_cases h5:EI=k
 ·simp[h1,h2,h3,h4,h5]
 by_cases h6:tU=k
 ·simp[h1,h2,h3,h4,h5,h6]
 by_cases h7:EJ=k
 ·simp[h1,h2,h3,h4,h5,h6,h7]
 by_cases h8:EK=k
 ·simp[h1,h2,h3,h4,h5,h6,h7,h8]
 by_cases h9:EL=k
 ·simp[h1,h2,h3,h4,h5,h6,h7,h8,h9]
 by_cases iu:EM=k
 ·simp[h1,h2,h3,h4,h5,h6,h7,h8,h9,iu]
 by_cases de:BI=k
 ·simp[h1,h2,h3,h4,h5,h6,h7,h8,h9,iu,de]
 by_cases lP:EN=k
 ·simp[h1,h2,h3,h4,h5,h6,h7,h8,h9,iu,de,lP]
 by_cases dM:BJ=k
 ·simp[h1,h2,h3,h4,h5,h6,h7,h8,h9,iu,de,lP,dM]
 by_cases dw:IJ=k
 ·simp[h1,h2,h3,h4,h5,h6,h7,h8,h9,iu,de,lP,dM,dw]
 by_cases gO:BK=k
 ·simp[h1,h2,h3,h4,h5,h6,h7,h8,h9,iu,de,lP,dM,dw,gO]
 ·simp[h1,h2,h3,h4,h5,h6,h7,h8,h9,iu,de,lP,dM,dw,gO]
theorem q44 (h1:(e.names.getD []).length≤SM)(h2:(e.values.getD []).length≤SM):f47 e=Ea (zu e.er):=by
 obtain⟨w1,g1⟩:=jeg h1
 obtain⟨w2,g2⟩:=jdn h2
 have q1:f46 (yh ((e.names.getD []).map fun s=>if Go.W.b9 s then(0:Int)else 8))=Ea (if(e.names.getD []).all Go.W.b9 then 0 else 8):=by
  rw[Z9 (by rw[II,List.length_map];exact h1),II,Qz (by decide)]
 have q2:f46 (yh ((e.values.getD []).map fun s=>if pj s then(0:Int)else 3))=Ea (if(e.values.getD []).all pj then 0 else 3):=by
  rw[Z9 (by rw[II,List.length_map];exact h2),II,Qz (by decide)]
 unfold f47
 simp only[Z1,vY,qe,g1,g2,q1,q2]
 rw[vZ (by simp[SM])]
 simp only[]
 rw[vZ (by simp[SM])]
 unfold zu
 rw[show e.er.number=e.number from rfl,show e.er.kind=e.kind from rfl,show e.er.names=e.names.getD []from rfl,show e.er.values=e.values.getD []from rfl,show e.er.text=e.text from rfl,show(fun n=>decide (0≤n)&&decide (n≤999999999))=pj from rfl]
 by_cases c1:e.number<1∨1000<e.number
 ·rw[if_pos c1,if_pos c1];rfl
 rw[if_neg c1,if_neg c1]
 rcases qr1 e.kind with⟨c2,fE⟩|⟨f,c2,fE,c1004⟩
 ·rw[fE]
  simp only[pi,ph,su,c2]
  simp[jM]
 rw[fE]
 simp only[pi,ph,su,c2,Option.isSome_some,Bool.not_true,Hb,if_false]
 by_cases gZ:(e.names.getD []).length≠f.2.1.length∨(e.values.getD []).length≠f.2.2.1.toNat
 ·have:(!(decide (((e.names.getD []).length:Int)=(f.2.1.length:Int))&&decide (((e.values.getD []).length:Int)=f.2.2.1)))=Hu:=by
   rcases gZ with gZ|gZ
   ·rw[decide_eq_false (by omega)];rfl
   ·rw[decide_eq_false (p:=((e.values.getD []).length:Int)=f.2.2.1) (by omega),Gc];rfl
  rw[this,if_pos gZ]
  rfl
 ·have:(!(decide (((e.names.getD []).length:Int)=(f.2.1.length:Int))&&decide (((e.values.getD []).length:Int)=f.2.2.1)))=Ha:=by
   rw[decide_eq_true (by omega),decide_eq_true (p:=((e.values.getD []).length:Int)=f.2.2.1) (by omega)];rfl
  rw[this,if_neg gZ]
  simp only[jM,Hb,if_false,if_true,decide_true,cond_true]
  cases (e.names.getD []).all Go.W.b9<;>cases (e.values.getD []).all pj<;>by_cases pk:e.text=[]<;>simp[pk]
end Go.Z
namespace Go.Z
open Go Go.Abs Go.W
variable {e:aT}
theorem q5t:∀ (k:List UInt8),(f89 k=Ea ⟨0,0,Ha⟩∧ln k=none)∨∃a b:Nat,f89 k=Ea ⟨(a:Int),(b:Int),Hu⟩∧ln k=Ea (a,b):=by
 intro k
 by_cases h1:k=BE
 ·subst h1;exact .inr ⟨2,2,rfl,rfl⟩
 by_cases h2:k=BF
 ·subst h2;exact .inr ⟨1,1,rfl,rfl⟩
 by_cases h3:k=EI
 ·subst h3;exact .inr ⟨1,1,rfl,rfl⟩
 by_cases h4:k=EL
 ·subst h4;exact .inr ⟨1,1,rfl,rfl⟩
 by_cases h5:k=BI
 ·subst h5;exact .inr ⟨1,1,rfl,rfl⟩
 by_cases h6:k=EN
 ·subst h6;exact .inr ⟨1,1,rfl,rfl⟩
 by_cases h7:k=BJ
 ·subst h7;exact .inr ⟨1,1,rfl,rfl⟩
 by_cases h8:k=IJ
 ·subst h8;exact .inr ⟨1,1,rfl,rfl⟩
 by_cases h9:k=BG
 ·subst h9;exact .inr ⟨2,2,rfl,rfl⟩
 by_cases iu:k=EJ
 ·subst iu;exact .inr ⟨2,2,rfl,rfl⟩
 by_cases de:k=EK
 ·subst de;exact .inr ⟨2,2,rfl,rfl⟩
 by_cases lP:k=BH
 ·subst lP;exact .inr ⟨2,3,rfl,rfl⟩
 by_cases dM:k=tU
 ·subst dM;exact .inr ⟨2,1,rfl,rfl⟩
 by_cases dw:k=EM
 ·subst dw;exact .inr ⟨2,1,rfl,rfl⟩
 by_cases gO:k=BK
 ·subst gO;exact .inr ⟨0,0,rfl,rfl⟩
 refine .inl ⟨?_,?_⟩
 ·unfold f89
  simp only[decide_eq_false (p:=k=([108,111,116]:List UInt8)) h1,decide_eq_false (p:=k=([112,114,111,100,117,99,116]:List UInt8)) h2,decide_eq_false (p:=k=([105,115,115,117,101]:List UInt8)) h3,decide_eq_false (p:=k=([117,112,100,97,116,101]:List UInt8)) h4,decide_eq_false (p:=k=([104,111,108,100]:List UInt8)) h5,decide_eq_false (p:=k=([102,114,101,101]:List UInt8)) h6,decide_eq_false (p:=k=([115,104,105,112]:List UInt8)) h7,decide_eq_false (p:=k=([99,111,109,112,108,97,105,110]:List UInt8)) h8,decide_eq_false (p:=k=([110,101,101,100]:List UInt8)) h9,decide_eq_false (p:=k=([117,115,101]:List UInt8)) iu,decide_eq_false (p:=k=([109,101,97,115,117,114,101]:List UInt8)) de,decide_eq_false (p:=k=([116,101,115,116]:List UInt8)) lP,decide_eq_false (p:=k=([98,117,105,108,100]:List UInt8)) dM,decide_eq_false (p:=k=([112,97,105,114]:List UInt8)) dw,decide_eq_false (p:=k=([117,110,100,111]:List UInt8)) gO,cond_false]
 ·unfold ln ey
  simp[List.find?_cons,I h1,I h2,I h3,I h4,I h5,I h6,I h7,I h8,I h9,I iu,I de,I lP,I dM,I dw,I gO]
theorem jer {s}:f90 s=Ea (Go.W.b9 s):=by rw[ji3,Z8]
theorem qwl {α:Type}{l:List α}{p:α→Bool}{f:Int→Option (Int⊕(Unit⊕Int))}{n}(hn:n=(l.length:Int))(hl:l.length≤SM)
  (dm:f n=Ea (.inr (.inr n))) (hf:∀(i:Nat) x,l[i]?=Ea x→i<l.length→f (i:Int)=Ea (if p x then .inl (qh .i64 ((i:Int)+1))else .inr (.inl ()))):
  ∃d,bq f 0=Ea d∧(match d with | .inl _=>Ha | .inr _=>Hu)=l.all p:=by
 subst hn
 obtain⟨d,h1,h2⟩:=q99 l f p (fun d=>match d with | .inl _=>Ha | .inr _=>Hu) ⟨_,dm,rfl⟩ (fun i x hx hi=>by
  have h3:=hf i x hx hi
  cases hp:p x with
  |true=>rw[hp,yi (by unfold SM at hl;omega)]at h3;exact .inl ⟨rfl,h3⟩
  |false=>rw[hp]at h3;exact .inr ⟨rfl,_,h3,rfl⟩)
 exact⟨d,h1,h2⟩
theorem q65 (h1:(e.names.getD []).length≤SM)(h2:(e.values.getD []).length≤SM):f33 e=Ea (zu e.er):=by
 unfold f33 zu
 rw[Z2]
 simp only[qe]
 rw[show e.er.number=e.number from rfl,show e.er.kind=e.kind from rfl,show e.er.names=e.names.getD []from rfl,show e.er.values=e.values.getD []from rfl,show e.er.text=e.text from rfl,show(fun n=>decide (0≤n)&&decide (n≤999999999))=pj from rfl]
 by_cases c1:e.number<1∨1000<e.number
 ·rw[decide_eq_true c1,if_pos c1];rfl
 rw[decide_eq_false c1,if_neg c1]
 simp only[cond_false]
 rcases q5t e.kind with⟨c2,fE⟩|⟨a,b,c2,fE⟩
 ·rw[c2,fE];rfl
 rw[c2,fE]
 simp only[cond_true]
 by_cases gZ:(e.names.getD []).length=a
 case neg=>rw[decide_eq_false (by omega),if_pos (.inl gZ)];rfl
 by_cases pk:(e.values.getD []).length=b
 case neg=>rw[decide_eq_true (by omega),decide_eq_false (p:=((e.values.getD []).length:Int)=(b:Int)) (by omega),if_pos (.inr pk)];rfl
 rw[decide_eq_true (by omega),decide_eq_true (p:=((e.values.getD []).length:Int)=(b:Int)) (by omega),if_neg (by omega)]
 simp only[cond_true]
 obtain⟨d,g1,g2⟩:=qwl (l:=e.names.getD []) (p:=Go.W.b9) (f:=wc e ⟨(a:Int),(b:Int),Hu⟩) (n:=(a:Int)) (by omega) h1 (by unfold wc;simp only[rj];rfl) (fun i x hx hi=>by
  unfold wc
  simp only[show decide ((i:Int)<(a:Int))=Hu from decide_eq_true (by omega),cond_true,qe,mK hx,jer]
  cases Go.W.b9 x<;>rfl)
 obtain⟨d2,g3,g4⟩:=qwl (l:=e.values.getD []) (p:=pj) (f:=wh e ⟨(a:Int),(b:Int),Hu⟩) (n:=(b:Int)) (by omega) h2 (by unfold wh;simp only[rj];rfl) (fun i x hx hi=>by
  unfold wh
  simp only[show decide ((i:Int)<(b:Int))=Hu from decide_eq_true (by omega),cond_true,qe,mK hx,Z2]
  unfold pj
  by_cases k1:x<0
  ·rw[decide_eq_true (Or.inl k1),decide_eq_false (p:=0≤x) (by omega)];rfl
  ·by_cases k2:999999999<x
   ·rw[decide_eq_true (Or.inr k2),decide_eq_false (p:=x≤999999999) (by omega),Gc];rfl
   ·rw[decide_eq_false (p:=x<0∨999999999<x) (by omega),decide_eq_true (p:=0≤x) (by omega),decide_eq_true (p:=x≤999999999) (by omega)];rfl)
 rw[g1,←g2,←g4]
 cases d with
 |inl d=>rfl
 |inr d=>
  simp only[]
  rw[g3]
  cases d2 with
  |inl d2=>rfl
  |inr d2=>
   by_cases sx:e.text=[]
   ·rw[decide_eq_true sx];simp[sx]
   ·rw[decide_eq_false sx];simp[sx]
end Go.Z
