/- The reference's numbers and sums. -/
import Derived.Test.YtimdocpnkimlfaaGreatDoorWT
import Derived.Test.YtimdocpnkimlfaaGreatDoorPS
import Derived.Test.YtimdocpnkimlfaaGreatDoorEC
set_option linter.unusedVariables false
set_option linter.unusedSimpArgs false
set_option maxRecDepth 100000
open List renaming length_singleton→I,length_append→Ea,getElem?_eq_getElem→Ec,drop_zero→En,drop_eq_nil_of_le→E3,drop_of_length_le→Ga,length_cons→Hb,drop_eq_getElem_cons→Jp,getElem_mem→Jq,replicate→N7,length_pos_iff→Oc,all_cons→Od,map_cons→Og,take_length→Om,length_drop→Ou,length_nil→Ov,length_map→Ow
open Option renaming some→Eb,none→Oj
open Nat renaming le_refl→Ek,zero_add→N1,ble_eq_true_of_le→N5,mod_eq_of_lt→Ol,lt_irrefl→O3
open Int renaming lt_irrefl→Gc,toNat_natCast→Hy,tmod_eq_emod_of_nonneg→Hz,toNat_of_nonneg→H2,tdiv_eq_ediv_of_nonneg→Jn,natCast_nonneg→Oh,ofNat→Ok
open UInt8 renaming ofNat→Ha,toNat_inj→N4
open Bool renaming true→Hu,true_and→Ib,false_and→If,not_false→Jg,false→N9,not_true→Oe
namespace Go.Z
open Go Go.Abs Go.W
theorem q01:∀ (n:Nat) (u:Nat) (s:List UInt8),u≤n→s.length+u≤2000000000→u<1000000000→bq ud ((u:Int),s)=Eb (0,(if u=0 then []else Lib.decDigits u)++s)
 |n,u,s,h,hs,hu=>by
  by_cases h0:u=0
  ·subst h0
   refine jq ?_
   unfold ud
   rfl
  ·cases n with
   |zero=>omega
   |succ n=>
    have ih:=q01 n (u / 10) ([Ha (48+u % 10)]++s) (by omega) (by simp only[Ea,I];omega) (by omega)
    have h1:0<(u:Int):=by omega
    have hm:=Nat.mod_lt u (by omega:0<10)
    have hr:nU (u:Int) 10=Eb ((u % 10:Nat):Int):=by
     unfold nU
     rw[if_neg (by omega),Hz (by omega)];rfl
    have hq:tZ .i64 (u:Int) 10=Eb ((u / 10:Nat):Int):=by
     unfold tZ
     rw[if_neg (by omega),Jn (by omega),jx (by omega) (by omega)];rfl
    have he:(Utf8.encode (qh .i32 (qh .i64 (48+((u % 10:Nat):Int))))).data.toList=[Ha (48+u % 10)]:=by
     rw[jx (by omega) (by omega),Ri (by omega) (by omega),qul (by omega) (by omega)]
     congr 2
    have hc:kr [Ha (48+u % 10)] s=Eb ([Ha (48+u % 10)]++s):=by
     unfold kr
     rw[if_pos (by simp only[I];omega)]
    rw[z6 (s':=(((u / 10:Nat):Int),[Ha (48+u % 10)]++s)),ih]
    ·rw[if_neg h0]
     by_cases hu:u<10
     ·rw[if_pos (by omega),Ck hu,Ol hu];rfl
     ·rw[if_neg (by omega),Jj hu];simp
    ·unfold ud
     simp only[h1,decide_true,cond_true,hr,qi,he,hc,hq]
theorem jee {u:Nat}(hu:u<1000000000):FA (u:Int)=Eb (Lib.decDigits u):=by
 have h1:¬(u:Int)<0:=by omega
 have hm:=Nat.mod_lt u (by omega:0<10)
 have hr:nU (u:Int) 10=Eb ((u % 10:Nat):Int):=by
  unfold nU
  rw[if_neg (by omega),Hz (by omega)];rfl
 have hq:tZ .i64 (u:Int) 10=Eb ((u / 10:Nat):Int):=by
  unfold tZ
  rw[if_neg (by omega),Jn (by omega),jx (by omega) (by omega)];rfl
 have he:(Utf8.encode (qh .i32 (qh .i64 (48+((u % 10:Nat):Int))))).data.toList=[Ha (48+u % 10)]:=by
  rw[jx (by omega) (by omega),Ri (by omega) (by omega),qul (by omega) (by omega)]
  congr 2
 have hl:=q01 (u / 10) (u / 10) [Ha (48+u % 10)] (Ek _) (by simp only[I];omega) (by omega)
 unfold FA
 simp only[h1,decide_false,cond_false,hr,qi,hq,he]
 rw[show bq ud (((u / 10:Nat):Int),[Ha (48+u % 10)])=_ from hl,qi]
 congr 1
 by_cases hu:u<10
 ·rw[if_pos (by omega),Ck hu,Ol hu];rfl
 ·rw[if_neg (by omega),Jj hu]
theorem q7c {u:Nat}(hu:u<1000000000):f98 (u:Int)=Eb (Lib.decDigits u):=by
 unfold f98
 rw[jee hu];rfl
theorem q90 {x:Int}{c:UInt8}(h0:0≤x)(h1:x<9999889):nU (qh .i64 ((qh .i64 (313*x))+(qh .i64 (c.toNat:Int)))) 9999889=Eb (oc x c):=by
 have hc:c.toNat<256:=c.toNat_lt
 rw[jx (x:=313*x) (by omega) (by omega),jx (x:=(c.toNat:Int)) (by omega) (by omega),jx (by omega) (by omega)]
 unfold nU
 rw[if_neg (by omega),Hz (by omega)];rfl
theorem wK {s:List UInt8}{i:Nat}(h:i<s.length):jn s (i:Int)=Eb s[i]:=mK (Ec h)
theorem Rj (s:List UInt8)(hs:s.length≤1073741824):∀(k i:Nat) (x:Int),i+k=s.length→0≤x→x<9999889→bq (sI s) (x,(i:Int))=Eb ((s.drop i).foldl oc x,(s.length:Int))
 |0,i,x,hi,h0,h1=>by
  obtain rfl:i=s.length:=by omega
  rw[E3 (Ek _)]
  refine jq ?_
  unfold sI
  simp only[Gc,decide_false,cond_false,List.foldl_nil]
 |k+1,i,x,hi,h0,h1=>by
  have aC:i<s.length:=by omega
  have hb:0≤oc x s[i]∧oc x s[i] < 9999889:=Rk [s[i]] x h0 h1
  rw[z6 (s':=(oc x s[i],((i+1:Nat):Int))),Rj s hs k (i+1) _ (by omega) hb.1 hb.2,Jp aC,List.foldl_cons]
  unfold sI
  have h2:((i:Int)<(s.length:Int)):=by omega
  simp only[h2,decide_true,cond_true,wK aC,qi,q90 h0 h1]
  rw[jx (by omega) (by omega)];rfl
theorem q0v:∀ (k:Nat) (t:List UInt8),t.length+k=7→bq wG t=Eb (N7 k 48++t)
 |0,t,h=>by
  refine jq ?_
  unfold wG
  have h1:¬((t.length:Int)<7):=by omega
  simp only[h1,decide_false,cond_false];rfl
 |k+1,t,h=>by
  rw[z6 (s':=48::t),q0v k (48::t) (by simp only[Hb];omega)]
  ·rw[List.replicate_succ'];simp
  ·unfold wG
   have h1:((t.length:Int)<7):=by omega
   have hc:kr ([48]:List UInt8) t=Eb ([48]++t):=by
    unfold kr
    rw[if_pos (by simp only[I];omega)]
   simp only[h1,decide_true,cond_true,hc,qi];rfl
theorem q6c {s:List UInt8}(hs:s.length≤1073741824):f54 s=Eb (nz (eR s)):=by
 have hb:=wL s
 unfold f54
 rw[show bq (sI s) (1,0)=_ from Rj s hs s.length 0 1 (by omega) (by omega) (by omega),qi]
 have hu:((eR s).toNat:Int)=eR s:=H2 hb.1
 have hd:f98 (eR s)=Eb (Lib.decDigits (eR s).toNat):=by rw[←hu];exact q7c (by omega)
 have hl:=FO 6 (eR s).toNat (by omega)
 show qe (f98 (eR s)) _=_
 rw[hd,qi,q0v (7-(Lib.decDigits (eR s).toNat).length) _ (by omega)];rfl
theorem jdl (s:List UInt8)(hs:s.length≤1073741824):∀(k i:Nat) (x:Int),i+k=s.length→0≤x→x<9999889→bq (wv s) (x,(i:Int))=Eb ((s.drop i).foldl oc x,(s.length:Int)):=fun k i x hi h0 h1=>(show bq (wv s) (x,(i:Int))=bq (sI s) (x,(i:Int))from rfl).trans (Rj s hs k i x hi h0 h1)
theorem q06 {u:Nat}(hu:u<1000000000000000000):nw (u:Int)=Eb (Lib.decDigits u):=by
 show nw (Ok u)=_
 simp only[nw,Nat.blt_eq.mpr hu,cond_true]
 rw[QJ 18 u [] (by omega) (by omega),List.append_nil]
theorem q1v (c:UInt8):∀k,Lib.repeatL [c] k=N7 k c
 |0=>rfl
 |k+1=>by
  rw[Lib.repeatL,q1v c k,List.replicate_succ];rfl
theorem q0r {s:List UInt8}(hs:s.length≤1073741824):f138 s=Eb (nz (eR s)):=by
 have hb:=wL s
 unfold f138
 rw[show bq (wv s) (1,0)=_ from jdl s hs s.length 0 1 (by omega) (by omega) (by omega),qi]
 have hu:((eR s).toNat:Int)=eR s:=H2 hb.1
 have hd:nw (eR s)=Eb (Lib.decDigits (eR s).toNat):=by rw[←hu];exact q06 (by omega)
 have hl:=FO 6 (eR s).toNat (by omega)
 show qe (nw (eR s)) _=_
 rw[hd,qi,jx (by omega) (by omega),show(7:Int)-((Lib.decDigits (eR s).toNat).length:Int)=Ok (7-(Lib.decDigits (eR s).toNat).length) by simp only[Int.ofNat_eq_natCast];omega]
 have hr:Fh ([48]:List UInt8) (Ok (7-(Lib.decDigits (eR s).toNat).length))=Eb (N7 (7-(Lib.decDigits (eR s).toNat).length) 48):=by
  simp only[Fh]
  rw[show(Nat.ble (7-(Lib.decDigits (eR s).toNat).length) 100000&&Nat.ble (([48]:List UInt8).length*(7-(Lib.decDigits (eR s).toNat).length)) 100000)=Hu by simp only[Bool.and_eq_true,Nat.ble_eq,I];omega,cond_true,q1v]
 rw[hr,qi]
 unfold kr
 rw[if_pos (by simp only[List.length_replicate];omega)];rfl
end Go.Z
namespace Go.Z
open Go Go.Abs Go.W
theorem mR {α:Type}{s:List α}{i:Nat}(hi:i<s.length):s.drop i=s[i]::s.drop (i+1):=(Jp hi)
theorem q0n {s:List UInt8}(hs:s.length≤9):∀(k i:Nat) (n:Int),i+k=s.length→0≤n→n<10^i →
  bq (pH s) (n,(i:Int))=Eb (match iC n (s.drop i)with|none=>.inl ()|some v=>.inr (v,(s.length:Int)))
 |0,i,n,hi,h0,h1=>by
  have hi:i=s.length:=by omega
  subst hi
  rw[Ga (Ek _),iC]
  exact jq (by unfold pH;simp only[Gc,decide_false,cond_false])
 |k+1,i,n,hi,h0,h1=>by
  have aC:i<s.length:=by omega
  have fe:(i:Int)<(s.length:Int):=by omega
  have kA:jn s (i:Int)=Eb s[i]:=by rw[y4,Ec aC]
  have hw:qh .i64 ((i:Int)+1)=((i+1:Nat):Int):=yi (by omega)
  have hp:=q0w (show i≤9 by omega)
  rw[mR aC,iC]
  by_cases hc:(s[i].toNat:Int)<48
  ·rw[if_neg (by omega)]
   exact jq (by unfold pH;simp only[fe,decide_true,cond_true,kA,qi,hc])
  ·by_cases hd:57<(s[i].toNat:Int)
   ·rw[if_neg (by omega)]
    exact jq (by unfold pH;simp only[fe,decide_true,cond_true,kA,qi,hc,decide_false,cond_false,hd])
   ·rw[if_pos (by omega),←q0n hs k (i+1) (10*n+((s[i].toNat:Int)-48)) (by omega) (by omega) (by rw[Int.pow_succ];omega)]
    refine z6 ?_
    unfold pH
    simp only[fe,decide_true,cond_true,kA,qi,hc,decide_false,cond_false,hd,hw]
    rw[jgm (by omega) (by omega),jx (x:=10*n) (by omega) (by omega),jx (x:=(s[i].toNat:Int)-48) (by omega) (by omega),jx (by omega) (by omega)]
theorem Jk (s:List UInt8):Cf s=Eb (match kw s with|none=>(0,N9)|some v=>(v,Hu)):=by
 unfold Cf kw
 by_cases h1:s=[]
 ·subst h1;rfl
 have hl:0<s.length:=Oc.2 h1
 have od:¬(s.length:Int)=0:=by omega
 by_cases h2:9<s.length
 ·have lK:(9:Int)<(s.length:Int):=by omega
  simp only[od,lK,decide_false,decide_true,cond_false,cond_true,h2,true_or,or_true,if_true]
 have lK:¬(9:Int)<(s.length:Int):=by omega
 have FP:=q0n (s:=s) (by omega) s.length 0 0 (by omega) (by omega) (by simp)
 have fg:bq (pH s) (0,0)=_:=FP
 have kA:jn s 0=Eb s[0]:=by rw[show(0:Int)=((0:Nat):Int)from rfl,y4,Ec hl]
 rw[qx4 hl]
 rw[En]at fg
 by_cases h3:1<s.length
 ·have pN:(1:Int)<(s.length:Int):=by omega
  by_cases h4:s[0]=48
  ·have wM:(s[0].toNat:Int)=48:=by rw[h4];rfl
   simp only[od,lK,pN,decide_false,decide_true,cond_false,cond_true,h1,h2,h3,h4,kA,qi,wM,true_and,or_true,if_true]
   rfl
  ·have wM:¬(s[0].toNat:Int)=48:=fun e=>h4 (N4.1 (by have:(48:UInt8).toNat=48:=rfl;omega))
   simp only[od,lK,pN,decide_false,decide_true,cond_false,cond_true,h1,h2,h3,h4,kA,qi,wM,true_and,or_false,if_false,fg,Eb.injEq]
   cases iC 0 s<;>rfl
 ·have pN:¬(1:Int)<(s.length:Int):=by omega
  simp only[od,lK,pN,decide_false,decide_true,cond_false,cond_true,h1,h2,h3,false_and,or_false,if_false]
  rw[show FH s=pH s from rfl,fg,qi]
  cases iC 0 s<;>rfl
theorem q1c {s:List UInt8}(hs:s.length≤9):∀(k i:Nat) (n:Int),i+k=s.length→0≤n→n<10^i →
  ∃j,bq (sC s) (n,i)=Eb (match iC n (s.drop i)with|none=>.inl j|some v=>.inr (v,s.length))
 |0,i,n,hi,h0,h1=>by
  have hi:i=s.length:=by omega
  subst hi
  rw[Ga (Ek _),iC]
  exact⟨0,jq (by unfold sC;simp only[O3,decide_false,cond_false])⟩
 |k+1,i,n,hi,h0,h1=>by
  have aC:i<s.length:=by omega
  have hg:s[i]?=Eb s[i]:=Ec aC
  have hp:=q0w (show i≤9 by omega)
  have h9:¬9<(s.length:Int):=by omega
  rw[mR aC,iC]
  by_cases hd:48≤s[i].toNat∧s[i].toNat≤57
  ·have e:=IC hg (by omega)
   obtain⟨j,hj⟩:=q1c hs k (i+1) (10*n+((s[i].toNat:Int)-48)) (by omega) (by omega) (by rw[Int.pow_succ];omega)
   refine⟨j,?_⟩
   rw[if_pos hd,←hj]
   refine z6 ?_
   have a1:¬(s[i].toNat:Int)<48:=by omega
   have a2:¬57<(s[i].toNat:Int):=by omega
   unfold sC
   simp only[aC,decide_true,cond_true,e,a1,a2,decide_false,cond_false]
   rw[Ri (by omega) (by omega),jx (x:=10*n) (by omega) (by omega),jx (x:=(s[i].toNat:Int)-48) (by omega) (by omega),jx (by omega) (by omega)]
  ·rw[if_neg hd]
   refine⟨i+(qf s i).2,jq ?_⟩
   unfold sC
   simp only[aC,decide_true,cond_true,decide_false,cond_false]
   by_cases hl:s[i].toNat<128
   ·rw[IC hg hl]
    by_cases a1:(s[i].toNat:Int)<48
    ·simp only[a1,decide_true,cond_true]
    ·have a2:57<(s[i].toNat:Int):=by omega
     simp only[a1,a2,decide_true,cond_true,decide_false,cond_false]
   ·have:=Qh hg hl
    have a1:¬((qf s i).1:Int)<48:=by omega
    have a2:57<((qf s i).1:Int):=by omega
    simp only[a1,a2,decide_true,cond_true,decide_false,cond_false]
theorem Rl (s:List UInt8):B3 s=Eb (match kw s with|none=>(0,N9)|some v=>(v,Hu)):=by
 unfold B3 kw
 by_cases h1:s=[]
 ·subst h1;rfl
 have hl:0<s.length:=Oc.2 h1
 by_cases h2:9<s.length
 ·have lK:(9:Int)<(s.length:Int):=by omega
  simp only[h1,lK,decide_false,decide_true,cond_false,cond_true,h2,true_or,or_true,if_true]
 have lK:¬(9:Int)<(s.length:Int):=by omega
 obtain⟨j,fg⟩:=q1c (s:=s) (by omega) s.length 0 0 (by omega) (by omega) (by simp)
 have kA:jn s 0=Eb s[0]:=by rw[show(0:Int)=((0:Nat):Int)from rfl,y4,Ec hl]
 rw[qx4 hl]
 rw[En]at fg
 by_cases h3:1<s.length
 ·have pN:(1:Int)<(s.length:Int):=by omega
  by_cases h4:s[0]=48
  ·have wM:(s[0].toNat:Int)=48:=by rw[h4];rfl
   simp only[h1,lK,pN,decide_false,decide_true,cond_false,cond_true,h2,h3,h4,kA,qi,wM,true_and,or_true,if_true]
   rfl
  ·have wM:¬(s[0].toNat:Int)=48:=fun e=>h4 (N4.1 (by have:(48:UInt8).toNat=48:=rfl;omega))
   simp only[h1,lK,pN,decide_false,decide_true,cond_false,cond_true,h2,h3,h4,kA,qi,wM,true_and,or_false,if_false,fg,Eb.injEq]
   cases iC 0 s<;>rfl
 ·have pN:¬(1:Int)<(s.length:Int):=by omega
  simp only[h1,lK,pN,decide_false,decide_true,cond_false,cond_true,h2,h3,false_and,or_false,if_false]
  rw[show Fl s=sC s from rfl,fg,qi]
  cases iC 0 s<;>rfl
theorem Rm {c:UInt8}:yp c=Hu↔48≤c.toNat∧c.toNat≤57:=by simp[yp]
theorem q1x {s:List UInt8}(hs:s.length≤1073741824):∀(k i:Nat),i+k=s.length→bq (sN s) (i:Int)=Eb (if(s.drop i).all yp=Hu then .inr (s.length:Int)else .inl ())
 |0,i,hi=>by
  have hi:i=s.length:=by omega
  subst hi
  rw[Ga (Ek _)]
  exact jq (by unfold sN;simp only[Gc,decide_false,cond_false];rfl)
 |k+1,i,hi=>by
  have aC:i<s.length:=by omega
  have fe:(i:Int)<(s.length:Int):=by omega
  have kA:jn s (i:Int)=Eb s[i]:=by rw[y4,Ec aC]
  have hw:qh .i64 ((i:Int)+1)=((i+1:Nat):Int):=yi (by omega)
  rw[mR aC,Od]
  by_cases hd:48≤s[i].toNat∧s[i].toNat≤57
  ·rw[Rm.2 hd,Ib,←q1x hs k (i+1) (by omega)]
   refine z6 ?_
   have a1:¬(s[i].toNat:Int)<48:=by omega
   have a2:¬57<(s[i].toNat:Int):=by omega
   unfold sN
   simp only[fe,decide_true,cond_true,kA,qi,a1,a2,decide_false,cond_false,hw]
  ·have hf:yp s[i]=N9:=by
    cases h:yp s[i]with
    |false=>rfl
    |true=>exact absurd (Rm.1 h) hd
   rw[hf,If,if_neg (by simp)]
   refine jq ?_
   unfold sN
   by_cases a1:(s[i].toNat:Int)<48
   ·simp only[fe,decide_true,cond_true,kA,qi,a1]
   ·have a2:57<(s[i].toNat:Int):=by omega
    simp only[fe,decide_true,cond_true,kA,qi,a1,a2,decide_false,cond_false]
theorem jdu {s:List UInt8}(hs:s.length≤1073741824):f143 s=Eb (s.all yp&&decide (s.length=7)):=by
 unfold f143
 rw[show bq (sN s) 0=_ from q1x hs s.length 0 (by omega),qi,En]
 cases s.all yp with
 |false=>rfl
 |true=>
  simp only[if_true,Ib,Eb.injEq]
  exact decide_eq_decide.2 (by omega)
theorem q9p (x:Int):wy x=Eb (!(decide (48≤x)&&decide (x≤57))):=by
 unfold wy
 by_cases h1:x<48
 ·simp only[h1,decide_true,cond_true,decide_eq_false (show ¬48≤x by omega),If,Jg]
 ·simp only[h1,decide_false,cond_false,decide_eq_true (show 48≤x by omega),Ib]
  by_cases h2:57<x
  ·simp only[h2,decide_true,decide_eq_false (show ¬x≤57 by omega),Jg]
  ·simp only[h2,decide_false,decide_eq_true (show x≤57 by omega),Oe]
end Go.Z
namespace Go.Z
open Go Go.Abs Go.W
theorem q04 {s:List UInt8}{i:Nat}(h:i<s.length):wy ((qf s i).1:Int)=Eb (!(yp s[i]))∧(yp s[i]=Hu→(qf s i).2=1):=by
 have hg:s[i]?=Eb s[i]:=Ec h
 rw[q9p]
 by_cases hl:s[i].toNat<128
 ·rw[IC hg hl]
  refine⟨?_,fun _=>rfl⟩
  congr 2
  unfold yp
  congr 1
  ·exact decide_eq_decide.2 (by omega)
  ·exact decide_eq_decide.2 (by omega)
 ·have oD:=Qh hg hl
  have hn:yp s[i]=N9:=by
   cases hd:yp s[i]with
   |false=>rfl
   |true=>have:=Rm.1 hd;omega
  rw[hn,decide_eq_false (show ¬((qf s i).1:Int)≤57 by omega),Bool.and_false]
  exact⟨rfl,fun e=>by cases e⟩
theorem q1h (s:List UInt8):∀(k i:Nat) (p:Int),i+k=s.length→∃j m:Nat,bq (Fo s Hu) (Eb (Hu,p,i))=Eb (if(s.drop i).all yp=Hu then .inr (Hu,s.length)else .inl ((j:Int),m))
 |0,i,p,hi=>by
  have hi:i=s.length:=by omega
  subst hi
  rw[Ga (Ek _)]
  refine⟨0,0,jq ?_⟩
  show sD s Hu (Hu,p,s.length)=_
  unfold sD
  simp only[O3,decide_false,cond_false];rfl
 |k+1,i,p,hi=>by
  have aC:i<s.length:=by omega
  have hd:=q04 aC
  rw[mR aC,Od]
  cases hb:yp s[i]with
  |true=>
   obtain⟨j,m,hj⟩:=q1h s k (i+1) (i:Int) (by omega)
   refine⟨j,m,?_⟩
   rw[Ib,←hj]
   refine z6 ?_
   show sD s Hu (Hu,p,i)=_
   unfold sD
   simp only[aC,decide_true,cond_true,hd.1,hd.2 hb,hb,qi,Oe,cond_false]
  |false=>
   refine⟨i,i+(qf s i).2,?_⟩
   rw[If,if_neg (by simp)]
   refine jq ?_
   show sD s Hu (Hu,p,i)=_
   unfold sD
   simp only[aC,decide_true,cond_true,hd.1,hb,qi,Jg]
theorem je7 (s:List UInt8):Fp s=Eb (!(s.all yp)):=by
 have key:∃j m:Nat,bq (Fo s Hu) Oj=Eb (if s.all yp=Hu then .inr (Hu,s.length)else .inl ((j:Int),m)):=by
  cases hs:s.length with
  |zero=>
   obtain rfl:=List.length_eq_zero_iff.1 hs
   exact⟨0,0,jq rfl⟩
  |succ n=>
   have aC:0<s.length:=by omega
   have hd:=q04 aC
   have he:s.all yp=(yp s[0]&&(s.drop 1).all yp):=by
    have:=congrArg (fun l=>List.all l yp) (mR aC)
    simpa only[En,Od]using this
   rw[he]
   cases hb:yp s[0]with
   |true=>
    obtain⟨j,m,hj⟩:=q1h s n 1 (0:Int) (by omega)
    refine⟨j,m,?_⟩
    rw[Ib,←hs,←hj]
    refine z6 ?_
    show wz s Hu=_
    unfold wz
    simp only[aC,decide_true,cond_true,hd.1,hd.2 hb,hb,qi,Oe,cond_false]<;>rfl
   |false=>
    refine⟨0,0+(qf s 0).2,?_⟩
    rw[If,if_neg (by simp)]
    refine jq ?_
    show wz s Hu=_
    unfold wz
    simp only[aC,decide_true,cond_true,hd.1,hb,qi,Jg]
    rfl
 obtain⟨j,m,hk⟩:=key
 unfold Fp I9 I7
 rw[hk,qi]
 cases s.all yp with
 |true=>rfl
 |false=>
  show Eb (decide ((0:Int)≤(j:Int)))=_
  rw[decide_eq_true (by omega)];rfl
end Go.Z
namespace Go.Z
open Go Go.Abs Go.W
theorem je6 {s:List UInt8}{i j:Nat}(h1:i≤j)(h2:j≤s.length):kc s (Eb (i:Int)) (Eb (j:Int))=Eb ((s.take j).drop i):=by
 simp only[kc,jX]
 rw[if_pos ⟨by omega,by omega⟩]
 simp only[Hy]
 rw[if_pos ⟨by omega,by omega⟩]
theorem Rn {s:List UInt8}{j:Nat}(h2:j≤s.length):kc s Oj (Eb (j:Int))=Eb (s.take j):=by
 simp only[kc,jX]
 rw[if_pos ⟨by omega,by omega⟩]
 simp only[Hy,En]
theorem wN {s:List UInt8}{i:Nat}(h2:i≤s.length):kc s (Eb (i:Int)) Oj=Eb (s.drop i):=by
 simp only[kc,jX]
 rw[if_pos ⟨by omega,by omega⟩]
 simp only[Hy,Om]
theorem jdt (s:List UInt8)(c:UInt8):Fg s (c.toNat:Int)=Eb (Lib.indexByte s c):=by
 show Fg s (Ok c.toNat)=_
 simp only[Fg,qum]
 rw[show Ha c.toNat=c from UInt8.ofNat_toNat]
theorem q1a {s:List UInt8}(c:UInt8):f197 s [c]=Eb (Lib.indexByte s c):=by
 unfold f197
 have h0:¬((([c]:List UInt8).length:Int)=0):=by simp
 have h1:((([c]:List UInt8).length:Int)=1):=by simp
 have kA:jn [c] 0=Eb c:=rfl
 by_cases hs:[c]=s
 ·subst hs
  have:Lib.indexByte [c] c=0:=by
   have:=QI (c:=c) (a:=[]) (b:=[]) (by simp)
   simpa using this
  simp only[h0,decide_false,cond_false,decide_true,cond_true,this]
 ·rw[decide_eq_false h0,cond_false,decide_eq_false hs,cond_false,decide_eq_true h1,cond_true,kA,qi,jdt,qi]
theorem q64 {s:List UInt8}{c:UInt8}(h:c ∉ s):f84 s [c]=Eb (s,[],N9):=by
 unfold f84 Fi
 rw[q1a,q1w h];rfl
theorem q6w {a b:List UInt8}{c:UInt8}(h:c ∉ a)(hl:(a++c::b).length≤1073741824):f84 (a++c::b) [c]=Eb (a,b,Hu):=by
 unfold f84 Fi
 have HD:=hl
 simp only[Ea,Hb]at HD
 rw[q1a,QI h,qi,decide_eq_true (by omega:(0:Int)≤(a.length:Int)),cond_true,Rn (by simp),qi,jx (by simp only[I];omega) (by simp only[I];omega),
  show((a.length:Int)+(([c]:List UInt8).length:Int))=((a.length+1:Nat):Int) by simp,wN (by simp),qi]
 rw[List.take_left',show a++c::b=(a++[c])++b by simp,List.drop_left']
 ·rfl
 ·simp
 ·rfl
theorem sT {α:Type}{o:Option (List α)}{x:α}(h:(o.getD []).length+1≤1073741824):cK o [x]=Eb (Eb (o.getD []++[x])):=by
 unfold cK
 rw[if_pos (by simpa using h)]
 cases o<;>rfl
theorem Ro {s:List UInt8}{c:UInt8}(hs:s.length≤1000000):∀(k i st:Nat) (o:Option (List (List UInt8))) (fl:Bool),i+k=s.length→st≤i→(o.getD []).length≤i→(fl=Hu∨o=Oj) →
  ∃o' kV aN,bq (sQ s (c.toNat:Int)) (o,(st:Int),(i:Int),fl)=Eb (o',kV,((aN:Nat):Int),(s.length:Int))∧aN≤s.length∧(kV=Hu∨o'=Oj)∧(o'.getD []).length≤s.length∧o'.getD []++[s.drop aN]=o.getD []++nW c ((s.drop st).take (i-st)) (s.drop i)
 |0,i,st,o,fl,hi,bH,hl,hf=>by
  have hi:i=s.length:=by omega
  subst hi
  refine⟨o,fl,st,jq ?_,bH,hf,hl,?_⟩
  ·unfold sQ
   simp only[Gc,decide_false,cond_false]
  ·rw[Ga (Ek _),nW,List.take_of_length_le (by rw[Ou];omega)]
 |k+1,i,st,o,fl,hi,bH,hl,hf=>by
  have aC:i<s.length:=by omega
  have fe:(i:Int)<(s.length:Int):=by omega
  have kA:jn s (i:Int)=Eb s[i]:=by rw[y4,Ec aC]
  have hw:qh .i64 ((i:Int)+1)=((i+1:Nat):Int):=yi (by omega)
  rw[mR aC,nW]
  by_cases hc:s[i]=c
  ·have hd:((s[i].toNat:Int)=(c.toNat:Int)):=by rw[hc]
   have gA:kc s (Eb (st:Int)) (Eb (i:Int))=Eb ((s.drop st).take (i-st)):=by
    unfold kc jX
    simp only[Oh,Hy,true_and,show(i:Int)≤(s.length:Int) by omega,show(st:Int)≤(i:Int) by omega,if_true]
    rw[List.drop_take]
   have gy:=sT (x:=(s.drop st).take (i-st)) (o:=o) (by omega)
   obtain⟨o',kV,aN,h1,h2,h3,h4,h5⟩:=Ro hs k (i+1) (i+1) (Eb (o.getD []++[(s.drop st).take (i-st)])) Hu (by omega) (Ek _) (by simp;omega) (.inl rfl)
   refine⟨o',kV,aN,?_,h2,h3,h4,?_⟩
   ·rw[z6 (s':=(Eb (o.getD []++[(s.drop st).take (i-st)]),((i+1:Nat):Int),((i+1:Nat):Int),Hu)),h1]
    unfold sQ
    simp only[fe,decide_true,cond_true,kA,qi,hd,gA,gy,hw]
    rcases hf with rfl|rfl
    ·rfl
    ·cases fl<;>rfl
   ·rw[h5,if_pos hc,Nat.sub_self,List.take_zero]
    simp
  ·have hd:¬((s[i].toNat:Int)=(c.toNat:Int)):=fun e=>hc (N4.1 (by omega))
   obtain⟨o',kV,aN,h1,h2,h3,h4,h5⟩:=Ro hs k (i+1) st o fl (by omega) (by omega) (by omega) hf
   refine⟨o',kV,aN,?_,h2,h3,h4,?_⟩
   ·rw[z6 (s':=(o,(st:Int),((i+1:Nat):Int),fl)),h1]
    unfold sQ
    simp only[fe,decide_true,cond_true,kA,qi,hd,decide_false,cond_false,hw]
   ·have ht:(s.drop st).take (i+1-st)=(s.drop st).take (i-st)++[s[i]]:=by
     rw[show i+1-st=(i-st)+1 by omega,List.take_succ_eq_append_getElem (by rw[Ou];omega)]
     congr 2
     rw[List.getElem_drop];congr 1;omega
    rw[h5,if_neg hc,ht]
theorem q4w {s:List UInt8}{c:UInt8}(hs:s.length≤1000000):f95 s (c.toNat:Int)=Eb (Eb (dz c s)):=by
 obtain⟨o',kV,aN,h1,h2,h3,h4,h5⟩:=Ro (c:=c) hs s.length 0 0 Oj N9 (by omega) (Ek _) (Nat.zero_le _) (.inr rfl)
 unfold f95
 have gA:kc s (Eb (aN:Int)) Oj=Eb (s.drop aN):=by
  unfold kc jX
  simp only[Oh,Hy,true_and,show(aN:Int)≤(s.length:Int) by omega,if_true,Om]
 have gy:=sT (x:=s.drop aN) (o:=o') (by omega)
 have od:bq (sQ s (c.toNat:Int)) (Oj,0,0,N9)=Eb (o',kV,(aN:Int),(s.length:Int)):=h1
 simp only[od,qi,gA,gy]
 have h5':o'.getD []++[s.drop aN]=dz c s:=by rw[h5];rfl
 rw[h5']
 rcases h3 with rfl|rfl
 ·rfl
 ·cases kV<;>rfl
end Go.Z
namespace Go.Z
open Go Go.Abs Go.W
theorem mS {a b:List UInt8}(h:a.length+b.length≤1073741824):kr a b=Eb (a++b):=by
 unfold kr
 rw[if_pos (by omega)]
theorem Jl {p x:List UInt8}{l:List (List UInt8)}:Lib.joinTail p (x::l)=p++x++Lib.joinTail p l:=by
 simp[Lib.joinTail]
theorem q6x {e:aT}{L:List (List UInt8)}(hL:e.names.getD []=L)(hl:L.length≤1000000):∀(k i:Nat) (s:List UInt8),i+k=L.length→s.length+(Lib.joinTail [32] (L.drop i)).length≤1000000000→bq (uf e) (s,(i:Int))=Eb (s++Lib.joinTail [32] (L.drop i),(L.length:Int))
 |0,i,s,hi,h=>by
  obtain rfl:i=L.length:=by omega
  rw[E3 (Ek _)]
  refine jq ?_
  unfold uf
  rw[hL]
  simp only[Gc,decide_false,cond_false]
  simp[Lib.joinTail]
 |k+1,i,s,hi,h=>by
  have aC:i<L.length:=by omega
  have h2:((i:Int)<(L.length:Int)):=by omega
  have hx:jn L (i:Int)=Eb L[i]:=by rw[y4,Ec aC]
  rw[mR aC,Jl]at h ⊢
  simp only[Ea,I]at h
  rw[z6 (s':=(s++[32]++L[i],((i+1:Nat):Int))),q6x hL hl k (i+1) _ (by omega) (by simp only[Ea,I];omega)]
  ·simp
  ·unfold uf
   rw[hL]
   simp only[h2,decide_true,cond_true,hx,qi]
   rw[mS (by simp only[I];omega),qi,mS (by simp only[Ea,I];omega),qi,jx (by omega) (by omega)];rfl
theorem q1n {v:Int}(h0:0≤v)(h1:v<1000000000):f98 v=Eb (Lib.itoa v):=by
 rw[FQ h0]
 have hu:(v.toNat:Int)=v:=H2 h0
 have:=q7c (u:=v.toNat) (by omega)
 rw[hu]at this
 exact this
theorem q1r {e:aT}{L:List Int}(hL:e.values.getD []=L)(hl:L.length≤1000000)(hv:∀v∈L,0≤v∧v<1000000000):∀(k i:Nat) (s:List UInt8),i+k=L.length→s.length+(Lib.joinTail [32] ((L.drop i).map Lib.itoa)).length≤1000000000→bq (sJ e) (s,(i:Int))=Eb (s++Lib.joinTail [32] ((L.drop i).map Lib.itoa),(L.length:Int))
 |0,i,s,hi,h=>by
  obtain rfl:i=L.length:=by omega
  rw[E3 (Ek _)]
  refine jq ?_
  unfold sJ
  rw[hL]
  simp only[Gc,decide_false,cond_false]
  simp[Lib.joinTail]
 |k+1,i,s,hi,h=>by
  have aC:i<L.length:=by omega
  have h2:((i:Int)<(L.length:Int)):=by omega
  have hx:jn L (i:Int)=Eb L[i]:=by rw[y4,Ec aC]
  have hb:=hv L[i] (Jq aC)
  rw[mR aC,Og,Jl]at h ⊢
  simp only[Ea,I]at h
  rw[z6 (s':=(s++[32]++Lib.itoa L[i],((i+1:Nat):Int))),q1r hL hl hv k (i+1) _ (by omega) (by simp only[Ea,I];omega)]
  ·simp
  ·unfold sJ
   rw[hL]
   simp only[h2,decide_true,cond_true,hx,qi]
   rw[mS (by simp only[I];omega),qi,q1n hb.1 hb.2,qi,mS (by simp only[Ea,I];omega),qi,jx (by omega) (by omega)];rfl
theorem qy3 {p:List UInt8}(a b:List (List UInt8)):Lib.joinTail p (a++b)=Lib.joinTail p a++Lib.joinTail p b:=by
 simp[Lib.joinTail]
theorem qzd (e:cB):y7 e=Lib.itoa e.number++[32]++e.kind++Lib.joinTail [32] e.names++Lib.joinTail [32] (e.values.map Lib.itoa):=by
 unfold y7 Rp
 rw[Lib.join_cons,Jl,qy3]
 simp
theorem jip {e:aT}(hn:0≤e.number∧e.number<1000000000)(hv:∀v∈e.values.getD [],0≤v∧v<1000000000)(h1:(e.names.getD []).length≤1000000)(h2:(e.values.getD []).length≤1000000)(hb:(y7 e.er).length≤1000000000):f91 e=Eb (y7 e.er):=by
 rw[qzd]at hb ⊢
 simp only[aT.er]at hb ⊢
 simp only[Ea,I]at hb
 unfold f91
 rw[q1n hn.1 hn.2,qi,mS (by simp only[I];omega),qi,mS (by simp only[Ea,I];omega),qi]
 have l1:=q6x (e:=e) rfl h1 _ 0 (Lib.itoa e.number++[32]++e.kind) (N1 _) (by simp only[Ea,I,En];omega)
 rw[En]at l1
 rw[show bq (uf e) (Lib.itoa e.number++[32]++e.kind,0)=_ from l1,qi]
 have l2:=q1r (e:=e) rfl h2 hv _ 0 (Lib.itoa e.number++[32]++e.kind++Lib.joinTail [32] (e.names.getD [])) (N1 _) (by simp only[Ea,I,En];omega)
 rw[En]at l2
 show qe (bq (sJ e) (Lib.itoa e.number++[32]++e.kind++Lib.joinTail [32] (e.names.getD []),0)) _=_
 rw[show bq (sJ e) (Lib.itoa e.number++[32]++e.kind++Lib.joinTail [32] (e.names.getD []),0)=_ from l2,qi]
end Go.Z
namespace Go.Z
open Go Go.Abs Go.W
theorem qyd {v:Int}(h0:0≤v)(h1:v<1000000000):nw v=Eb (Lib.itoa v):=by
 rw[FQ h0]
 have hu:(v.toNat:Int)=v:=H2 h0
 have:=q06 (u:=v.toNat) (by omega)
 rw[hu]at this
 exact this
theorem q1u {a0:Option (List Int)}{L:List Int}(hL:a0.getD []=L)(hl:L.length≤1000000)(hv:∀v∈L,0≤v∧v<1000000000):∀(k i:Nat) (o:Option (List (List UInt8))) (fl:Bool),i+k=L.length→(o.getD []).length≤i→(fl=Hu∨o=Oj) →
  ∃o' kV,bq (ub a0) (o,(i:Int),fl)=Eb (o',kV,(L.length:Int))∧o'.getD []=o.getD []++(L.drop i).map Lib.itoa
 |0,i,o,fl,hi,lB,hf=>by
  obtain rfl:i=L.length:=by omega
  rw[E3 (Ek _)]
  refine⟨o,fl,jq ?_,by simp⟩
  unfold ub
  rw[hL]
  simp only[Gc,decide_false,cond_false]
 |k+1,i,o,fl,hi,lB,hf=>by
  have aC:i<L.length:=by omega
  have h2:((i:Int)<(L.length:Int)):=by omega
  have hx:jn L (i:Int)=Eb L[i]:=by rw[y4,Ec aC]
  have hb:=hv L[i] (Jq aC)
  have hw:qh .i64 ((i:Int)+1)=((i+1:Nat):Int):=yi (by omega)
  have gy:=sT (x:=Lib.itoa L[i]) (o:=o) (by omega)
  obtain⟨o',kV,h3,h4⟩:=q1u hL hl hv k (i+1) (Eb (o.getD []++[Lib.itoa L[i]])) Hu (by omega) (by simp;omega) (.inl rfl)
  refine⟨o',kV,?_,?_⟩
  ·rw[z6 (s':=(Eb (o.getD []++[Lib.itoa L[i]]),((i+1:Nat):Int),Hu)),h3]
   unfold ub
   rw[hL]
   simp only[h2,decide_true,cond_true,hx,qi,qyd hb.1 hb.2,gy,hw]
   rcases hf with rfl|rfl
   ·rfl
   ·cases fl<;>rfl
  ·rw[h4,mR aC,Og,Option.getD_some,List.append_assoc];rfl
theorem jdp {a0:Option (List Int)}(hl:(a0.getD []).length≤1000000)(hv:∀v∈a0.getD [],0≤v∧v<1000000000):∃o fl,f195 a0=Eb (o,fl)∧o.getD []=(a0.getD []).map Lib.itoa:=by
 obtain⟨o,fl,h1,h2⟩:=q1u (a0:=a0) rfl hl hv _ 0 Oj N9 (N1 _) (Ek _) (.inr rfl)
 refine⟨o,fl,?_,by simpa using h2⟩
 unfold f195
 rw[show bq (ub a0) (Oj,0,N9)=_ from h1,qi]
theorem qw4 {α:Type}{a ys:List α}(h:a.length+ys.length≤1073741824)(ha:a≠[]):cK (Eb a) ys=Eb (Eb (a++ys)):=by
 unfold cK
 rw[if_pos (by simpa using h)]
 cases ys with
 |nil=>simp[BN]
 |cons y t=>simp[BN]
theorem je4 {s:List UInt8}{ss:List (List UInt8)}{p:List UInt8}(h1:(s::ss).length≤100000)(h2:(Lib.join (s::ss) p).length≤100000000):f105 (Eb (s::ss)) p=Eb (Lib.join (s::ss) p):=by
 have lK:(p.intercalate (s::ss)).length≤100000000:=h2
 simp only[f105]
 rw[N5 h1,N5 lK,Bool.and_self,cond_true];rfl
theorem jdz {e:aT}(hn:0≤e.number∧e.number<1000000000)(hv:∀v∈e.values.getD [],0≤v∧v<1000000000)(h1:(e.names.getD []).length≤10000)(h2:(e.values.getD []).length≤10000)(hb:(y7 e.er).length≤100000000):Fs e=Eb (y7 e.er):=by
 obtain⟨o,fl,h3,h4⟩:=jdp (a0:=e.values) (by omega) hv
 unfold Fs
 rw[qyd hn.1 hn.2,qi,qw4 (by simp only[Hb,Ov];omega) (by simp),qi,h3,qi]
 show qe (cK _ (o.getD [])) _=_
 rw[h4,qw4 (by simp only[Ea,Hb,Ov,Ow];omega) (by simp),qi]
 have he:y7 e.er=Lib.join (Lib.itoa e.number::e.kind::(e.names.getD []++(e.values.getD []).map Lib.itoa)) [32]:=rfl
 rw[he]at hb ⊢
 have:=je4 (s:=Lib.itoa e.number) (ss:=e.kind::(e.names.getD []++(e.values.getD []).map Lib.itoa)) (p:=[32]) (by simp only[Ea,Hb,Ow];omega) hb
 show qe (f105 (Eb ([Lib.itoa e.number,e.kind]++e.names.getD []++(e.values.getD []).map Lib.itoa)) [32]) _=_
 rw[show [Lib.itoa e.number,e.kind]++e.names.getD []++(e.values.getD []).map Lib.itoa=Lib.itoa e.number::e.kind::(e.names.getD []++(e.values.getD []).map Lib.itoa) by simp,this,qi]
theorem jjq {e:aT}(hn:0≤e.number∧e.number<1000000000)(hv:∀v∈e.values.getD [],0≤v∧v<1000000000)(h1:(e.names.getD []).length≤10000)(h2:(e.values.getD []).length≤10000)(hb:(y7 e.er).length≤100000000):f83 e=Eb (nA e.er++[10]):=by
 have h7:(nz (eR (y7 e.er))).length=7:=Rq (wL _).1 (by have:=(wL (y7 e.er)).2;omega)
 unfold f83
 rw[jdz hn hv h1 h2 hb,qi,mS (by simp only[I];omega),qi,q0r (by omega),qi,mS (by simp only[Ea,I];omega),qi,mS (by simp only[Ea,I];omega),qi]
 unfold nA
 simp
end Go.Z
namespace Go.Z
open Go Go.Abs Go.W
structure Cl (e:aT):Prop where
 num:0≤e.number∧e.number<1000000000
 vals:∀v∈e.values.getD [],0≤v∧v<1000000000
 l1:(e.names.getD []).length≤10000
 l2:(e.values.getD []).length≤10000
 lb:(y7 e.er).length≤1000000
theorem IP {a0:Option (List aT)}{L:List aT}(hL:a0.getD []=L)(hl:L.length≤1000000)(hg:∀e∈L,Cl e):∀(k i:Nat) (s:List UInt8),i+k=L.length→s.length+(ke ((L.drop i).map aT.er)).length≤1000000000→bq (ug a0) (s,(i:Int))=Eb (s++ke ((L.drop i).map aT.er),(L.length:Int))
 |0,i,s,hi,h=>by
  obtain rfl:i=L.length:=by omega
  rw[E3 (Ek _)]
  refine jq ?_
  unfold ug
  rw[hL]
  simp only[Gc,decide_false,cond_false]
  simp[ke]
 |k+1,i,s,hi,h=>by
  have aC:i<L.length:=by omega
  have h2:((i:Int)<(L.length:Int)):=by omega
  have hx:jn L (i:Int)=Eb L[i]:=by rw[y4,Ec aC]
  have g:=hg L[i] (Jq aC)
  have hlb:=g.lb
  have h7:(nz (eR (y7 L[i].er))).length=7:=Rq (wL _).1 (by have:=(wL (y7 L[i].er)).2;omega)
  have hr:nA L[i].er=y7 L[i].er++35::nz (eR (y7 L[i].er)):=rfl
  rw[mR aC,Og,ke]at h ⊢
  rw[hr]at h ⊢
  simp only[Ea,Hb]at h
  rw[z6 (s':=(s++y7 L[i].er++[35]++nz (eR (y7 L[i].er))++[10],((i+1:Nat):Int))),IP hL hl hg k (i+1) _ (by omega) (by simp only[Ea,I];omega)]
  ·simp
  ·unfold ug
   rw[hL]
   simp only[h2,decide_true,cond_true,hx,qi]
   rw[jip g.num g.vals (by have:=g.l1;omega) (by have:=g.l2;omega) (by omega),qi,mS (by omega),qi,mS (by simp only[Ea,I];omega),qi,q6c (by omega),qi,
    mS (by simp only[Ea,I];omega),qi,mS (by simp only[Ea,I];omega),qi,jx (by omega) (by omega)];rfl
theorem jg3 {a0:Option (List aT)}(hl:(a0.getD []).length≤1000000)(hg:∀e∈a0.getD [],Cl e)(hb:(ke ((a0.getD []).map aT.er)).length≤1000000000):f35 a0=Eb (ke ((a0.getD []).map aT.er)):=by
 have h:=IP (a0:=a0) rfl hl hg _ 0 [] (N1 _) (by simpa using hb)
 unfold f35
 rw[show bq (ug a0) ([],0)=_ from h,qi]
 simp
end Go.Z
