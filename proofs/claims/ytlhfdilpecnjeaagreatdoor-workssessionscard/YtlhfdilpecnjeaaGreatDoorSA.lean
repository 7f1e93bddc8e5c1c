/- The reference's numbers and sums. -/
import Derived.Test.YtlhfdilpecnjeaaGreatDoorWT
import Derived.Test.YtlhfdilpecnjeaaGreatDoorPS
import Derived.Test.YtlhfdilpecnjeaaGreatDoorE1
set_option linter.all false
set_option maxRecDepth 100000
noncomputable section
open List renaming length_singleton->En,getElem?_eq_getElem->Gb,length_append->Ha,length_cons->Hb,drop_eq_nil_of_le->H2,length_drop->Ii,drop_zero->Ij,drop_of_length_le->Io,take_succ_eq_append_getElem->I1,getElem_mem->I6,map_cons->I7,length_take->I9,length_map->Ja,drop_eq_getElem_cons->Jg,take_length->Jj,length_eq_zero_iff->Jm,drop_left'->Jn,take_of_length_le->Jo,length_nil->Jr,length->Ju,replicate->Jv,drop_eq_nil_iff->Jw,length_pos_iff->Jx,all_cons->Jy,getElem_drop->J1,map_append->Ld,drop_take->Lm,take_zero->Lz,drop_drop->L2,map_nil->N4
open Option renaming some->Ga,getD_some->Hc,none->Ip,map_some->Lg
open Nat renaming le_refl->Hq,zero_add->Iy,ble_eq_true_of_le->Js,mod_eq_of_lt->J2,lt_irrefl->N3
open Int renaming lt_irrefl->If,toNat_natCast->Ix,tmod_eq_emod_of_nonneg->Iz,toNat_of_nonneg->I0,tdiv_eq_ediv_of_nonneg->Jf,natCast_nonneg->Jz,ofNat->J0
open Bool renaming true->Ig,false->Ik,true_and->I5,false_and->Jb,not_false->Jc,not_true->Ji
open UInt8 renaming ofNat->Ir,toNat_inj->Iu
namespace Go.Z
open Go Go.Abs Go.W
theorem jcg:∀ (n:Nat) (u:Nat) (s:aj),u<=n->s.length+u<=2000000000->u<1000000000->bd Ak ((u:Int),s)=Ga (0,(if u=0 then []else Lib.decDigits u)++s)
 |n,u,s,h,G,hu=>by
  by_cases h0:u=0
  .subst h0;refine ju ?_;unfold Ak;rfl
  .cases n with
   |zero=>omega
   |succ n=>
    have ih:=jcg n (u / 10) ([Ir (48+u % 10)]++s) (by omega) (by simp only[Ha,En];omega) (by omega)
    have Y:0<(u:Int):=by omega
    have hm:=Nat.mod_lt u (by omega:0<10)
    have Q:sC (u:Int) 10=Ga ((u % 10:Nat):Int):=by
     unfold sC;rw[if_neg (by omega),Iz (by omega)];rfl
    have hq:Af .i64 (u:Int) 10=Ga ((u / 10:Nat):Int):=by
     unfold Af;rw[if_neg (by omega),Jf (by omega),zy (by omega) (by omega)];rfl
    have he:(Utf8.encode (qd .i32 (qd .i64 (48+((u % 10:Nat):Int))))).data.toList=[Ir (48+u % 10)]:=by
     rw[zy (by omega) (by omega),Z3 (by omega) (by omega),q5c (by omega) (by omega)]
     congr 2
    have hc:gA [Ir (48+u % 10)] s=Ga ([Ir (48+u % 10)]++s):=by
     unfold gA;rw[if_pos (by simp only[En];omega)]
    rw[z9 (s':=(((u / 10:Nat):Int),[Ir (48+u % 10)]++s)),ih]
    .rw[if_neg h0];by_cases hu:u<10
     .rw[if_pos (by omega),Hm hu,J2 hu];rfl
     .rw[if_neg (by omega),QH hu];simp
    .unfold Ak;simp only[Y,decide_true,cond_true,Q,qe,he,hc,hq]
theorem jyc {u:Nat}(hu:u<1000000000):f86 (u:Int)=Ga (Lib.decDigits u):=by
 have Y:¬(u:Int)<0:=by omega
 have hm:=Nat.mod_lt u (by omega:0<10)
 have Q:sC (u:Int) 10=Ga ((u % 10:Nat):Int):=by
  unfold sC;rw[if_neg (by omega),Iz (by omega)];rfl
 have hq:Af .i64 (u:Int) 10=Ga ((u / 10:Nat):Int):=by
  unfold Af;rw[if_neg (by omega),Jf (by omega),zy (by omega) (by omega)];rfl
 have he:(Utf8.encode (qd .i32 (qd .i64 (48+((u % 10:Nat):Int))))).data.toList=[Ir (48+u % 10)]:=by
  rw[zy (by omega) (by omega),Z3 (by omega) (by omega),q5c (by omega) (by omega)]
  congr 2
 have hl:=jcg (u / 10) (u / 10) [Ir (48+u % 10)] (Hq _) (by simp only[En];omega) (by omega);unfold f86;simp only[Y,decide_false,cond_false,Q,qe,hq,he];rw[show bd Ak (((u / 10:Nat):Int),[Ir (48+u % 10)])=_ from hl,qe]
 congr 1
 by_cases hu:u<10
 .rw[if_pos (by omega),Hm hu,J2 hu];rfl
 .rw[if_neg (by omega),QH hu]
theorem Ln {u:Nat}(hu:u<1000000000):f34 (u:Int)=Ga (Lib.decDigits u):=by
 unfold f34;rw[jyc hu];rfl
theorem jq0 {x:Int}{c:UInt8}(h0:0<=x)(Y:x<9999889):sC (qd .i64 ((qd .i64 (313*x))+(qd .i64 (c.toNat:Int)))) 9999889=Ga (sG x c):=by
 have hc:c.toNat<256:=c.toNat_lt;rw[zy (x:=313*x) (by omega) (by omega),zy (x:=(c.toNat:Int)) (by omega) (by omega),zy (by omega) (by omega)];unfold sC;rw[if_neg (by omega),Iz (by omega)];rfl
theorem CU {s:aj}{i:Nat}(h:i<s.length):ql s (i:Int)=Ga s[i]:=ja (Gb h)
theorem Z4 (s:aj)(G:s.length<=1073741824):∀(k i:Nat) (x:Int),i+k=s.length->0<=x->x<9999889->bd (xN s) (x,(i:Int))=Ga ((s.drop i).foldl sG x,(s.length:Int))
 |0,i,x,hi,h0,Y=>by
  obtain rfl:i=s.length:=by omega
  rw[H2 (Hq _)];refine ju ?_;unfold xN;simp only[If,decide_false,cond_false,List.foldl_nil]
 |k+1,i,x,hi,h0,Y=>by
  have aW:i<s.length:=by omega
  have hb:0<=sG x s[i]/\sG x s[i] < 9999889:=Z5 [s[i]] x h0 Y;rw[z9 (s':=(sG x s[i],((i+1:Nat):Int))),Z4 s G k (i+1) _ (by omega) hb.1 hb.2,Jg aW,List.foldl_cons];unfold xN
  have I:((i:Int)<(s.length:Int)):=by omega
  simp only[I,decide_true,cond_true,CU aW,qe,jq0 h0 Y];rw[zy (by omega) (by omega)];rfl
theorem jdd:∀ (k:Nat) (t:aj),t.length+k=7->bd Ct t=Ga (Jv k 48++t)
 |0,t,h=>by
  refine ju ?_;unfold Ct
  have Y:¬((t.length:Int)<7):=by omega
  simp only[Y,decide_false,cond_false];rfl
 |k+1,t,h=>by
  rw[z9 (s':=48::t),jdd k (48::t) (by simp only[Hb];omega)]
  .rw[List.replicate_succ'];simp
  .unfold Ct
   have Y:((t.length:Int)<7):=by omega
   have hc:gA ([48]:aj) t=Ga ([48]++t):=by
    unfold gA;rw[if_pos (by simp only[En];omega)]
   simp only[Y,decide_true,cond_true,hc,qe];rfl
theorem jk2 {s:aj}(G:s.length<=1073741824):f25 s=Ga (rE (fZ s)):=by
 have hb:=CV s;unfold f25;rw[show bd (xN s) (1,0)=_ from Z4 s G s.length 0 1 (by omega) (by omega) (by omega),qe];have hu:((fZ s).toNat:Int)=fZ s:=I0 hb.1
 have hd:f34 (fZ s)=Ga (Lib.decDigits (fZ s).toNat):=by rw[<-hu];exact Ln (by omega)
 have hl:=Hn 6 (fZ s).toNat (by omega);show qa (f34 (fZ s)) _=_;rw[hd,qe,jdd (7-(Lib.decDigits (fZ s).toNat).length) _ (by omega)];rfl
theorem jub (s:aj)(G:s.length<=1073741824):∀(k i:Nat) (x:Int),i+k=s.length->0<=x->x<9999889->bd (CC s) (x,(i:Int))=Ga ((s.drop i).foldl sG x,(s.length:Int)):=fun k i x hi h0 Y=>(show bd (CC s) (x,(i:Int))=bd (xN s) (x,(i:Int))from rfl).trans (Z4 s G k i x hi h0 Y)
theorem Lp {u:Nat}(hu:u<1000000000000000000):f43 (u:Int)=Ga (Lib.decDigits u):=by
 show f43 (J0 u)=_;simp only[f43,Nat.blt_eq.mpr hu,cond_true];rw[XU 18 u [] (by omega) (by omega),List.append_nil]
theorem jde (c:UInt8):∀k,Lib.repeatL [c] k=Jv k c
 |0=>rfl
 |k+1=>by
  rw[Lib.repeatL,jde c k,List.replicate_succ];rfl
theorem jc5 {s:aj}(G:s.length<=1073741824):f136 s=Ga (rE (fZ s)):=by
 have hb:=CV s;unfold f136;rw[show bd (CC s) (1,0)=_ from jub s G s.length 0 1 (by omega) (by omega) (by omega),qe];have hu:((fZ s).toNat:Int)=fZ s:=I0 hb.1
 have hd:f43 (fZ s)=Ga (Lib.decDigits (fZ s).toNat):=by rw[<-hu];exact Lp (by omega)
 have hl:=Hn 6 (fZ s).toNat (by omega);show qa (f43 (fZ s)) _=_;rw[hd,qe,zy (by omega) (by omega),show(7:Int)-((Lib.decDigits (fZ s).toNat).length:Int)=J0 (7-(Lib.decDigits (fZ s).toNat).length) by simp only[Int.ofNat_eq_natCast];omega]
 have Q:f211 ([48]:aj) (J0 (7-(Lib.decDigits (fZ s).toNat).length))=Ga (Jv (7-(Lib.decDigits (fZ s).toNat).length) 48):=by
  simp only[f211];rw[show(Nat.ble (7-(Lib.decDigits (fZ s).toNat).length) 100000&&Nat.ble (([48]:aj).length*(7-(Lib.decDigits (fZ s).toNat).length)) 100000)=Ig by simp only[Bool.and_eq_true,Nat.ble_eq,En];omega,cond_true,jde]
 rw[Q,qe];unfold gA;rw[if_pos (by simp only[List.length_replicate];omega)];rfl
end Go.Z
namespace Go.Z
open Go Go.Abs Go.W
theorem qB {α:Type}{s:List α}{i:Nat}(hi:i<s.length):s.drop i=s[i]::s.drop (i+1):=(Jg hi)
theorem jcm {s:aj}(G:s.length<=9):∀(k i:Nat) (n:Int),i+k=s.length->0<=n->n<10^i ->
  bd (tZ s) (n,(i:Int))=Ga (match kU n (s.drop i)with|none=>.inl ()|some v=>.inr (v,(s.length:Int)))
 |0,i,n,hi,h0,Y=>by
  have hi:i=s.length:=by omega
  subst hi;rw[Io (Hq _),kU];exact ju (by unfold tZ;simp only[If,decide_false,cond_false])
 |k+1,i,n,hi,h0,Y=>by
  have aW:i<s.length:=by omega
  have gq:(i:Int)<(s.length:Int):=by omega
  have mQ:ql s (i:Int)=Ga s[i]:=by rw[oO,Gb aW]
  have hw:qd .i64 ((i:Int)+1)=((i+1:Nat):Int):=za (by omega);have hp:=jce (show i<=9 by omega);rw[qB aW,kU];by_cases hc:(s[i].toNat:Int)<48
  .rw[if_neg (by omega)];exact ju (by unfold tZ;simp only[gq,decide_true,cond_true,mQ,qe,hc])
  .by_cases hd:57<(s[i].toNat:Int)
   .rw[if_neg (by omega)];exact ju (by unfold tZ;simp only[gq,decide_true,cond_true,mQ,qe,hc,decide_false,cond_false,hd])
   .rw[if_pos (by omega),<-jcm G k (i+1) (10*n+((s[i].toNat:Int)-48)) (by omega) (by omega) (by rw[Int.pow_succ];omega)];refine z9 ?_;unfold tZ;simp only[gq,decide_true,cond_true,mQ,qe,hc,decide_false,cond_false,hd,hw];rw[jwm (by omega) (by omega),zy (x:=10*n) (by omega) (by omega),zy (x:=(s[i].toNat:Int)-48) (by omega) (by omega),zy (by omega) (by omega)]
theorem QI (s:aj):f72 s=Ga (match iI s with|none=>(0,Ik)|some v=>(v,Ig)):=by
 unfold f72 iI;by_cases Y:s=[]
 .subst Y;rfl
 have hl:0<s.length:=Jx.2 Y
 have qY:¬(s.length:Int)=0:=by omega
 by_cases I:9<s.length
 .have il:(9:Int)<(s.length:Int):=by omega
  simp only[qY,il,decide_false,decide_true,cond_false,cond_true,I,true_or,or_true,if_true]
 have il:¬(9:Int)<(s.length:Int):=by omega
 have Lq:=jcm (s:=s) (by omega) s.length 0 0 (by omega) (by omega) (by simp);have gu:bd (tZ s) (0,0)=_:=Lq
 have mQ:ql s 0=Ga s[0]:=by rw[show(0:Int)=((0:Nat):Int)from rfl,oO,Gb hl]
 rw[q99 hl];rw[Ij]at gu;by_cases h3:1<s.length
 .have oW:(1:Int)<(s.length:Int):=by omega
  by_cases h4:s[0]=48
  .have CW:(s[0].toNat:Int)=48:=by rw[h4];rfl
   simp only[qY,il,oW,decide_false,decide_true,cond_false,cond_true,Y,I,h3,h4,mQ,qe,CW,true_and,or_true,if_true];rfl
  .have CW:¬(s[0].toNat:Int)=48:=fun e=>h4 (Iu.1 (by have:(48:UInt8).toNat=48:=rfl;omega));simp only[qY,il,oW,decide_false,decide_true,cond_false,cond_true,Y,I,h3,h4,mQ,qe,CW,true_and,or_false,if_false,gu,Ga.injEq];cases kU 0 s<;>rfl
 .have oW:¬(1:Int)<(s.length:Int):=by omega
  simp only[qY,il,oW,decide_false,decide_true,cond_false,cond_true,Y,I,h3,false_and,or_false,if_false];rw[show Le s=tZ s from rfl,gu,qe];cases kU 0 s<;>rfl
theorem jc2 {s:aj}(G:s.length<=9):∀(k i:Nat) (n:Int),i+k=s.length->0<=n->n<10^i ->
  ∃j,bd (xX s) (n,i)=Ga (match kU n (s.drop i)with|none=>.inl j|some v=>.inr (v,s.length))
 |0,i,n,hi,h0,Y=>by
  have hi:i=s.length:=by omega
  subst hi;rw[Io (Hq _),kU];exact⟨0,ju (by unfold xX;simp only[N3,decide_false,cond_false])⟩
 |k+1,i,n,hi,h0,Y=>by
  have aW:i<s.length:=by omega
  have hg:s[i]?=Ga s[i]:=Gb aW;have hp:=jce (show i<=9 by omega)
  have h9:¬9<(s.length:Int):=by omega
  rw[qB aW,kU];by_cases hd:48<=s[i].toNat/\s[i].toNat<=57
  .have e:=O5 hg (by omega);obtain⟨j,hj⟩:=jc2 G k (i+1) (10*n+((s[i].toNat:Int)-48)) (by omega) (by omega) (by rw[Int.pow_succ];omega);refine⟨j,?_⟩;rw[if_pos hd,<-hj];refine z9 ?_
   have J:¬(s[i].toNat:Int)<48:=by omega
   have a2:¬57<(s[i].toNat:Int):=by omega
   unfold xX;simp only[aW,decide_true,cond_true,e,J,a2,decide_false,cond_false];rw[Z3 (by omega) (by omega),zy (x:=10*n) (by omega) (by omega),zy (x:=(s[i].toNat:Int)-48) (by omega) (by omega),zy (by omega) (by omega)]
  .rw[if_neg hd];refine⟨i+(qj s i).2,ju ?_⟩;unfold xX;simp only[aW,decide_true,cond_true,decide_false,cond_false];by_cases hl:s[i].toNat<128
   .rw[O5 hg hl];by_cases J:(s[i].toNat:Int)<48
    .simp only[J,decide_true,cond_true]
    .have a2:57<(s[i].toNat:Int):=by omega
     simp only[J,a2,decide_true,cond_true,decide_false,cond_false]
   .have:=WB hg hl
    have J:¬((qj s i).1:Int)<48:=by omega
    have a2:57<((qj s i).1:Int):=by omega
    simp only[J,a2,decide_true,cond_true,decide_false,cond_false]
theorem Z6 (s:aj):f123 s=Ga (match iI s with|none=>(0,Ik)|some v=>(v,Ig)):=by
 unfold f123 iI;by_cases Y:s=[]
 .subst Y;rfl
 have hl:0<s.length:=Jx.2 Y;by_cases I:9<s.length
 .have il:(9:Int)<(s.length:Int):=by omega
  simp only[Y,il,decide_false,decide_true,cond_false,cond_true,I,true_or,or_true,if_true]
 have il:¬(9:Int)<(s.length:Int):=by omega
 obtain⟨j,gu⟩:=jc2 (s:=s) (by omega) s.length 0 0 (by omega) (by omega) (by simp)
 have mQ:ql s 0=Ga s[0]:=by rw[show(0:Int)=((0:Nat):Int)from rfl,oO,Gb hl]
 rw[q99 hl];rw[Ij]at gu;by_cases h3:1<s.length
 .have oW:(1:Int)<(s.length:Int):=by omega
  by_cases h4:s[0]=48
  .have CW:(s[0].toNat:Int)=48:=by rw[h4];rfl
   simp only[Y,il,oW,decide_false,decide_true,cond_false,cond_true,I,h3,h4,mQ,qe,CW,true_and,or_true,if_true];rfl
  .have CW:¬(s[0].toNat:Int)=48:=fun e=>h4 (Iu.1 (by have:(48:UInt8).toNat=48:=rfl;omega));simp only[Y,il,oW,decide_false,decide_true,cond_false,cond_true,I,h3,h4,mQ,qe,CW,true_and,or_false,if_false,gu,Ga.injEq];cases kU 0 s<;>rfl
 .have oW:¬(1:Int)<(s.length:Int):=by omega
  simp only[Y,il,oW,decide_false,decide_true,cond_false,cond_true,I,h3,false_and,or_false,if_false];rw[show Li s=xX s from rfl,gu,qe];cases kU 0 s<;>rfl
theorem Z7 {c:UInt8}:iJ c=Ig↔48<=c.toNat/\c.toNat<=57:=by simp[iJ]
theorem jdo {s:aj}(G:s.length<=1073741824):∀(k i:Nat),i+k=s.length->bd (xQ s) (i:Int)=Ga (if(s.drop i).all iJ=Ig then .inr (s.length:Int)else .inl ())
 |0,i,hi=>by
  have hi:i=s.length:=by omega
  subst hi;rw[Io (Hq _)];exact ju (by unfold xQ;simp only[If,decide_false,cond_false];rfl)
 |k+1,i,hi=>by
  have aW:i<s.length:=by omega
  have gq:(i:Int)<(s.length:Int):=by omega
  have mQ:ql s (i:Int)=Ga s[i]:=by rw[oO,Gb aW]
  have hw:qd .i64 ((i:Int)+1)=((i+1:Nat):Int):=za (by omega);rw[qB aW,Jy];by_cases hd:48<=s[i].toNat/\s[i].toNat<=57
  .rw[Z7.2 hd,I5,<-jdo G k (i+1) (by omega)];refine z9 ?_
   have J:¬(s[i].toNat:Int)<48:=by omega
   have a2:¬57<(s[i].toNat:Int):=by omega
   unfold xQ;simp only[gq,decide_true,cond_true,mQ,qe,J,a2,decide_false,cond_false,hw]
  .have hf:iJ s[i]=Ik:=by
    cases h:iJ s[i]with
    |false=>rfl|true=>exact absurd (Z7.1 h) hd
   rw[hf,Jb,if_neg (by simp)];refine ju ?_;unfold xQ;by_cases J:(s[i].toNat:Int)<48
   .simp only[gq,decide_true,cond_true,mQ,qe,J]
   .have a2:57<(s[i].toNat:Int):=by omega
    simp only[gq,decide_true,cond_true,mQ,qe,J,a2,decide_false,cond_false]
theorem jxw {s:aj}(G:s.length<=1073741824):f71 s=Ga (s.all iJ&&decide (s.length=7)):=by
 unfold f71;rw[show bd (xQ s) 0=_ from jdo G s.length 0 (by omega),qe,Ij]
 cases s.all iJ with
 |false=>rfl
 |true=>
  simp only[if_true,I5,Ga.injEq];exact decide_eq_decide.2 (by omega)
theorem jme (x:Int):f139 x=Ga (!(decide (48<=x)&&decide (x<=57))):=by
 unfold f139;by_cases Y:x<48
 .simp only[Y,decide_true,cond_true,decide_eq_false (show ¬48<=x by omega),Jb,Jc]
 .simp only[Y,decide_false,cond_false,decide_eq_true (show 48<=x by omega),I5];by_cases I:57<x
  .simp only[I,decide_true,decide_eq_false (show ¬x<=57 by omega),Jc]
  .simp only[I,decide_false,decide_eq_true (show x<=57 by omega),Ji]
end Go.Z
namespace Go.Z
open Go Go.Abs Go.W
theorem jca {s:aj}{i:Nat}(h:i<s.length):f139 ((qj s i).1:Int)=Ga (!(iJ s[i]))/\(iJ s[i]=Ig->(qj s i).2=1):=by
 have hg:s[i]?=Ga s[i]:=Gb h;rw[jme];by_cases hl:s[i].toNat<128
 .rw[O5 hg hl];refine⟨?_,fun _=>rfl⟩
  congr 2
  unfold iJ
  congr 1
  .exact decide_eq_decide.2 (by omega)
  .exact decide_eq_decide.2 (by omega)
 .have sZ:=WB hg hl
  have hn:iJ s[i]=Ik:=by
   cases hd:iJ s[i]with
   |false=>rfl|true=>have:=Z7.1 hd;omega
  rw[hn,decide_eq_false (show ¬((qj s i).1:Int)<=57 by omega),Bool.and_false];exact⟨rfl,fun e=>by cases e⟩
theorem jcd (s:aj):∀(k i:Nat) (p:Int),i+k=s.length->∃j m:Nat,bd (Lj s Ig) (Ga (Ig,p,i))=Ga (if(s.drop i).all iJ=Ig then .inr (Ig,s.length)else .inl ((j:Int),m))
 |0,i,p,hi=>by
  have hi:i=s.length:=by omega
  subst hi;rw[Io (Hq _)];refine⟨0,0,ju ?_⟩;show xY s Ig (Ig,p,s.length)=_;unfold xY;simp only[N3,decide_false,cond_false];rfl
 |k+1,i,p,hi=>by
  have aW:i<s.length:=by omega
  have hd:=jca aW;rw[qB aW,Jy];cases hb:iJ s[i]with
  |true=>
   obtain⟨j,m,hj⟩:=jcd s k (i+1) (i:Int) (by omega);refine⟨j,m,?_⟩;rw[I5,<-hj];refine z9 ?_;show xY s Ig (Ig,p,i)=_;unfold xY;simp only[aW,decide_true,cond_true,hd.1,hd.2 hb,hb,qe,Ji,cond_false]
  |false=>
   refine⟨i,i+(qj s i).2,?_⟩;rw[Jb,if_neg (by simp)];refine ju ?_;show xY s Ig (Ig,p,i)=_;unfold xY;simp only[aW,decide_true,cond_true,hd.1,hb,qe,Jc]
theorem jsb (s:aj):f138 s=Ga (!(s.all iJ)):=by
 have key:∃j m:Nat,bd (Lj s Ig) Ip=Ga (if s.all iJ=Ig then .inr (Ig,s.length)else .inl ((j:Int),m)):=by
  cases G:s.length with
  |zero=>
   obtain rfl:=Jm.1 G;exact⟨0,0,ju rfl⟩
  |succ n=>
   have aW:0<s.length:=by omega
   have hd:=jca aW
   have he:s.all iJ=(iJ s[0]&&(s.drop 1).all iJ):=by
    have:=congrArg (fun l=>List.all l iJ) (qB aW);simpa only[Ij,Jy]using this
   rw[he];cases hb:iJ s[0]with
   |true=>
    obtain⟨j,m,hj⟩:=jcd s n 1 (0:Int) (by omega);refine⟨j,m,?_⟩;rw[I5,<-G,<-hj];refine z9 ?_;show CI s Ig=_;unfold CI;simp only[aW,decide_true,cond_true,hd.1,hd.2 hb,hb,qe,Ji,cond_false]<;>rfl
   |false=>
    refine⟨0,0+(qj s 0).2,?_⟩;rw[Jb,if_neg (by simp)];refine ju ?_;show CI s Ig=_;unfold CI;simp only[aW,decide_true,cond_true,hd.1,hb,qe,Jc];rfl
 obtain⟨j,m,hk⟩:=key;unfold f138 f213 f260;rw[hk,qe]
 cases s.all iJ with
 |true=>rfl
 |false=>
  show Ga (decide ((0:Int)<=(j:Int)))=_;rw[decide_eq_true (by omega)];rfl
end Go.Z
namespace Go.Z
open Go Go.Abs Go.W
theorem jvy {s:aj}{i j:Nat}(Y:i<=j)(I:j<=s.length):fY s (Ga (i:Int)) (Ga (j:Int))=Ga ((s.take j).drop i):=by
 simp only[fY,lz];rw[if_pos ⟨by omega,by omega⟩];simp only[Ix];rw[if_pos ⟨by omega,by omega⟩]
theorem Z8 {s:aj}{j:Nat}(I:j<=s.length):fY s Ip (Ga (j:Int))=Ga (s.take j):=by
 simp only[fY,lz];rw[if_pos ⟨by omega,by omega⟩];simp only[Ix,Ij]
theorem CX {s:aj}{i:Nat}(I:i<=s.length):fY s (Ga (i:Int)) Ip=Ga (s.drop i):=by
 simp only[fY,lz];rw[if_pos ⟨by omega,by omega⟩];simp only[Ix,Jj]
theorem js3 (s:aj)(c:UInt8):f256 s (c.toNat:Int)=Ga (Lib.indexByte s c):=by
 show f256 s (J0 c.toNat)=_;simp only[f256,q4w];rw[show Ir c.toNat=c from UInt8.ofNat_toNat]
theorem jdz {s:aj}(c:UInt8):f212 s [c]=Ga (Lib.indexByte s c):=by
 unfold f212
 have h0:¬((([c]:aj).length:Int)=0):=by simp
 have Y:((([c]:aj).length:Int)=1):=by simp
 have mQ:ql [c] 0=Ga c:=rfl;by_cases G:[c]=s
 .subst G
  have:Lib.indexByte [c] c=0:=by
   have:=XT (c:=c) (a:=[]) (b:=[]) (by simp);simpa using this
  simp only[h0,decide_false,cond_false,decide_true,cond_true,this]
 .rw[decide_eq_false h0,cond_false,decide_eq_false G,cond_false,decide_eq_true Y,cond_true,mQ,qe,js3,qe]
theorem jkt {s:aj}{c:UInt8}(h:c ∉ s):f52 s [c]=Ga (s,[],Ik):=by
 unfold f52 f137;rw[jdz,jdx h];rfl
theorem jh9 {a b:aj}{c:UInt8}(h:c ∉ a)(hl:(a++c::b).length<=1073741824):f52 (a++c::b) [c]=Ga (a,b,Ig):=by
 unfold f52 f137;have FR:=hl;simp only[Ha,Hb]at FR
 rw[jdz,XT h,qe,decide_eq_true (by omega:(0:Int)<=(a.length:Int)),cond_true,Z8 (by simp),qe,zy (by simp only[En];omega) (by simp only[En];omega),
  show((a.length:Int)+(([c]:aj).length:Int))=((a.length+1:Nat):Int) by simp,CX (by simp),qe]
 rw[List.take_left',show a++c::b=(a++[c])++b by simp,Jn]
 .rfl
 .simp
 .rfl
theorem x4 {α:Type}{o:Option (List α)}{x:α}(h:(o.getD []).length+1<=1073741824):bB o [x]=Ga (Ga (o.getD []++[x])):=by
 unfold bB;rw[if_pos (by simpa using h)];cases o<;>rfl
theorem Z9 {s:aj}{c:UInt8}(G:s.length<=1000000):∀(k i st:Nat) (o:ak aj) (fl:Bool),i+k=s.length->st<=i->(o.getD []).length<=i->(fl=Ig\/o=Ip) ->
  ∃o' nE bH,bd (xR s (c.toNat:Int)) (o,(st:Int),(i:Int),fl)=Ga (o',nE,((bH:Nat):Int),(s.length:Int))/\bH<=s.length/\(nE=Ig\/o'=Ip)/\(o'.getD []).length<=s.length/\o'.getD []++[s.drop bH]=o.getD []++sD c ((s.drop st).take (i-st)) (s.drop i)
 |0,i,st,o,fl,hi,cw,hl,hf=>by
  have hi:i=s.length:=by omega
  subst hi;refine⟨o,fl,st,ju ?_,cw,hf,hl,?_⟩
  .unfold xR;simp only[If,decide_false,cond_false]
  .rw[Io (Hq _),sD,Jo (by rw[Ii];omega)]
 |k+1,i,st,o,fl,hi,cw,hl,hf=>by
  have aW:i<s.length:=by omega
  have gq:(i:Int)<(s.length:Int):=by omega
  have mQ:ql s (i:Int)=Ga s[i]:=by rw[oO,Gb aW]
  have hw:qd .i64 ((i:Int)+1)=((i+1:Nat):Int):=za (by omega);rw[qB aW,sD];by_cases hc:s[i]=c
  .have hd:((s[i].toNat:Int)=(c.toNat:Int)):=by rw[hc]
   have iR:fY s (Ga (st:Int)) (Ga (i:Int))=Ga ((s.drop st).take (i-st)):=by
    unfold fY lz;simp only[Jz,Ix,true_and,show(i:Int)<=(s.length:Int) by omega,show(st:Int)<=(i:Int) by omega,if_true];rw[Lm]
   have ik:=x4 (x:=(s.drop st).take (i-st)) (o:=o) (by omega);obtain⟨o',nE,bH,Y,I,h3,h4,h5⟩:=Z9 G k (i+1) (i+1) (Ga (o.getD []++[(s.drop st).take (i-st)])) Ig (by omega) (Hq _) (by simp;omega) (.inl rfl);refine⟨o',nE,bH,?_,I,h3,h4,?_⟩
   .rw[z9 (s':=(Ga (o.getD []++[(s.drop st).take (i-st)]),((i+1:Nat):Int),((i+1:Nat):Int),Ig)),Y];unfold xR;simp only[gq,decide_true,cond_true,mQ,qe,hd,iR,ik,hw];rcases hf with rfl|rfl
    .rfl
    .cases fl<;>rfl
   .rw[h5,if_pos hc,Nat.sub_self,Lz];simp
  .have hd:¬((s[i].toNat:Int)=(c.toNat:Int)):=fun e=>hc (Iu.1 (by omega));obtain⟨o',nE,bH,Y,I,h3,h4,h5⟩:=Z9 G k (i+1) st o fl (by omega) (by omega) (by omega) hf;refine⟨o',nE,bH,?_,I,h3,h4,?_⟩
   .rw[z9 (s':=(o,(st:Int),((i+1:Nat):Int),fl)),Y];unfold xR;simp only[gq,decide_true,cond_true,mQ,qe,hd,decide_false,cond_false,hw]
   .have ht:(s.drop st).take (i+1-st)=(s.drop st).take (i-st)++[s[i]]:=by
     rw[show i+1-st=(i-st)+1 by omega,I1 (by rw[Ii];omega)]
     congr 2
     rw[J1];congr 1;omega
    rw[h5,if_neg hc,ht]
theorem QJ {s:aj}{c:UInt8}(G:s.length<=1000000):f30 s (c.toNat:Int)=Ga (Ga (ej c s)):=by
 obtain⟨o',nE,bH,Y,I,h3,h4,h5⟩:=Z9 (c:=c) G s.length 0 0 Ip Ik (by omega) (Hq _) (Nat.zero_le _) (.inr rfl);unfold f30
 have iR:fY s (Ga (bH:Int)) Ip=Ga (s.drop bH):=by
  unfold fY lz;simp only[Jz,Ix,true_and,show(bH:Int)<=(s.length:Int) by omega,if_true,Jj]
 have ik:=x4 (x:=s.drop bH) (o:=o') (by omega);have qY:bd (xR s (c.toNat:Int)) (Ip,0,0,Ik)=Ga (o',nE,(bH:Int),(s.length:Int)):=Y;simp only[qY,qe,iR,ik]
 have h5':o'.getD []++[s.drop bH]=ej c s:=by rw[h5];rfl
 rw[h5'];rcases h3 with rfl|rfl
 .rfl
 .cases nE<;>rfl
end Go.Z
namespace Go.Z
open Go Go.Abs Go.W
theorem oo {a b:aj}(h:a.length+b.length<=1073741824):gA a b=Ga (a++b):=by
 unfold gA;rw[if_pos (by omega)]
theorem Ho {p x:aj}{l:List aj}:Lib.joinTail p (x::l)=p++x++Lib.joinTail p l:=by
 simp[Lib.joinTail]
theorem ji2 {e:aC}{L:List aj}(hL:e.names.getD []=L)(hl:L.length<=1000000):∀(k i:Nat) (s:aj),i+k=L.length->s.length+(Lib.joinTail [32] (L.drop i)).length<=1000000000->bd (Al e) (s,(i:Int))=Ga (s++Lib.joinTail [32] (L.drop i),(L.length:Int))
 |0,i,s,hi,h=>by
  obtain rfl:i=L.length:=by omega
  rw[H2 (Hq _)];refine ju ?_;unfold Al;rw[hL];simp only[If,decide_false,cond_false];simp[Lib.joinTail]
 |k+1,i,s,hi,h=>by
  have aW:i<L.length:=by omega
  have I:((i:Int)<(L.length:Int)):=by omega
  have M:ql L (i:Int)=Ga L[i]:=by rw[oO,Gb aW]
  rw[qB aW,Ho]at h ⊢;simp only[Ha,En]at h;rw[z9 (s':=(s++[32]++L[i],((i+1:Nat):Int))),ji2 hL hl k (i+1) _ (by omega) (by simp only[Ha,En];omega)]
  .simp
  .unfold Al;rw[hL];simp only[I,decide_true,cond_true,M,qe];rw[oo (by simp only[En];omega),qe,oo (by simp only[Ha,En];omega),qe,zy (by omega) (by omega)];rfl
theorem jdy {v:Int}(h0:0<=v)(Y:v<1000000000):f34 v=Ga (Lib.itoa v):=by
 rw[Lr h0];have hu:(v.toNat:Int)=v:=I0 h0;have:=Ln (u:=v.toNat) (by omega);rw[hu]at this;exact this
theorem jcc {e:aC}{L:List Int}(hL:e.values.getD []=L)(hl:L.length<=1000000)(hv:∀v∈L,0<=v/\v<1000000000):∀(k i:Nat) (s:aj),i+k=L.length->s.length+(Lib.joinTail [32] ((L.drop i).map Lib.itoa)).length<=1000000000->bd (xO e) (s,(i:Int))=Ga (s++Lib.joinTail [32] ((L.drop i).map Lib.itoa),(L.length:Int))
 |0,i,s,hi,h=>by
  obtain rfl:i=L.length:=by omega
  rw[H2 (Hq _)];refine ju ?_;unfold xO;rw[hL];simp only[If,decide_false,cond_false];simp[Lib.joinTail]
 |k+1,i,s,hi,h=>by
  have aW:i<L.length:=by omega
  have I:((i:Int)<(L.length:Int)):=by omega
  have M:ql L (i:Int)=Ga L[i]:=by rw[oO,Gb aW]
  have hb:=hv L[i] (I6 aW);rw[qB aW,I7,Ho]at h ⊢;simp only[Ha,En]at h;rw[z9 (s':=(s++[32]++Lib.itoa L[i],((i+1:Nat):Int))),jcc hL hl hv k (i+1) _ (by omega) (by simp only[Ha,En];omega)]
  .simp
  .unfold xO;rw[hL];simp only[I,decide_true,cond_true,M,qe];rw[oo (by simp only[En];omega),qe,jdy hb.1 hb.2,qe,oo (by simp only[Ha,En];omega),qe,zy (by omega) (by omega)];rfl
theorem q93 {p:aj}(a b:List aj):Lib.joinTail p (a++b)=Lib.joinTail p a++Lib.joinTail p b:=by
 simp[Lib.joinTail]
theorem qx7 (e:cQ):jA e=Lib.itoa e.number++[32]++e.kind++Lib.joinTail [32] e.names++Lib.joinTail [32] (e.values.map Lib.itoa):=by
 unfold jA q77;rw[Lib.join_cons,Ho,q93];simp
theorem jwy {e:aC}(hn:0<=e.number/\e.number<1000000000)(hv:∀v∈e.values.getD [],0<=v/\v<1000000000)(Y:(e.names.getD []).length<=1000000)(I:(e.values.getD []).length<=1000000)(hb:(jA e.er).length<=1000000000):f50 e=Ga (jA e.er):=by
 rw[qx7]at hb ⊢;simp only[aC.er]at hb ⊢;simp only[Ha,En]at hb;unfold f50;rw[jdy hn.1 hn.2,qe,oo (by simp only[En];omega),qe,oo (by simp only[Ha,En];omega),qe];have l1:=ji2 (e:=e) rfl Y _ 0 (Lib.itoa e.number++[32]++e.kind) (Iy _) (by simp only[Ha,En,Ij];omega);rw[Ij]at l1;rw[show bd (Al e) (Lib.itoa e.number++[32]++e.kind,0)=_ from l1,qe];have l2:=jcc (e:=e) rfl I hv _ 0 (Lib.itoa e.number++[32]++e.kind++Lib.joinTail [32] (e.names.getD [])) (Iy _) (by simp only[Ha,En,Ij];omega);rw[Ij]at l2;show qa (bd (xO e) (Lib.itoa e.number++[32]++e.kind++Lib.joinTail [32] (e.names.getD []),0)) _=_;rw[show bd (xO e) (Lib.itoa e.number++[32]++e.kind++Lib.joinTail [32] (e.names.getD []),0)=_ from l2,qe]
end Go.Z
namespace Go.Z
open Go Go.Abs Go.W
theorem jc0 {v:Int}(h0:0<=v)(Y:v<1000000000):f43 v=Ga (Lib.itoa v):=by
 rw[Lr h0];have hu:(v.toNat:Int)=v:=I0 h0;have:=Lp (u:=v.toNat) (by omega);rw[hu]at this;exact this
theorem jcz {O:ak Int}{L:List Int}(hL:O.getD []=L)(hl:L.length<=1000000)(hv:∀v∈L,0<=v/\v<1000000000):∀(k i:Nat) (o:ak aj) (fl:Bool),i+k=L.length->(o.getD []).length<=i->(fl=Ig\/o=Ip) ->
  ∃o' nE,bd (Ar O) (o,(i:Int),fl)=Ga (o',nE,(L.length:Int))/\o'.getD []=o.getD []++(L.drop i).map Lib.itoa
 |0,i,o,fl,hi,eu,hf=>by
  obtain rfl:i=L.length:=by omega
  rw[H2 (Hq _)];refine⟨o,fl,ju ?_,by simp⟩;unfold Ar;rw[hL];simp only[If,decide_false,cond_false]
 |k+1,i,o,fl,hi,eu,hf=>by
  have aW:i<L.length:=by omega
  have I:((i:Int)<(L.length:Int)):=by omega
  have M:ql L (i:Int)=Ga L[i]:=by rw[oO,Gb aW]
  have hb:=hv L[i] (I6 aW);have hw:qd .i64 ((i:Int)+1)=((i+1:Nat):Int):=za (by omega);have ik:=x4 (x:=Lib.itoa L[i]) (o:=o) (by omega);obtain⟨o',nE,h3,h4⟩:=jcz hL hl hv k (i+1) (Ga (o.getD []++[Lib.itoa L[i]])) Ig (by omega) (by simp;omega) (.inl rfl);refine⟨o',nE,?_,?_⟩
  .rw[z9 (s':=(Ga (o.getD []++[Lib.itoa L[i]]),((i+1:Nat):Int),Ig)),h3];unfold Ar;rw[hL];simp only[I,decide_true,cond_true,M,qe,jc0 hb.1 hb.2,ik,hw];rcases hf with rfl|rfl
   .rfl
   .cases fl<;>rfl
  .rw[h4,qB aW,I7,Hc,List.append_assoc];rfl
theorem jvu {O:ak Int}(hl:(O.getD []).length<=1000000)(hv:∀v∈O.getD [],0<=v/\v<1000000000):∃o fl,f210 O=Ga (o,fl)/\o.getD []=(O.getD []).map Lib.itoa:=by
 obtain⟨o,fl,Y,I⟩:=jcz (O:=O) rfl hl hv _ 0 Ip Ik (Iy _) (Hq _) (.inr rfl);refine⟨o,fl,?_,by simpa using I⟩;unfold f210;rw[show bd (Ar O) (Ip,0,Ik)=_ from Y,qe]
theorem q8q {α:Type}{a ys:List α}(h:a.length+ys.length<=1073741824)(ha:a≠[]):bB (Ga a) ys=Ga (Ga (a++ys)):=by
 unfold bB;rw[if_pos (by simpa using h)]
 cases ys with
 |nil=>simp[zT]|cons y t=>simp[zT]
theorem jaa {s:aj}{ss:List aj}{p:aj}(Y:(s::ss).length<=100000)(I:(Lib.join (s::ss) p).length<=100000000):f47 (Ga (s::ss)) p=Ga (Lib.join (s::ss) p):=by
 have il:(p.intercalate (s::ss)).length<=100000000:=I;simp only[f47];rw[Js Y,Js il,Bool.and_self,cond_true];rfl
theorem jsd {e:aC}(hn:0<=e.number/\e.number<1000000000)(hv:∀v∈e.values.getD [],0<=v/\v<1000000000)(Y:(e.names.getD []).length<=10000)(I:(e.values.getD []).length<=10000)(hb:(jA e.er).length<=100000000):f135 e=Ga (jA e.er):=by
 obtain⟨o,fl,h3,h4⟩:=jvu (O:=e.values) (by omega) hv;unfold f135;rw[jc0 hn.1 hn.2,qe,q8q (by simp only[Hb,Jr];omega) (by simp),qe,h3,qe];show qa (bB _ (o.getD [])) _=_;rw[h4,q8q (by simp only[Ha,Hb,Jr,Ja];omega) (by simp),qe];have he:jA e.er=Lib.join (Lib.itoa e.number::e.kind::(e.names.getD []++(e.values.getD []).map Lib.itoa)) [32]:=rfl;rw[he]at hb ⊢;have:=jaa (s:=Lib.itoa e.number) (ss:=e.kind::(e.names.getD []++(e.values.getD []).map Lib.itoa)) (p:=[32]) (by simp only[Ha,Hb,Ja];omega) hb;show qa (f47 (Ga ([Lib.itoa e.number,e.kind]++e.names.getD []++(e.values.getD []).map Lib.itoa)) [32]) _=_;rw[show [Lib.itoa e.number,e.kind]++e.names.getD []++(e.values.getD []).map Lib.itoa=Lib.itoa e.number::e.kind::(e.names.getD []++(e.values.getD []).map Lib.itoa) by simp,this,qe]
theorem j0k {e:aC}(hn:0<=e.number/\e.number<1000000000)(hv:∀v∈e.values.getD [],0<=v/\v<1000000000)(Y:(e.names.getD []).length<=10000)(I:(e.values.getD []).length<=10000)(hb:(jA e.er).length<=100000000):f49 e=Ga (jZ e.er++[10]):=by
 have h7:(rE (fZ (jA e.er))).length=7:=qs2 (CV _).1 (by have:=(CV (jA e.er)).2;omega);unfold f49;rw[jsd hn hv Y I hb,qe,oo (by simp only[En];omega),qe,jc5 (by omega),qe,oo (by simp only[Ha,En];omega),qe,oo (by simp only[Ha,En];omega),qe];unfold jZ;simp
end Go.Z
namespace Go.Z
open Go Go.Abs Go.W
structure QK (e:aC):Prop where
 num:0<=e.number/\e.number<1000000000
 vals:∀v∈e.values.getD [],0<=v/\v<1000000000
 l1:(e.names.getD []).length<=10000
 l2:(e.values.getD []).length<=10000
 lb:(jA e.er).length<=1000000
theorem jjq {O:ak aC}{L:List aC}(hL:O.getD []=L)(hl:L.length<=1000000)(hg:∀e∈L,QK e):∀(k i:Nat) (s:aj),i+k=L.length->s.length+(gX ((L.drop i).map aC.er)).length<=1000000000->bd (Am O) (s,(i:Int))=Ga (s++gX ((L.drop i).map aC.er),(L.length:Int))
 |0,i,s,hi,h=>by
  obtain rfl:i=L.length:=by omega
  rw[H2 (Hq _)];refine ju ?_;unfold Am;rw[hL];simp only[If,decide_false,cond_false];simp[gX]
 |k+1,i,s,hi,h=>by
  have aW:i<L.length:=by omega
  have I:((i:Int)<(L.length:Int)):=by omega
  have M:ql L (i:Int)=Ga L[i]:=by rw[oO,Gb aW]
  have g:=hg L[i] (I6 aW);have hlb:=g.lb;have h7:(rE (fZ (jA L[i].er))).length=7:=qs2 (CV _).1 (by have:=(CV (jA L[i].er)).2;omega);have Q:jZ L[i].er=jA L[i].er++35::rE (fZ (jA L[i].er)):=rfl;rw[qB aW,I7,gX]at h ⊢;rw[Q]at h ⊢;simp only[Ha,Hb]at h;rw[z9 (s':=(s++jA L[i].er++[35]++rE (fZ (jA L[i].er))++[10],((i+1:Nat):Int))),jjq hL hl hg k (i+1) _ (by omega) (by simp only[Ha,En];omega)]
  .simp
  .unfold Am;rw[hL];simp only[I,decide_true,cond_true,M,qe]
   rw[jwy g.num g.vals (by have:=g.l1;omega) (by have:=g.l2;omega) (by omega),qe,oo (by omega),qe,oo (by simp only[Ha,En];omega),qe,jk2 (by omega),qe,
    oo (by simp only[Ha,En];omega),qe,oo (by simp only[Ha,En];omega),qe,zy (by omega) (by omega)];rfl
theorem j2c {O:ak aC}(hl:(O.getD []).length<=1000000)(hg:∀e∈O.getD [],QK e)(hb:(gX ((O.getD []).map aC.er)).length<=1000000000):f14 O=Ga (gX ((O.getD []).map aC.er)):=by
 have h:=jjq (O:=O) rfl hl hg _ 0 [] (Iy _) (by simpa using hb);unfold f14;rw[show bd (Am O) ([],0)=_ from h,qe];simp
end Go.Z
namespace Go.Z
open Go Go.Abs Go.W
theorem jss (w:aj)(g:Bool):f122 w g=Ga (match iI w with|none=>(0,Ik)|some v=>(v,g)):=by
 unfold f122;rw[Z6,qe];cases iI w<;>cases g<;>rfl
theorem jco {O:ak aj}{L:List aj}(hL:O.getD []=L)(hl:L.length<=1000000):∀(k i:Nat) (o:ak Int) (g fl:Bool),i+k=L.length->(o.getD []).length<=i->(fl=Ig\/o=Ip) ->
  ∃o' nE,bd (As O) (o,(i:Int),g,fl)=Ga (o',nE,(L.length:Int),g&&(kA (L.drop i)).isSome)/\∀l,kA (L.drop i)=Ga l->o'.getD []=o.getD []++l
 |0,i,o,g,fl,hi,eu,hf=>by
  obtain rfl:i=L.length:=by omega
  rw[H2 (Hq _)];refine⟨o,fl,ju ?_,fun l hl=>by cases hl;simp⟩;unfold As;rw[hL];simp only[If,decide_false,cond_false];simp[kA]
 |k+1,i,o,g,fl,hi,eu,hf=>by
  have aW:i<L.length:=by omega
  have I:((i:Int)<(L.length:Int)):=by omega
  have M:ql L (i:Int)=Ga L[i]:=by rw[oO,Gb aW]
  have hw:qd .i64 ((i:Int)+1)=((i+1:Nat):Int):=za (by omega)
  obtain⟨v,g',hv,hg⟩:∃v g',f122 L[i] g=Ga (v,g')/\(g'=(g&&(iI L[i]).isSome)/\∀x,iI L[i]=Ga x->v=x):=by
   rw[jss];cases iI L[i]with
   |none=>exact⟨0,Ik,rfl,by simp,fun x M=>by cases M⟩|some x=>exact⟨x,g,rfl,by simp,fun y hy=>by cases hy;rfl⟩
  have ik:=x4 (x:=v) (o:=o) (by omega);obtain⟨o',nE,h3,h4⟩:=jco hL hl k (i+1) (Ga (o.getD []++[v])) g' Ig (by omega) (by simp;omega) (.inl rfl);refine⟨o',nE,?_,?_⟩
  .rw[z9 (s':=(Ga (o.getD []++[v]),((i+1:Nat):Int),g',Ig)),h3]
   .rw[qB aW,hg.1];simp only[kA];cases iI L[i]with
    |none=>simp|some x=>cases kA (L.drop (i+1))<;>simp
   .unfold As;rw[hL];simp only[I,decide_true,cond_true,M,qe,hv,ik,hw];rcases hf with rfl|rfl
    .rfl
    .cases fl<;>rfl
  .intro l hn;rw[qB aW]at hn;simp only[kA]at hn;cases M:iI L[i]with
   |none=>rw[M]at hn;cases hn
   |some x=>
    rw[M]at hn
    cases Q:kA (L.drop (i+1))with
    |none=>rw[Q]at hn;cases hn
    |some t=>
     rw[Q]at hn;cases hn;rw[h4 t Q,hg.2 x M];simp
theorem js2 {O:ak aj}(hl:(O.getD []).length<=1000000):∃o fl,f121 O Ig=Ga (o,fl,(kA (O.getD [])).isSome)/\∀l,kA (O.getD [])=Ga l->o.getD []=l:=by
 obtain⟨o,fl,Y,I⟩:=jco (O:=O) rfl hl _ 0 Ip Ig Ik (Iy _) (Hq _) (.inr rfl);refine⟨o,fl,?_,fun l h=>by simpa using I l h⟩;unfold f121;rw[show bd (As O) (Ip,0,Ig,Ik)=_ from Y,qe];simp
end Go.Z
namespace Go.Z
open Go Go.Abs Go.W
theorem jb8:∀ x∈cC,x.2.1<=10/\x.2.2<=10:=by decide
theorem Hp {k f}(h:z7 k=Ga f):f.1<=10/\f.2<=10:=jb8 _ (qru h)
theorem jr9 {a:ak aj}(h:(a.getD []).length<=1000000):∃o fl,f120 a=Ga (o,fl)/\o.getD []=a.getD []:=by
 unfold f120
 cases a with
 |none=>exact⟨Ip,Ik,rfl,rfl⟩
 |some l=>
  have:bB (Ga []) l=Ga (Ga l):=xw (by simp only[Hc]at h;unfold SM;omega);refine⟨Ga l,Ig,?_,rfl⟩;simp only[Option.isNone_some,cond_false,Hc];rw[this,qe]
theorem jk6 {O:ak aj}{n:Int}{k:aj}{r:List aj}(h:O=Ga (k::r))(hl:r.length<=100000):∃e b,f40 O n=Ga (e,b)/\(match nF (k::r) n with|none=>b=Ik|some x=>b=Ig/\e.er=x):=by
 subst h;have M:ql ((Ga (k::r)).getD []) 0=Ga k:=rfl;unfold f40;rw[M,qe];rcases Pt k with⟨Y,I⟩|⟨f,Y,I,h3⟩
 .have hi:lY k=Ik:=by unfold lY;rw[Y];rfl
  rw[hi,cond_false];exact⟨_,_,rfl,by simp only[nF,I]⟩
 .have hi:lY k=Ig:=by unfold lY;rw[Y];rfl
  have Q:j9 k=f.2.1:=by unfold j9;rw[Y]
  have hv:mN k=f.2.2.1:=by unfold mN;rw[Y]
  have G:=Hp I;have hk:k≠[]:=(jjg _ (qru I)).1;simp only[]at G;rw[hi,cond_true,Q,hv,zy (x:=1+(f.2.1.length:Int)) (by omega) (by omega),zy (x:=1+(f.2.1.length:Int)+f.2.2.1) (by omega) (by omega)];simp only[Hc,Hb];by_cases hc:r.length=f.2.1.length+f.2.2.1.toNat
  .rw[decide_eq_true (show((r.length+1:Nat):Int)=1+(f.2.1.length:Int)+f.2.2.1 by omega),cond_true,XG (by simp only[Hc,Hb];unfold SM;omega),qe]
   have he:((Ga (k::r)).getD []).any (fun x=>decide (([]:aj)=x))=decide ([]∈r):=by
    simp only[Hc,List.any_cons,decide_eq_false (show ¬([]:aj)=k from fun e=>hk e.symm),Bool.false_or];by_cases hm:([]:aj)∈r
    .rw[decide_eq_true hm,List.any_eq_true];exact⟨[],hm,by simp⟩
    .rw[decide_eq_false hm,List.any_eq_false];intro x M;simp only[decide_eq_true_eq];rintro rfl;exact hm M
   rw[he];by_cases hm:([]:aj)∈r
   .rw[decide_eq_true hm,cond_true];refine⟨_,_,rfl,?_⟩;simp only[nF,I,hc,hm,not_true,and_false,if_false]
   .rw[decide_eq_false hm,cond_false]
    have hA:n8 (Ga (k::r)) (Ga 1) (Ga (1+(f.2.1.length:Int)))=Ga (Ga (r.take f.2.1.length)):=by
     simp only[n8,Hc,fY,lz];rw[if_pos ⟨by omega,by simp only[Hb];omega⟩];simp only[];rw[if_pos ⟨by omega,by omega⟩];rw[show(1+(f.2.1.length:Int)).toNat=f.2.1.length+1 by omega];rfl
    have hB:n8 (Ga (k::r)) (Ga (1+(f.2.1.length:Int))) Ip=Ga (Ga (r.drop f.2.1.length)):=by
     simp only[n8,Hc,fY,lz];rw[if_pos ⟨by omega,by simp only[Hb];omega⟩];rw[show(1+(f.2.1.length:Int)).toNat=f.2.1.length+1 by omega,Jj];rfl
    obtain⟨o1,b1,g1,g2⟩:=jr9 (a:=Ga (r.take f.2.1.length)) (by simp only[Hc,I9];omega);obtain⟨o2,b2,g3,g4⟩:=js2 (O:=Ga (r.drop f.2.1.length)) (by simp only[Hc,Ii];omega);rw[hA,qe,g1,qe,hB,qe,g3,qe];simp only[Hc]at g2 g4;simp only[Hc,nF,I,hc,hm,not_false_eq_true,and_true,if_true]
    cases hn:kA (r.drop f.2.1.length)with
    |none=>cases b2<;>exact⟨_,_,rfl,rfl⟩
    |some vs=>
     have:=g4 vs hn;cases b2<;>exact⟨_,_,rfl,rfl,by simp only[aC.er,g2,this]⟩
  .rw[decide_eq_false (show ¬((r.length+1:Nat):Int)=1+(f.2.1.length:Int)+f.2.2.1 by omega),cond_false];refine⟨_,_,rfl,?_⟩;simp only[nF,I,hc,false_and,if_false]
end Go.Z
namespace Go.Z
open Go Go.Abs Go.W
theorem jh5 {s:aj}{c:UInt8}(h:s.length<=1000000000):f19 s [c]=Ga (Ga (ej c s)):=by
 simp only[f19];rw[Nat.blt_eq.mpr (show s.length<4294967281 by omega),cond_true]
theorem js1 {s:aj}(G:s.length<=90000):∃e b,f140 s=Ga (e,b)/\(match uh s with|none=>b=Ik|some x=>b=Ig/\e.er=x):=by
 unfold f140;rcases KI 32 s with h|⟨a,b,rfl,h⟩
 .rw[jkt h,qe,Z6,qe];refine⟨_,_,rfl,?_⟩;simp only[uh,sE h]
  cases iI s with
  |none=>exact trivial|some n=>exact trivial
 .have hb:b.length<=90000:=by simp only[Ha,Hb]at G;omega
  rw[jh9 h (by omega),qe,Z6,qe];simp only[uh,wm h,cond_true]
  cases hn:iI a with
  |none=>exact⟨_,_,rfl,rfl⟩
  |some n=>
   simp only[cond_true];rw[jh5 (by omega),qe]
   cases nU:ej 32 b with
   |nil=>exact absurd nU (Ag 32 b)
   |cons k r=>
    have Q:r.length<=100000:=by have:=XS 32 b;rw[nU]at this;simp only[Hb]at this;omega
    obtain⟨e,t,Y,I⟩:=jk6 (n:=n) (rfl:Ga (k::r)=Ga (k::r)) Q;rw[Y,qe]
    cases hw:nF (k::r) n with
    |none=>
     rw[hw]at I;simp only[]at I ⊢;rw[I];exact⟨_,_,rfl,rfl⟩
    |some x=>
     rw[hw]at I;simp only[]at I ⊢;obtain⟨f,g1,g2,g3⟩:=(QL hw).2.2.2.1;have hf:=Hp g1
     have e1:e.names.getD []=x.names:=by rw[<-I.2];rfl
     have e2:e.values.getD []=x.values:=by rw[<-I.2];rfl
     rw[I.1,cond_true,Pu (by rw[e1];unfold SM;omega) (by rw[e2];unfold SM;omega),qe,I.2];refine⟨_,_,rfl,?_⟩;by_cases hc:jj x=0
     .simp only[hc,if_true,decide_true,true_and];exact I.2
     .simp only[hc,if_false,decide_false]
theorem j1t {s:aj}{n:Nat}(G:s.length<=90000)(hn:n<=1000000):∃e k,f53 s (n:Int)=Ga (e,k)/\(match qC s n with | .error c=>k=c | .ok x=>k=0/\e.er=x):=by
 unfold f53 qC;rw[zy (x:=(s.length:Int)-8) (by omega) (by omega)];by_cases h8:s.length<8
 .rw[decide_eq_true (show(s.length:Int)-8<0 by omega),cond_true,if_pos h8];exact⟨_,_,rfl,rfl⟩
 .rw[decide_eq_false (show ¬(s.length:Int)-8<0 by omega),cond_false,if_neg h8]
  have aW:s.length-8<s.length:=by omega
  have ht:(s.take (s.length-8)).length<=90000:=by rw[I9];omega
  rw[show(s.length:Int)-8=((s.length-8:Nat):Int) by omega,CU aW,qe,zy (x:=((s.length-8:Nat):Int)+1) (by omega) (by omega),show((s.length-8:Nat):Int)+1=((s.length-7:Nat):Int) by omega,CX (by omega),Gb aW];by_cases gW:s[s.length-8]=35
  .have pe:((s[s.length-8].toNat:Int)=35):=by rw[gW];rfl
   rw[decide_eq_true pe,cond_true,qe,jsb,qe]
   cases hd:(s.drop (s.length-7)).all iJ with
   |false=>
    rw[if_pos (.inr rfl)];exact⟨_,_,rfl,rfl⟩
   |true=>
    rw[if_neg (by simp[gW])];simp only[Ji,cond_false];rw[Z8 (by omega),qe,jc5 (by omega),qe];by_cases h7:s.drop (s.length-7)=rE (fZ (s.take (s.length-8)))
    .rw[decide_eq_true h7,cond_true,if_neg (fun h=>h h7)];obtain⟨e,t,Y,I⟩:=js1 ht;rw[Y,qe,ym,qe,ym,qe,jvw,qe,zy (by omega) (by omega)]
     cases hp:uh (s.take (s.length-8))with
     |none=>
      rw[hp]at I;simp only[]at I;rw[I];exact⟨_,_,rfl,rfl⟩
     |some x=>
      rw[hp]at I;simp only[]at I ⊢
      have M:e.number=x.number:=by rw[<-I.2];rfl
      rw[I.1];by_cases hq:x.number=(n:Int)+1
      .have e1:(!decide (e.number=(n:Int)+1))=Ik:=by rw[M,hq];simp
       rw[show(if x.number≠(n:Int)+1 then(Except.error 11:Except Int cQ)else .ok x)=.ok x from if_neg (fun h=>h hq)];simp only[e1];exact⟨_,_,rfl,rfl,I.2⟩
      .have e1:(!decide (e.number=(n:Int)+1))=Ig:=by rw[M];simp[hq]
       rw[show(if x.number≠(n:Int)+1 then(Except.error 11:Except Int cQ)else .ok x)=.error 11 from if_pos hq];simp only[e1];exact⟨_,_,rfl,rfl⟩
    .rw[decide_eq_false h7,cond_false,if_pos h7];exact⟨_,_,rfl,rfl⟩
  .have pe:¬((s[s.length-8].toNat:Int)=35):=fun e=>gW (Iu.1 (by have:(35:UInt8).toNat=35:=rfl;omega));rw[decide_eq_false pe,cond_false,if_pos (.inl (fun e=>gW (Ga.inj e)))];exact⟨_,_,rfl,rfl⟩
end Go.Z
namespace Go.Z
open Go Go.Abs Go.W
def jrm:((ak aC)×Bool×Int×Int)⊕((ak aC)×Bool×Int)->(ak aC)×Int×Int
 | .inl d=>(d.1,d.2.2.1,d.2.2.2)| .inr d=>(d.1,d.2.2,0)
def Ls (t:(ak aC)×Int×Int)(w:List cQ×Nat×Int):Prop:=(t.1.getD []).map aC.er=w.1/\t.2.1=(w.2.1:Int)/\t.2.2=w.2.2
theorem j2x {s:aj}(G:s.length<=90000):∀(k a:Nat) (o:ak aC) (fl:Bool),s.length<=a+k->a<=s.length->(o.getD []).length<=a->(fl=Ig\/o=Ip) ->
  ∃d,bd (ug s) (o,(a:Int),fl)=Ga d/\Ls (jrm d) (nG (ej 10 (s.drop a)) a ((o.getD []).map aC.er)):=by
 intro k
 induction k with
 |zero=>
  intro a o fl Y I h3 hf
  obtain rfl:a=s.length:=by omega
  refine⟨.inr (o,fl,(s.length:Int)),ju ?_,?_⟩
  .unfold ug;simp only[If,decide_false,cond_false]
  .rw[H2 (Hq _),sE (by simp)];exact⟨rfl,rfl,rfl⟩
 |succ k ih=>
  intro a o fl Y I h3 hf;by_cases ha:a=s.length
  .subst ha;refine⟨.inr (o,fl,(s.length:Int)),ju ?_,?_⟩
   .unfold ug;simp only[If,decide_false,cond_false]
   .rw[H2 (Hq _),sE (by simp)];exact⟨rfl,rfl,rfl⟩
  .have aW:(a:Int)<(s.length:Int):=by omega
   have bN:s.drop a≠[]:=by
    intro e;have:=congrArg Ju e;rw[Ii,Jr]at this;omega
   have hld:(s.drop a).length<=90000:=by rw[Ii];omega
   rcases KI 10 (s.drop a)with h|⟨x,y,he,M⟩
   .refine⟨.inl (o,fl,(a:Int),29),ju ?_,?_⟩
    .unfold ug;simp only[aW,decide_true,cond_true,CX I,qe,jkt h,cond_false]
    .rw[sE h];refine⟨rfl,rfl,?_⟩
     show(29:Int)=if s.drop a=[]then 0 else 29
     rw[if_neg bN]
   .have hlen:x.length+y.length+1<=90000:=by rw[he]at hld;simp only[Ha,Hb]at hld;omega
    have pI:a+(x.length+y.length+1)=s.length:=by
     have:=congrArg Ju he;simp only[Ii,Ha,Hb]at this;omega
    have Lt:f52 (s.drop a) [10]=Ga (x,y,Ig):=by rw[he];exact jh9 M (by simp only[Ha,Hb];omega)
    obtain⟨e,c,g1,g2⟩:=j1t (s:=x) (n:=(o.getD []).length) (by omega) (by omega)
    have hy:y=s.drop (a+x.length+1):=by
     have:(s.drop a).drop (x.length+1)=y:=by rw[he,show x++10::y=(x++[10])++y by simp,Jn (by simp)]
     rw[<-this,L2];congr 1
    rw[he,wm M,qx2 (Ag 10 y),Ja]
    cases hL:qC x (o.getD []).length with
    |error q=>
     rw[hL]at g2;simp only[]at g2;have hq:=qxr hL;refine⟨.inl (o,fl,(a:Int),c),ju ?_,rfl,rfl,g2⟩;unfold ug
     have hc:¬c=0:=by rw[g2];exact hq
     simp only[aW,decide_true,cond_true,CX I,qe,Lt,g1,hc,decide_false,cond_false]
    |ok v=>
     rw[hL]at g2;simp only[]at g2;have ik:=x4 (x:=e) (o:=o) (by omega);obtain⟨d,d1,d2⟩:=ih (a+x.length+1) (Ga (o.getD []++[e])) Ig (by omega) (by omega) (by simp;omega) (.inl rfl);refine⟨d,?_,?_⟩
     .rw[z9 (s':=(Ga (o.getD []++[e]),((a+x.length+1:Nat):Int),Ig)),d1];unfold ug
      have hw:qd .i64 ((a:Int)+(qd .i64 ((x.length:Int)+1)))=((a+x.length+1:Nat):Int):=by
       rw[zy (x:=(x.length:Int)+1) (by omega) (by omega),zy (by omega) (by omega)];omega
      simp only[aW,decide_true,cond_true,CX I,qe,Lt,g1,g2.1,ik,hw];rcases hf with rfl|rfl
      .rfl
      .cases fl<;>rfl
     .rw[<-hy]at d2;simp only[Hc,Ld,I7,N4,g2.2]at d2;exact d2
theorem j2a {s:aj}(G:s.length<=90000):∃t,f17 s=Ga t/\Ls t (ui s):=by
 obtain⟨d,d1,d2⟩:=j2x G s.length 0 Ip Ik (by omega) (by omega) (Hq _) (.inr rfl);refine⟨jrm d,?_,d2⟩;unfold f17;rw[decide_eq_false (show ¬(1000000:Int)<(s.length:Int) by omega),cond_false,show bd (ug s) (Ip,0,Ik)=_ from d1,qe];rcases d with d|d<;>rfl
end Go.Z
namespace Go.Z
open Go Go.Abs Go.W
theorem jj7 {a b:ak Int}{L:List Int}(ha:a.getD []=L)(hb:b.getD []=L)(hl:L.length<=1000000):∀(k i:Nat),i+k=L.length->bd (Ao a b) (i:Int)=Ga (.inr (L.length:Int))
 |0,i,hi=>by
  obtain rfl:i=L.length:=by omega
  refine ju ?_;unfold Ao;rw[ha];simp only[If,decide_false,cond_false]
 |k+1,i,hi=>by
  have aW:i<L.length:=by omega
  have I:((i:Int)<(L.length:Int)):=by omega
  have M:ql L (i:Int)=Ga L[i]:=by rw[oO,Gb aW]
  have hw:qd .i64 ((i:Int)+1)=((i+1:Nat):Int):=za (by omega);rw[z9 (s':=((i+1:Nat):Int)),jj7 ha hb hl k (i+1) (by omega)];unfold Ao;rw[ha,hb];simp only[I,decide_true,cond_true,M,qe,hw]
theorem jp8 {a b:ak Int}(h:a.getD []=b.getD [])(hl:(a.getD []).length<=1000000):f44 a b=Ga Ig:=by
 unfold f44;rw[decide_eq_true (by rw[h]),cond_true,show bd (Ao a b) 0=_ from jj7 (a:=a) (b:=b) rfl h.symm hl _ 0 (Iy _),qe]
theorem jh8 {a b:ak aC}{L aai:List aC}(ha:a.getD []=L)(hb:b.getD []=aai)(he:L.map aC.er=aai.map aC.er)(hl:L.length<=1000000)(G:∀e∈L,(e.names.getD []).length<=1000000/\(e.values.getD []).length<=1000000):∀(k i:Nat),i+k=L.length->bd (Ap a b) (i:Int)=Ga (.inr (L.length:Int))
 |0,i,hi=>by
  obtain rfl:i=L.length:=by omega
  refine ju ?_;unfold Ap;rw[ha];simp only[If,decide_false,cond_false]
 |k+1,i,hi=>by
  have aW:i<L.length:=by omega
  have hlm:L.length=aai.length:=by have:=congrArg Ju he;simpa using this
  have Lu:i<aai.length:=by omega
  have I:((i:Int)<(L.length:Int)):=by omega
  have M:ql L (i:Int)=Ga L[i]:=by rw[oO,Gb aW]
  have hy:ql aai (i:Int)=Ga aai[i]:=by rw[oO,Gb Lu]
  have hw:qd .i64 ((i:Int)+1)=((i+1:Nat):Int):=za (by omega)
  have hq:L[i].er=aai[i].er:=by
   have:=congrArg (fun l=>l[i]?) he;simp only[List.getElem?_map,Gb aW,Gb Lu,Lg]at this;exact Ga.inj this
  have q1:L[i].number=aai[i].number:=congrArg cQ.number hq;have q2:L[i].kind=aai[i].kind:=congrArg cQ.kind hq;have q3:L[i].names.getD []=aai[i].names.getD []:=congrArg cQ.names hq;have q4:L[i].values.getD []=aai[i].values.getD []:=congrArg cQ.values hq;have q5:L[i].text=aai[i].text:=congrArg cQ.text hq;have QM:=G L[i] (I6 aW);have e1:=jne q3 (by have:=QM.1;unfold SM;omega);have e2:=jp8 q4 QM.2;rw[z9 (s':=((i+1:Nat):Int)),jh8 ha hb he hl G k (i+1) (by omega)];unfold Ap;rw[ha,hb];simp only[I,decide_true,cond_true,M,hy,qe,hw,e1,e2,decide_eq_true q1,decide_eq_true q2,decide_eq_true q5]
theorem joc {a b:ak aC}(he:(a.getD []).map aC.er=(b.getD []).map aC.er)(hl:(a.getD []).length<=1000000)(G:∀e∈a.getD [],(e.names.getD []).length<=1000000/\(e.values.getD []).length<=1000000):f11 a b=Ga Ig:=by
 have hlm:(a.getD []).length=(b.getD []).length:=by have:=congrArg Ju he;simpa using this
 unfold f11;rw[decide_eq_true (by rw[hlm]),cond_true,show bd (Ap a b) 0=_ from jh8 (a:=a) (b:=b) rfl rfl he hl G _ 0 (Iy _),qe]
end Go.Z
namespace Go.Z
open Go Go.Abs Go.W
def x5 (a:Nat):Nat->List aj->Option (List aj×List Int)
 |_,[]=>Ga ([],[])
 |j,w::ws=>if w=[]then Ip else if j<a then(match x5 a (j+1) ws with
  |none=>Ip
  |some p=>Ga (w::p.1,p.2))else match iI w with
  |none=>Ip
  |some v=>match x5 a (j+1) ws with
   |none=>Ip|some p=>Ga (p.1,v::p.2)
theorem q9g {a:Nat}:∀(ws:List aj) (j:Nat),x5 a j ws=if []∈ws then Ip else match kA (ws.drop (a-j))with
  |none=>Ip|some vs=>Ga (ws.take (a-j),vs)
 | [],j=>by simp[x5,kA]
 |w::ws,j=>by
  rw[x5,q9g ws (j+1)];by_cases hw:w=[]
  .simp[hw]
  .have hm:(([]:aj)∈w::ws)=([]∈ws):=by simp[List.mem_cons,Ne.symm hw]
   rw[if_neg hw];simp only[hm];by_cases he:[]∈ws
   .simp only[he,if_true];cases iI w<;>simp
   .simp only[he,if_false];by_cases hj:j<a
    .rw[if_pos hj,show a-j=(a-(j+1))+1 by omega,List.drop_succ_cons,List.take_succ_cons];cases kA (ws.drop (a-(j+1)))<;>rfl
    .rw[if_neg hj,show a-j=0 by omega,show a-(j+1)=0 by omega];simp only[Ij,Lz,kA]
     cases iI w with
     |none=>rfl|some v=>cases kA ws<;>rfl
theorem j3k {k0 v3:aj}{r:List aj}{a b:Nat}(Q:r.length=a+b)(hl:r.length<=100000):∀(k j:Nat) (on:ak aj) (ov:ak Int) (f1 f2:Bool),j+k=r.length->(on.getD []).length<=j->(ov.getD []).length<=j->(f1=Ig\/on=Ip)->(f2=Ig\/ov=Ip) ->
  ∃d,bd (ua (Ga (k0::r)) v3 ⟨(a:Int),(b:Int),Ig⟩) (((j+1:Nat):Int),on,ov,f1,f2)=Ga d/\(match x5 a j (r.drop j)with
   |none=>∃x,d=.inl x
   |some p=>∃x,d=.inr x/\x.2.1.getD []=on.getD []++p.1/\x.2.2.2.1.getD []=ov.getD []++p.2):=by
 have hN:qd .i64 (qd .i64 (1+(a:Int))+(b:Int))=((r.length+1:Nat):Int):=by
  rw[zy (x:=1+(a:Int)) (by omega) (by omega),zy (by omega) (by omega)];omega
 intro k
 induction k with
 |zero=>
  intro j on ov f1 f2 hi Y I F8 F9
  obtain rfl:j=r.length:=by omega
  refine⟨.inr (((r.length+1:Nat):Int),on,f1,ov,f2),ju ?_,?_⟩
  .unfold ua;simp only[hN,If,decide_false,cond_false]
  .rw[H2 (Hq _)];exact⟨_,rfl,by simp,by simp⟩
 |succ k ih=>
  intro j on ov f1 f2 hi Y I F8 F9
  have aW:j<r.length:=by omega
  have h3:(((j+1:Nat):Int)<((r.length+1:Nat):Int)):=by omega
  have M:ql ((Ga (k0::r)).getD []) ((j+1:Nat):Int)=Ga r[j]:=by
   rw[Hc,oO,List.getElem?_cons_succ,Gb aW]
  have hw:qd .i64 (((j+1:Nat):Int)+1)=((j+1+1:Nat):Int):=za (by omega);rw[qB aW,x5];by_cases he:r[j]=[]
  .refine⟨.inl (on,f1,ov,f2),ju ?_,?_⟩
   .unfold ua;simp only[hN,h3,decide_true,cond_true,M,qe,he]
   .rw[if_pos he];exact⟨_,rfl⟩
  .rw[if_neg he];by_cases hj:j<a
   .have h4:(((j+1:Nat):Int)<=(a:Int)):=by omega
    have ik:=x4 (x:=r[j]) (o:=on) (by omega);obtain⟨d,d1,d2⟩:=ih (j+1) (Ga (on.getD []++[r[j]])) ov Ig f2 (by omega) (by simp;omega) (by omega) (.inl rfl) F9;refine⟨d,?_,?_⟩
    .rw[z9 (s':=(((j+1+1:Nat):Int),Ga (on.getD []++[r[j]]),ov,Ig,f2)),d1];unfold ua;simp only[hN,h3,decide_true,cond_true,M,qe,he,decide_false,cond_false,h4,ik,hw];rcases F8 with rfl|rfl
     .rfl
     .cases f1<;>rfl
    .rw[if_pos hj]
     revert d2
     cases x5 a (j+1) (r.drop (j+1))with
     |none=>exact fun h=>h
     |some p=>
      rintro ⟨x,rfl,e1,e2⟩;exact⟨x,rfl,by rw[e1];simp,e2⟩
   .have h4:¬(((j+1:Nat):Int)<=(a:Int)):=by omega
    rw[if_neg hj];cases hn:iI r[j]with
    |none=>
     refine⟨.inl (on,f1,ov,f2),ju ?_,⟨_,rfl⟩⟩;unfold ua;simp only[hN,h3,decide_true,cond_true,M,qe,he,decide_false,cond_false,h4,QI,hn]
    |some v=>
     have ik:=x4 (x:=v) (o:=ov) (by omega);obtain⟨d,d1,d2⟩:=ih (j+1) on (Ga (ov.getD []++[v])) f1 Ig (by omega) (by omega) (by simp;omega) F8 (.inl rfl);refine⟨d,?_,?_⟩
     .rw[z9 (s':=(((j+1+1:Nat):Int),on,Ga (ov.getD []++[v]),f1,Ig)),d1];unfold ua;simp only[hN,h3,decide_true,cond_true,M,qe,he,decide_false,cond_false,h4,QI,hn,ik,hw];rcases F9 with rfl|rfl
      .rfl
      .cases f2<;>rfl
     .revert d2
      cases x5 a (j+1) (r.drop (j+1))with
      |none=>exact fun h=>h
      |some p=>
       rintro ⟨x,rfl,e1,e2⟩;exact⟨x,rfl,e1,by rw[e2];simp⟩
theorem jhu {s:aj}(G:s.length<=90000):∃e b,f32 s=Ga (e,b)/\(match nF (ej 32 s) 0 with|none=>b=Ik|some x=>b=Ig/\e.er=x):=by
 unfold f32;rw[show f30 s 32=Ga (Ga (ej 32 s))from QJ (c:=32) (by omega),qe]
 cases hb:ej 32 s with
 |nil=>exact absurd hb (Ag 32 s)
 |cons k r=>
  have Q:r.length<=100000:=by have:=XS 32 s;rw[hb]at this;simp only[Hb]at this;omega
  have M:ql ((Ga (k::r)).getD []) 0=Ga k:=rfl;rw[M,qe];rcases Xu k with⟨Y,I⟩|⟨a,b,Y,I⟩
  .rw[Y,qe];refine⟨_,_,rfl,?_⟩;simp only[nF,I]
  .have QM:=Hp I;simp only[]at QM;rw[Y,qe];simp only[cond_true,nF,I]
   have hN:qd .i64 (qd .i64 (1+(a:Int))+(b:Int))=((a+b+1:Nat):Int):=by
    rw[zy (x:=1+(a:Int)) (by omega) (by omega),zy (by omega) (by omega)];omega
   rw[hN];simp only[Hc,Hb];by_cases hc:r.length=a+b
   .rw[decide_eq_true (show((r.length+1:Nat):Int)=((a+b+1:Nat):Int) by omega),cond_true];obtain⟨d,d1,d2⟩:=j3k (k0:=k) (v3:=k) hc Q r.length 0 Ip Ip Ik Ik (by omega) (Hq _) (Hq _) (.inr rfl) (.inr rfl);rw[show bd (ua (Ga (k::r)) k ⟨(a:Int),(b:Int),Ig⟩) (1,Ip,Ip,Ik,Ik)=_ from d1,qe];rw[Ij,q9g,Nat.sub_zero]at d2;by_cases hm:([]:aj)∈r
    .rw[if_pos hm]at d2;obtain⟨x,rfl⟩:=d2;refine⟨_,_,rfl,?_⟩;simp only[hm,not_true,and_false,if_false]
    .rw[if_neg hm]at d2;simp only[hc,hm,not_false_eq_true,and_true,if_true]
     revert d2
     cases kA (r.drop a)with
     |none=>
      rintro ⟨x,rfl⟩;exact⟨_,_,rfl,rfl⟩
     |some vs=>
      rintro ⟨x,rfl,e1,e2⟩;refine⟨_,_,rfl,rfl,?_⟩;simp only[aC.er];rw[e1,e2];simp
   .rw[decide_eq_false (show ¬((r.length+1:Nat):Int)=((a+b+1:Nat):Int) by omega),cond_false];refine⟨_,_,rfl,?_⟩;simp only[hc,false_and,if_false]
theorem q0o (l:List aj)(n:Int):nF l n=(nF l 0).map fun e=>{ e with number:=n }:=by
 unfold nF
 cases l with
 |nil=>rfl
 |cons k r=>
  simp only[]
  cases z7 k with
  |none=>rfl
  |some f=>
   simp only[];split
   .cases kA (r.drop f.1)<;>rfl
   .rfl
end Go.Z
namespace Go.Z
open Go Go.Abs Go.W
def Lw (s:aj):Except Int cQ:=
 if s.length<8 then .error 26 else
 if s[s.length-8]?≠Ga 35\/(s.drop (s.length-7)).all iJ=Ik then .error 26 else
 if s.drop (s.length-7)≠rE (fZ (s.take (s.length-8)))then .error 28 else
 match uh (s.take (s.length-8))with
 |none=>.error 26|some e=>.ok e
theorem jdl (s:aj)(n:Nat):qC s n=match Lw s with
  | .error c=>.error c
  | .ok e=>if e.number≠(n:Int)+1 then .error 11 else .ok e:=by
 unfold qC Lw;split
 .rfl
 split
 .rfl
 split
 .rfl
 cases uh (s.take (s.length-8))<;>rfl
theorem j1x {s:aj}(G:s.length<=90000):∃e k,f26 s=Ga (e,k)/\(match Lw s with | .error c=>k=c | .ok x=>k=0/\e.er=x):=by
 unfold f26 Lw;rw[zy (x:=(s.length:Int)-8) (by omega) (by omega)];by_cases h8:s.length<8
 .rw[decide_eq_true (show(s.length:Int)-8<0 by omega),cond_true,if_pos h8];exact⟨_,_,rfl,rfl⟩
 rw[decide_eq_false (show ¬(s.length:Int)-8<0 by omega),cond_false,if_neg h8]
 have aW:s.length-8<s.length:=by omega
 have ht:(s.take (s.length-8)).length<=90000:=by rw[I9];omega
 rw[show(s.length:Int)-8=((s.length-8:Nat):Int) by omega,CU aW,qe,zy (x:=((s.length-8:Nat):Int)+1) (by omega) (by omega),show((s.length-8:Nat):Int)+1=((s.length-7:Nat):Int) by omega,CX (by omega),Gb aW];by_cases gW:s[s.length-8]=35
 .have pe:((s[s.length-8].toNat:Int)=35):=by rw[gW];rfl
  have h7l:(s.drop (s.length-7)).length=7:=by rw[Ii];omega
  rw[decide_eq_true pe,cond_true,qe,jxw (by omega),qe,decide_eq_true h7l,Bool.and_true]
  cases hd:(s.drop (s.length-7)).all iJ with
  |false=>
   rw[if_pos (.inr rfl)];exact⟨_,_,rfl,rfl⟩
  |true=>
   rw[if_neg (by simp[gW])];rw[cond_true,Z8 (by omega),qe,jk2 (by omega),qe];by_cases h7:s.drop (s.length-7)=rE (fZ (s.take (s.length-8)))
   .rw[decide_eq_true h7,cond_true,if_neg (fun h=>h h7)];generalize s.take (s.length-8)=b at ht;rw[show f30 b 32=Ga (Ga (ej 32 b))from QJ (c:=32) (by omega),qe];rcases KI 32 b with h|⟨w,t,rfl,h⟩
    .rw[sE h,show ql ((Ga [b]).getD []) 0=Ga b from rfl,qe,QI,qe];simp only[uh,sE h]
     cases iI b with
     |none=>exact⟨_,_,rfl,rfl⟩|some n=>exact⟨_,_,rfl,rfl⟩
    .have Us:t.length<=90000:=by simp only[Ha,Hb]at ht;omega
     have QN:w.length+1<=(w++32::t).length:=by simp only[Ha,Hb];omega
     rw[wm h,show ql ((Ga (w::ej 32 t)).getD []) 0=Ga w from rfl,qe,QI,qe];simp only[uh,wm h]
     cases hn:iI w with
     |none=>exact⟨_,_,rfl,rfl⟩
     |some n=>
      have bN:(ej 32 t).length≠0:=fun e=>Ag 32 t (Jm.1 e);simp only[cond_true,Hc,Hb];rw[decide_eq_false (show ¬((((ej 32 t).length+1:Nat):Int)<2) by omega),cond_false,zy (x:=(w.length:Int)+1) (by omega) (by omega),show(w.length:Int)+1=((w.length+1:Nat):Int) by omega,CX QN,qe,show(w++32::t).drop (w.length+1)=t by rw[show w++32::t=(w++[32])++t by simp,Jn (by simp)]];obtain⟨e,c,g1,g2⟩:=jhu Us;rw[g1,qe,q0o]
      cases hw:nF (ej 32 t) 0 with
      |none=>
       rw[hw]at g2;simp only[]at g2;rw[g2];exact⟨_,_,rfl,rfl⟩
      |some x=>
       rw[hw]at g2;simp only[]at g2;obtain⟨f,q1,q2,q3⟩:=(QL hw).2.2.2.1;have hf:=Hp q1
       have e1:e.names.getD []=x.names:=by rw[<-g2.2];rfl
       have e2:e.values.getD []=x.values:=by rw[<-g2.2];rfl
       have e3:(aC.er ⟨n,e.kind,e.names,e.values,e.text⟩)={ x with number:=n }:=by rw[<-g2.2];rfl
       rw[g2.1,cond_true,Xv (e:=⟨n,e.kind,e.names,e.values,e.text⟩) (by show(e.names.getD []).length<=_;rw[e1];unfold SM;omega) (by show(e.values.getD []).length<=_;rw[e2];unfold SM;omega),qe,e3];simp only[Lg];by_cases hc:jj { x with number:=n }=0
       .rw[decide_eq_true hc,cond_true,if_pos hc];exact⟨_,_,rfl,rfl,e3⟩
       .rw[decide_eq_false hc,cond_false,if_neg hc];exact⟨_,_,rfl,rfl⟩
   .rw[decide_eq_false h7,cond_false,if_pos h7];exact⟨_,_,rfl,rfl⟩
 .have pe:¬((s[s.length-8].toNat:Int)=35):=fun e=>gW (Iu.1 (by have:(35:UInt8).toNat=35:=rfl;omega));rw[decide_eq_false pe,cond_false,if_pos (.inl (fun e=>gW (Ga.inj e)))];exact⟨_,_,rfl,rfl⟩
def jfy (s:aj):((ak aC)×Bool×Int×Int)⊕((ak aC)×Bool×Int×Int)->(ak aC)×Int×Int
 | .inl d=>(d.1,d.2.2.1,d.2.2.2)| .inr d=>(d.1,d.2.2.1,if d.2.2.1<(s.length:Int)then 29 else 0)
theorem j06 {s:aj}(G:s.length<=90000):∀(k i st:Nat) (o:ak aC) (fl:Bool),i+k=s.length->st<=i->(10:UInt8) ∉ (s.drop st).take (i-st)->(o.getD []).length<=i->(fl=Ig\/o=Ip) ->
  ∃d,bd (ub s) (o,(st:Int),(i:Int),fl)=Ga d/\Ls (jfy s d) (nG (ej 10 (s.drop st)) st ((o.getD []).map aC.er)):=by
 intro k
 induction k with
 |zero=>
  intro i st o fl Y I h3 h4 hf
  obtain rfl:i=s.length:=by omega
  rw[Jo (by rw[Ii];omega)]at h3;refine⟨.inr (o,fl,(st:Int),(s.length:Int)),ju ?_,?_⟩
  .unfold ub;simp only[If,decide_false,cond_false]
  .rw[sE h3];refine⟨rfl,rfl,?_⟩
   show(if(st:Int)<(s.length:Int)then(29:Int)else 0)=if s.drop st=[]then 0 else 29
   by_cases hc:st<s.length
   .rw[if_pos (by omega),if_neg (fun e=>by have:=Jw.1 e;omega)]
   .rw[if_neg (by omega),if_pos (Jw.2 (by omega))]
 |succ k ih=>
  intro i st o fl Y I h3 h4 hf
  have aW:i<s.length:=by omega
  have gq:(i:Int)<(s.length:Int):=by omega
  have hw:qd .i64 ((i:Int)+1)=((i+1:Nat):Int):=za (by omega);by_cases hc:s[i]=10
  .have hd:((s[i].toNat:Int)=10):=by rw[hc];rfl
   have iR:=jvy (s:=s) I (show i<=s.length by omega)
   have M:(s.take i).drop st=(s.drop st).take (i-st):=by rw[Lm]
   have mW:((s.drop st).take (i-st)).length=i-st:=by rw[I9,Ii];omega
   have lJ:s.drop st=(s.drop st).take (i-st)++10::s.drop (i+1):=by
    conv=>lhs;rw[<-List.take_append_drop (i-st) (s.drop st)]
    congr 1
    rw[L2,show st+(i-st)=i by omega,qB aW,hc]
   obtain⟨e,c,g1,g2⟩:=j1x (s:=(s.drop st).take (i-st)) (by omega);rw[M]at iR
   have hrec:nG (ej 10 (s.drop st)) st ((o.getD []).map aC.er)=match qC ((s.drop st).take (i-st)) (o.getD []).length with
     | .error k=>((o.getD []).map aC.er,st,k)
     | .ok v=>nG (ej 10 (s.drop (i+1))) (i+1) ((o.getD []).map aC.er++[v]):=by
    conv=>lhs;rw[lJ,wm h3,qx2 (Ag 10 _),Ja]
    rw[mW,show st+(i-st)+1=i+1 by omega];cases qC ((s.drop st).take (i-st)) (o.getD []).length<;>rfl
   rw[hrec,jdl]
   cases hL:Lw ((s.drop st).take (i-st))with
   |error q=>
    rw[hL]at g2;simp only[]at g2;have hq:q≠0:=qxr (s:=(s.drop st).take (i-st)) (n:=0) (by rw[jdl,hL]);refine⟨.inl (o,fl,(st:Int),c),ju ?_,rfl,rfl,g2⟩;unfold ub
    have Gd:¬c=0:=by rw[g2];exact hq
    simp only[gq,decide_true,cond_true,CU aW,qe,hd,iR,g1,Gd,decide_false,cond_false]
   |ok v=>
    rw[hL]at g2;simp only[]at g2;dsimp only
    have x6:e.number=v.number:=by rw[<-g2.2];rfl
    have QN:qd .i64 (((o.getD []).length:Int)+1)=((o.getD []).length:Int)+1:=zy (by omega) (by omega);by_cases hq:v.number=((o.getD []).length:Int)+1
    .have ik:=x4 (x:=e) (o:=o) (by omega);obtain⟨d,d1,d2⟩:=ih (i+1) (i+1) (Ga (o.getD []++[e])) Ig (by omega) (Hq _) (by simp) (by simp;omega) (.inl rfl);refine⟨d,?_,?_⟩
     .rw[z9 (s':=(Ga (o.getD []++[e]),((i+1:Nat):Int),((i+1:Nat):Int),Ig)),d1];unfold ub;simp only[gq,decide_true,cond_true,CU aW,qe,hd,iR,g1,g2.1,QN,x6,hq,ik,hw];rcases hf with rfl|rfl
      .rfl
      .cases fl<;>rfl
     .simp only[Hc,Ld,I7,N4,g2.2]at d2;rw[show(if v.number≠((o.getD []).length:Int)+1 then(Except.error 11:Except Int cQ)else .ok v)=.ok v from if_neg (fun h=>h hq)];exact d2
    .refine⟨.inl (o,fl,(st:Int),11),ju ?_,?_⟩
     .unfold ub;simp only[gq,decide_true,cond_true,CU aW,qe,hd,iR,g1,g2.1,QN,x6,hq,decide_false,cond_false]
     .rw[show(if v.number≠((o.getD []).length:Int)+1 then(Except.error 11:Except Int cQ)else .ok v)=.error 11 from if_pos hq];exact⟨rfl,rfl,rfl⟩
  .have hd:¬((s[i].toNat:Int)=10):=fun e=>hc (Iu.1 (by have:(10:UInt8).toNat=10:=rfl;omega))
   have oW:(10:UInt8) ∉ (s.drop st).take (i+1-st):=by
    rw[show i+1-st=(i-st)+1 by omega,I1 (by rw[Ii];omega)];intro hm;rcases List.mem_append.1 hm with hm|hm
    .exact h3 hm
    .have:=List.mem_singleton.1 hm;rw[J1]at this;refine hc (Eq.trans ?_ this.symm)
     congr 1;omega
   obtain⟨d,d1,d2⟩:=ih (i+1) st o fl (by omega) (by omega) oW (by omega) hf;refine⟨d,?_,d2⟩;rw[z9 (s':=(o,(st:Int),((i+1:Nat):Int),fl)),d1];unfold ub;simp only[gq,decide_true,cond_true,CU aW,qe,hd,decide_false,cond_false,hw]
theorem j80 {s:aj}(G:s.length<=90000):∃t,f6 s=Ga t/\Ls t (ui s):=by
 obtain⟨d,d1,d2⟩:=j06 G s.length 0 0 Ip Ik (by omega) (Hq _) (by simp) (Nat.zero_le _) (.inr rfl);refine⟨jfy s d,?_,d2⟩;unfold f6;rw[decide_eq_false (show ¬(1000000:Int)<(s.length:Int) by omega),cond_false,show bd (ub s) (Ip,0,0,Ik)=_ from d1,qe];rcases d with d|d
 .rfl
 .simp only[jfy];by_cases hc:d.2.2.1<(s.length:Int)
  .rw[decide_eq_true hc,cond_true,if_pos hc]
  .rw[decide_eq_false hc,cond_false,if_neg hc]
end Go.Z
end
