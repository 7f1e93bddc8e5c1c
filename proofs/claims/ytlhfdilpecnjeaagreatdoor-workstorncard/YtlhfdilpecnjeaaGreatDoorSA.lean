/- The reference's numbers and sums. -/
import Derived.Test.YtlhfdilpecnjeaaGreatDoorWT
import Derived.Test.YtlhfdilpecnjeaaGreatDoorPS
import Derived.Test.YtlhfdilpecnjeaaGreatDoorEA
set_option linter.unusedVariables false
set_option linter.unusedSimpArgs false
set_option maxRecDepth 100000
open List renaming length_singleton->En,length_append->E6,getElem?_eq_getElem->Hb,drop_zero->Hc,drop_eq_nil_of_le->H3,length_cons->Ib,drop_eq_getElem_cons->Ik,drop_of_length_le->Il,getElem_mem->I3,length_nil->I5,length_map->I6,replicate->I7,all_cons->Ja,map_cons->Jb
open Option renaming some->Ha
open UInt8 renaming ofNat->H2
open Nat renaming le_refl->H4,ble_eq_true_of_le->Io,zero_add->Ix,mod_eq_of_lt->I2,lt_irrefl->I9
open Int renaming tmod_eq_emod_of_nonneg->H8,toNat_of_nonneg->Ic,tdiv_eq_ediv_of_nonneg->Ig,lt_irrefl->Ij,ofNat->Iy,toNat_natCast->I1
open Bool renaming true->H9,not_false->If,false_and->Ip,true_and->Iq,not_true->Iw
namespace Go.Z
open Go Go.Abs Go.W
theorem jcy:∀ (n:Nat) (u:Nat) (s:aj),u<=n->s.length+u<=2000000000->u<1000000000->bq zV ((u:Int),s)=Ha (0,(if u=0 then []else Lib.decDigits u)++s)
 |n,u,s,h,G,hu=>by
  by_cases h0:u=0
  .subst h0;refine zj ?_;unfold zV;rfl
  .cases n with
   |zero=>omega
   |succ n=>
    have ih:=jcy n (u / 10) ([H2 (48+u % 10)]++s) (by omega) (by simp only[E6,En];omega) (by omega)
    have Y:0<(u:Int):=by omega
    have hm:=Nat.mod_lt u (by omega:0<10)
    have Q:jT (u:Int) 10=Ha ((u % 10:Nat):Int):=by
     unfold jT;rw[if_neg (by omega),H8 (by omega)];rfl
    have hq:zI .i64 (u:Int) 10=Ha ((u / 10:Nat):Int):=by
     unfold zI;rw[if_neg (by omega),Ig (by omega),yl (by omega) (by omega)];rfl
    have he:(Utf8.encode (qd .i32 (qd .i64 (48+((u % 10:Nat):Int))))).data.toList=[H2 (48+u % 10)]:=by
     rw[yl (by omega) (by omega),YW (by omega) (by omega),q3o (by omega) (by omega)]
     congr 2
    have hc:gZ [H2 (48+u % 10)] s=Ha ([H2 (48+u % 10)]++s):=by
     unfold gZ;rw[if_pos (by simp only[En];omega)]
    rw[km (s':=(((u / 10:Nat):Int),[H2 (48+u % 10)]++s)),ih]
    .rw[if_neg h0];by_cases hu:u<10
     .rw[if_pos (by omega),tN hu,I2 hu];rfl
     .rw[if_neg (by omega),zZ hu];simp
    .unfold zV;simp only[Y,decide_true,cond_true,Q,qi,he,hc,hq]
theorem j05 {u:Nat}(hu:u<1000000000):f86 (u:Int)=Ha (Lib.decDigits u):=by
 have Y:¬(u:Int)<0:=by omega
 have hm:=Nat.mod_lt u (by omega:0<10)
 have Q:jT (u:Int) 10=Ha ((u % 10:Nat):Int):=by
  unfold jT;rw[if_neg (by omega),H8 (by omega)];rfl
 have hq:zI .i64 (u:Int) 10=Ha ((u / 10:Nat):Int):=by
  unfold zI;rw[if_neg (by omega),Ig (by omega),yl (by omega) (by omega)];rfl
 have he:(Utf8.encode (qd .i32 (qd .i64 (48+((u % 10:Nat):Int))))).data.toList=[H2 (48+u % 10)]:=by
  rw[yl (by omega) (by omega),YW (by omega) (by omega),q3o (by omega) (by omega)]
  congr 2
 have hl:=jcy (u / 10) (u / 10) [H2 (48+u % 10)] (H4 _) (by simp only[En];omega) (by omega);unfold f86;simp only[Y,decide_false,cond_false,Q,qi,hq,he];rw[show bq zV (((u / 10:Nat):Int),[H2 (48+u % 10)])=_ from hl,qi]
 congr 1
 by_cases hu:u<10
 .rw[if_pos (by omega),tN hu,I2 hu];rfl
 .rw[if_neg (by omega),zZ hu]
theorem j2n {u:Nat}(hu:u<1000000000):f34 (u:Int)=Ha (Lib.decDigits u):=by
 unfold f34;rw[j05 hu];rfl
theorem jnf {x:Int}{c:UInt8}(h0:0<=x)(Y:x<9999889):jT (qd .i64 ((qd .i64 (313*x))+(qd .i64 (c.toNat:Int)))) 9999889=Ha (iQ x c):=by
 have hc:c.toNat<256:=c.toNat_lt;rw[yl (x:=313*x) (by omega) (by omega),yl (x:=(c.toNat:Int)) (by omega) (by omega),yl (by omega) (by omega)];unfold jT;rw[if_neg (by omega),H8 (by omega)];rfl
theorem jhk {s:aj}{i:Nat}(h:i<s.length):qm s (i:Int)=Ha s[i]:=q9 (Hb h)
theorem jin (s:aj)(G:s.length<=1073741824):∀(k i:Nat) (x:Int),i+k=s.length->0<=x->x<9999889->bq (PB s) (x,(i:Int))=Ha ((s.drop i).foldl iQ x,(s.length:Int))
 |0,i,x,hi,h0,Y=>by
  obtain rfl:i=s.length:=by omega
  rw[H3 (H4 _)];refine zj ?_;unfold PB;simp only[Ij,decide_false,cond_false,List.foldl_nil]
 |k+1,i,x,hi,h0,Y=>by
  have bg:i<s.length:=by omega
  have hb:0<=iQ x s[i]/\iQ x s[i] < 9999889:=YX [s[i]] x h0 Y;rw[km (s':=(iQ x s[i],((i+1:Nat):Int))),jin s G k (i+1) _ (by omega) hb.1 hb.2,Ik bg,List.foldl_cons];unfold PB
  have I:((i:Int)<(s.length:Int)):=by omega
  simp only[I,decide_true,cond_true,jhk bg,qi,jnf h0 Y];rw[yl (by omega) (by omega)];rfl
theorem juv (s:aj)(G:s.length<=1073741824):∀(k i:Nat) (x:Int),i+k=s.length->0<=x->x<9999889->bq (Cj s) (x,(i:Int))=Ha ((s.drop i).foldl iQ x,(s.length:Int)):=fun k i x hi h0 Y=>(show bq (Cj s) (x,(i:Int))=bq (PB s) (x,(i:Int))from rfl).trans (jin s G k i x hi h0 Y)
theorem KN {u:Nat}(hu:u<1000000000000000000):f43 (u:Int)=Ha (Lib.decDigits u):=by
 show f43 (Iy u)=_;simp only[f43,Nat.blt_eq.mpr hu,cond_true];rw[WN 18 u [] (by omega) (by omega),List.append_nil]
theorem jco (c:UInt8):∀k,Lib.repeatL [c] k=I7 k c
 |0=>rfl
 |k+1=>by
  rw[Lib.repeatL,jco c k,List.replicate_succ];rfl
theorem jbv {s:aj}(G:s.length<=1073741824):f136 s=Ha (lq (gw s)):=by
 have hb:=CI s;unfold f136;rw[show bq (Cj s) (1,0)=_ from juv s G s.length 0 1 (by omega) (by omega) (by omega),qi];have hu:((gw s).toNat:Int)=gw s:=Ic hb.1
 have hd:f43 (gw s)=Ha (Lib.decDigits (gw s).toNat):=by rw[<-hu];exact KN (by omega)
 have hl:=GY 6 (gw s).toNat (by omega);show qa (f43 (gw s)) _=_;rw[hd,qi,yl (by omega) (by omega),show(7:Int)-((Lib.decDigits (gw s).toNat).length:Int)=Iy (7-(Lib.decDigits (gw s).toNat).length) by simp only[Int.ofNat_eq_natCast];omega]
 have Q:f211 ([48]:aj) (Iy (7-(Lib.decDigits (gw s).toNat).length))=Ha (I7 (7-(Lib.decDigits (gw s).toNat).length) 48):=by
  simp only[f211];rw[show(Nat.ble (7-(Lib.decDigits (gw s).toNat).length) 100000&&Nat.ble (([48]:aj).length*(7-(Lib.decDigits (gw s).toNat).length)) 100000)=H9 by simp only[Bool.and_eq_true,Nat.ble_eq,En];omega,cond_true,jco]
 rw[Q,qi];unfold gZ;rw[if_pos (by simp only[List.length_replicate];omega)];rfl
end Go.Z
namespace Go.Z
open Go Go.Abs Go.W
theorem Aa {α:Type}{s:List α}{i:Nat}(hi:i<s.length):s.drop i=s[i]::s.drop (i+1):=(Ik hi)
theorem jb5 {s:aj}(G:s.length<=9):∀(k i:Nat) (n:Int),i+k=s.length->0<=n->n<10^i ->
  ∃j,bq (xi s) (n,i)=Ha (match iR n (s.drop i)with|none=>.inl j|some v=>.inr (v,s.length))
 |0,i,n,hi,h0,Y=>by
  have hi:i=s.length:=by omega
  subst hi;rw[Il (H4 _),iR];exact⟨0,zj (by unfold xi;simp only[I9,decide_false,cond_false])⟩
 |k+1,i,n,hi,h0,Y=>by
  have bg:i<s.length:=by omega
  have hg:s[i]?=Ha s[i]:=Hb bg;have hp:=jta (show i<=9 by omega)
  have h9:¬9<(s.length:Int):=by omega
  rw[Aa bg,iR];by_cases hd:48<=s[i].toNat/\s[i].toNat<=57
  .have e:=Ok hg (by omega);obtain⟨j,hj⟩:=jb5 G k (i+1) (10*n+((s[i].toNat:Int)-48)) (by omega) (by omega) (by rw[Int.pow_succ];omega);refine⟨j,?_⟩;rw[if_pos hd,<-hj];refine km ?_
   have J:¬(s[i].toNat:Int)<48:=by omega
   have a2:¬57<(s[i].toNat:Int):=by omega
   unfold xi;simp only[bg,decide_true,cond_true,e,J,a2,decide_false,cond_false];rw[YW (by omega) (by omega),yl (x:=10*n) (by omega) (by omega),yl (x:=(s[i].toNat:Int)-48) (by omega) (by omega),yl (by omega) (by omega)]
  .rw[if_neg hd];refine⟨i+(qj s i).2,zj ?_⟩;unfold xi;simp only[bg,decide_true,cond_true,decide_false,cond_false];by_cases hl:s[i].toNat<128
   .rw[Ok hg hl];by_cases J:(s[i].toNat:Int)<48
    .simp only[J,decide_true,cond_true]
    .have a2:57<(s[i].toNat:Int):=by omega
     simp only[J,a2,decide_true,cond_true,decide_false,cond_false]
   .have:=VC hg hl
    have J:¬((qj s i).1:Int)<48:=by omega
    have a2:57<((qj s i).1:Int):=by omega
    simp only[J,a2,decide_true,cond_true,decide_false,cond_false]
theorem YY (s:aj):f123 s=Ha (match lu s with|none=>(0,false)|some v=>(v,H9)):=by
 unfold f123 lu;by_cases Y:s=[]
 .subst Y;rfl
 have hl:0<s.length:=List.length_pos_iff.2 Y;by_cases I:9<s.length
 .have kC:(9:Int)<(s.length:Int):=by omega
  simp only[Y,kC,decide_false,decide_true,cond_false,cond_true,I,true_or,or_true,if_true]
 have kC:¬(9:Int)<(s.length:Int):=by omega
 obtain⟨j,oy⟩:=jb5 (s:=s) (by omega) s.length 0 0 (by omega) (by omega) (by simp)
 have PS:qm s 0=Ha s[0]:=by rw[show(0:Int)=((0:Nat):Int)from rfl,wR,Hb hl]
 rw[jn3 hl];rw[Hc]at oy;by_cases h3:1<s.length
 .have PT:(1:Int)<(s.length:Int):=by omega
  by_cases h4:s[0]=48
  .have YZ:(s[0].toNat:Int)=48:=by rw[h4];rfl
   simp only[Y,kC,PT,decide_false,decide_true,cond_false,cond_true,I,h3,h4,PS,qi,YZ,true_and,or_true,if_true];rfl
  .have YZ:¬(s[0].toNat:Int)=48:=fun e=>h4 (UInt8.toNat_inj.1 (by have:(48:UInt8).toNat=48:=rfl;omega));simp only[Y,kC,PT,decide_false,decide_true,cond_false,cond_true,I,h3,h4,PS,qi,YZ,true_and,or_false,if_false,oy,Ha.injEq];cases iR 0 s<;>rfl
 .have PT:¬(1:Int)<(s.length:Int):=by omega
  simp only[Y,kC,PT,decide_false,decide_true,cond_false,cond_true,I,h3,false_and,or_false,if_false];rw[show KA s=xi s from rfl,oy,qi];cases iR 0 s<;>rfl
theorem jhu {c:UInt8}:kI c=H9↔48<=c.toNat/\c.toNat<=57:=by simp[kI]
theorem jmi (x:Int):f139 x=Ha (!(decide (48<=x)&&decide (x<=57))):=by
 unfold f139;by_cases Y:x<48
 .simp only[Y,decide_true,cond_true,decide_eq_false (show ¬48<=x by omega),Ip,If]
 .simp only[Y,decide_false,cond_false,decide_eq_true (show 48<=x by omega),Iq];by_cases I:57<x
  .simp only[I,decide_true,decide_eq_false (show ¬x<=57 by omega),If]
  .simp only[I,decide_false,decide_eq_true (show x<=57 by omega),Iw]
end Go.Z
namespace Go.Z
open Go Go.Abs Go.W
theorem jcq {s:aj}{i:Nat}(h:i<s.length):f139 ((qj s i).1:Int)=Ha (!(kI s[i]))/\(kI s[i]=H9->(qj s i).2=1):=by
 have hg:s[i]?=Ha s[i]:=Hb h;rw[jmi];by_cases hl:s[i].toNat<128
 .rw[Ok hg hl];refine⟨?_,fun _=>rfl⟩
  congr 2
  unfold kI
  congr 1
  .exact decide_eq_decide.2 (by omega)
  .exact decide_eq_decide.2 (by omega)
 .have oR:=VC hg hl
  have hn:kI s[i]=false:=by
   cases hd:kI s[i]with
   |false=>rfl|true=>have:=jhu.1 hd;omega
  rw[hn,decide_eq_false (show ¬((qj s i).1:Int)<=57 by omega),Bool.and_false];exact⟨rfl,fun e=>by cases e⟩
theorem jcm (s:aj):∀(k i:Nat) (p:Int),i+k=s.length->∃j m:Nat,bq (KB s H9) (Ha (H9,p,i))=Ha (if(s.drop i).all kI=H9 then .inr (H9,s.length)else .inl ((j:Int),m))
 |0,i,p,hi=>by
  have hi:i=s.length:=by omega
  subst hi;rw[Il (H4 _)];refine⟨0,0,zj ?_⟩;show xj s H9 (H9,p,s.length)=_;unfold xj;simp only[I9,decide_false,cond_false];rfl
 |k+1,i,p,hi=>by
  have bg:i<s.length:=by omega
  have hd:=jcq bg;rw[Aa bg,Ja];cases hb:kI s[i]with
  |true=>
   obtain⟨j,m,hj⟩:=jcm s k (i+1) (i:Int) (by omega);refine⟨j,m,?_⟩;rw[Iq,<-hj];refine km ?_;show xj s H9 (H9,p,i)=_;unfold xj;simp only[bg,decide_true,cond_true,hd.1,hd.2 hb,hb,qi,Iw,cond_false]
  |false=>
   refine⟨i,i+(qj s i).2,?_⟩;rw[Ip,if_neg (by simp)];refine zj ?_;show xj s H9 (H9,p,i)=_;unfold xj;simp only[bg,decide_true,cond_true,hd.1,hb,qi,If]
theorem jur (s:aj):f138 s=Ha (!(s.all kI)):=by
 have key:∃j m:Nat,bq (KB s H9) none=Ha (if s.all kI=H9 then .inr (H9,s.length)else .inl ((j:Int),m)):=by
  cases G:s.length with
  |zero=>
   obtain rfl:=List.length_eq_zero_iff.1 G;exact⟨0,0,zj rfl⟩
  |succ n=>
   have bg:0<s.length:=by omega
   have hd:=jcq bg
   have he:s.all kI=(kI s[0]&&(s.drop 1).all kI):=by
    have:=congrArg (fun l=>List.all l kI) (Aa bg);simpa only[Hc,Ja]using this
   rw[he];cases hb:kI s[0]with
   |true=>
    obtain⟨j,m,hj⟩:=jcm s n 1 (0:Int) (by omega);refine⟨j,m,?_⟩;rw[Iq,<-G,<-hj];refine km ?_;show Co s H9=_;unfold Co;simp only[bg,decide_true,cond_true,hd.1,hd.2 hb,hb,qi,Iw,cond_false]<;>rfl
   |false=>
    refine⟨0,0+(qj s 0).2,?_⟩;rw[Ip,if_neg (by simp)];refine zj ?_;show Co s H9=_;unfold Co;simp only[bg,decide_true,cond_true,hd.1,hb,qi,If];rfl
 obtain⟨j,m,hk⟩:=key;unfold f138 f213 f260;rw[hk,qi]
 cases s.all kI with
 |true=>rfl
 |false=>
  show Ha (decide ((0:Int)<=(j:Int)))=_;rw[decide_eq_true (by omega)];rfl
end Go.Z
namespace Go.Z
open Go Go.Abs Go.W
theorem KO {s:aj}{j:Nat}(I:j<=s.length):fL s none (Ha (j:Int))=Ha (s.take j):=by
 simp only[fL,lm];rw[if_pos ⟨by omega,by omega⟩];simp only[I1,Hc]
theorem Ab {s:aj}{i:Nat}(I:i<=s.length):fL s (Ha (i:Int)) none=Ha (s.drop i):=by
 simp only[fL,lm];rw[if_pos ⟨by omega,by omega⟩];simp only[I1,List.take_length]
theorem jss (s:aj)(c:UInt8):f256 s (c.toNat:Int)=Ha (Lib.indexByte s c):=by
 show f256 s (Iy c.toNat)=_;simp only[f256,q4d];rw[show H2 c.toNat=c from UInt8.ofNat_toNat]
theorem jc3 {s:aj}(c:UInt8):f212 s [c]=Ha (Lib.indexByte s c):=by
 unfold f212
 have h0:¬((([c]:aj).length:Int)=0):=by simp
 have Y:((([c]:aj).length:Int)=1):=by simp
 have PS:qm [c] 0=Ha c:=rfl;by_cases G:[c]=s
 .subst G
  have:Lib.indexByte [c] c=0:=by
   have:=WM (c:=c) (a:=[]) (b:=[]) (by simp);simpa using this
  simp only[h0,decide_false,cond_false,decide_true,cond_true,this]
 .rw[decide_eq_false h0,cond_false,decide_eq_false G,cond_false,decide_eq_true Y,cond_true,PS,qi,jss,qi]
theorem jif {s:aj}{c:UInt8}(h:c ∉ s):f52 s [c]=Ha (s,[],false):=by
 unfold f52 f137;rw[jc3,jc0 h];rfl
theorem jhp {a b:aj}{c:UInt8}(h:c ∉ a)(hl:(a++c::b).length<=1073741824):f52 (a++c::b) [c]=Ha (a,b,H9):=by
 unfold f52 f137;have Ia:=hl;simp only[E6,Ib]at Ia
 rw[jc3,WM h,qi,decide_eq_true (by omega:(0:Int)<=(a.length:Int)),cond_true,KO (by simp),qi,yl (by simp only[En];omega) (by simp only[En];omega),
  show((a.length:Int)+(([c]:aj).length:Int))=((a.length+1:Nat):Int) by simp,Ab (by simp),qi]
 rw[List.take_left',show a++c::b=(a++[c])++b by simp,List.drop_left']
 .rfl
 .simp
 .rfl
theorem Y0 {α:Type}{o:Option (List α)}{x:α}(h:(o.getD []).length+1<=1073741824):bC o [x]=Ha (Ha (o.getD []++[x])):=by
 unfold bC;rw[if_pos (by simpa using h)];cases o<;>rfl
end Go.Z
namespace Go.Z
open Go Go.Abs Go.W
theorem pB {a b:aj}(h:a.length+b.length<=1073741824):gZ a b=Ha (a++b):=by
 unfold gZ;rw[if_pos (by omega)]
theorem GZ {p x:aj}{l:List aj}:Lib.joinTail p (x::l)=p++x++Lib.joinTail p l:=by
 simp[Lib.joinTail]
theorem jg9 {e:GEv}{L:List aj}(hL:e.names.getD []=L)(hl:L.length<=1000000):∀(k i:Nat) (s:aj),i+k=L.length->s.length+(Lib.joinTail [32] (L.drop i)).length<=1000000000->bq (zW e) (s,(i:Int))=Ha (s++Lib.joinTail [32] (L.drop i),(L.length:Int))
 |0,i,s,hi,h=>by
  obtain rfl:i=L.length:=by omega
  rw[H3 (H4 _)];refine zj ?_;unfold zW;rw[hL];simp only[Ij,decide_false,cond_false];simp[Lib.joinTail]
 |k+1,i,s,hi,h=>by
  have bg:i<L.length:=by omega
  have I:((i:Int)<(L.length:Int)):=by omega
  have M:qm L (i:Int)=Ha L[i]:=by rw[wR,Hb bg]
  rw[Aa bg,GZ]at h ⊢;simp only[E6,En]at h;rw[km (s':=(s++[32]++L[i],((i+1:Nat):Int))),jg9 hL hl k (i+1) _ (by omega) (by simp only[E6,En];omega)]
  .simp
  .unfold zW;rw[hL];simp only[I,decide_true,cond_true,M,qi];rw[pB (by simp only[En];omega),qi,pB (by simp only[E6,En];omega),qi,yl (by omega) (by omega)];rfl
theorem Y1 {v:Int}(h0:0<=v)(Y:v<1000000000):f34 v=Ha (Lib.itoa v):=by
 rw[Ac h0];have hu:(v.toNat:Int)=v:=Ic h0;have:=j2n (u:=v.toNat) (by omega);rw[hu]at this;exact this
theorem jb7 {e:GEv}{L:List Int}(hL:e.values.getD []=L)(hl:L.length<=1000000)(hv:∀v∈L,0<=v/\v<1000000000):∀(k i:Nat) (s:aj),i+k=L.length->s.length+(Lib.joinTail [32] ((L.drop i).map Lib.itoa)).length<=1000000000->bq (xl e) (s,(i:Int))=Ha (s++Lib.joinTail [32] ((L.drop i).map Lib.itoa),(L.length:Int))
 |0,i,s,hi,h=>by
  obtain rfl:i=L.length:=by omega
  rw[H3 (H4 _)];refine zj ?_;unfold xl;rw[hL];simp only[Ij,decide_false,cond_false];simp[Lib.joinTail]
 |k+1,i,s,hi,h=>by
  have bg:i<L.length:=by omega
  have I:((i:Int)<(L.length:Int)):=by omega
  have M:qm L (i:Int)=Ha L[i]:=by rw[wR,Hb bg]
  have hb:=hv L[i] (I3 bg);rw[Aa bg,Jb,GZ]at h ⊢;simp only[E6,En]at h;rw[km (s':=(s++[32]++Lib.itoa L[i],((i+1:Nat):Int))),jb7 hL hl hv k (i+1) _ (by omega) (by simp only[E6,En];omega)]
  .simp
  .unfold xl;rw[hL];simp only[I,decide_true,cond_true,M,qi];rw[pB (by simp only[En];omega),qi,Y1 hb.1 hb.2,qi,pB (by simp only[E6,En];omega),qi,yl (by omega) (by omega)];rfl
theorem q9h {p:aj}(a b:List aj):Lib.joinTail p (a++b)=Lib.joinTail p a++Lib.joinTail p b:=by
 simp[Lib.joinTail]
theorem PU (e:cf):zp e=Lib.itoa e.number++[32]++e.kind++Lib.joinTail [32] e.names++Lib.joinTail [32] (e.values.map Lib.itoa):=by
 unfold zp qP;rw[Lib.join_cons,GZ,q9h];simp
theorem j0z {e:GEv}(hn:0<=e.number/\e.number<1000000000)(hv:∀v∈e.values.getD [],0<=v/\v<1000000000)(Y:(e.names.getD []).length<=1000000)(I:(e.values.getD []).length<=1000000)(hb:(zp e.er).length<=1000000000):f50 e=Ha (zp e.er):=by
 rw[PU]at hb ⊢;simp only[GEv.er]at hb ⊢;simp only[E6,En]at hb;unfold f50;rw[Y1 hn.1 hn.2,qi,pB (by simp only[En];omega),qi,pB (by simp only[E6,En];omega),qi];have l1:=jg9 (e:=e) rfl Y _ 0 (Lib.itoa e.number++[32]++e.kind) (Ix _) (by simp only[E6,En,Hc];omega);rw[Hc]at l1;rw[show bq (zW e) (Lib.itoa e.number++[32]++e.kind,0)=_ from l1,qi];have l2:=jb7 (e:=e) rfl I hv _ 0 (Lib.itoa e.number++[32]++e.kind++Lib.joinTail [32] (e.names.getD [])) (Ix _) (by simp only[E6,En,Hc];omega);rw[Hc]at l2;show qa (bq (xl e) (Lib.itoa e.number++[32]++e.kind++Lib.joinTail [32] (e.names.getD []),0)) _=_;rw[show bq (xl e) (Lib.itoa e.number++[32]++e.kind++Lib.joinTail [32] (e.names.getD []),0)=_ from l2,qi]
end Go.Z
namespace Go.Z
open Go Go.Abs Go.W
theorem jcr {v:Int}(h0:0<=v)(Y:v<1000000000):f43 v=Ha (Lib.itoa v):=by
 rw[Ac h0];have hu:(v.toNat:Int)=v:=Ic h0;have:=KN (u:=v.toNat) (by omega);rw[hu]at this;exact this
theorem jc4 {O:ak Int}{L:List Int}(hL:O.getD []=L)(hl:L.length<=1000000)(hv:∀v∈L,0<=v/\v<1000000000):∀(k i:Nat) (o:ak aj) (fl:Bool),i+k=L.length->(o.getD []).length<=i->(fl=H9\/o=none) ->
  ∃o' CJ,bq (zP O) (o,(i:Int),fl)=Ha (o',CJ,(L.length:Int))/\o'.getD []=o.getD []++(L.drop i).map Lib.itoa
 |0,i,o,fl,hi,dQ,hf=>by
  obtain rfl:i=L.length:=by omega
  rw[H3 (H4 _)];refine⟨o,fl,zj ?_,by simp⟩;unfold zP;rw[hL];simp only[Ij,decide_false,cond_false]
 |k+1,i,o,fl,hi,dQ,hf=>by
  have bg:i<L.length:=by omega
  have I:((i:Int)<(L.length:Int)):=by omega
  have M:qm L (i:Int)=Ha L[i]:=by rw[wR,Hb bg]
  have hb:=hv L[i] (I3 bg);have hw:qd .i64 ((i:Int)+1)=((i+1:Nat):Int):=zd (by omega);have lh:=Y0 (x:=Lib.itoa L[i]) (o:=o) (by omega);obtain⟨o',CJ,h3,h4⟩:=jc4 hL hl hv k (i+1) (Ha (o.getD []++[Lib.itoa L[i]])) H9 (by omega) (by simp;omega) (.inl rfl);refine⟨o',CJ,?_,?_⟩
  .rw[km (s':=(Ha (o.getD []++[Lib.itoa L[i]]),((i+1:Nat):Int),H9)),h3];unfold zP;rw[hL];simp only[I,decide_true,cond_true,M,qi,jcr hb.1 hb.2,lh,hw];rcases hf with rfl|rfl
   .rfl
   .cases fl<;>rfl
  .rw[h4,Aa bg,Jb,Option.getD_some,List.append_assoc];rfl
theorem jsb {O:ak Int}(hl:(O.getD []).length<=1000000)(hv:∀v∈O.getD [],0<=v/\v<1000000000):∃o fl,f210 O=Ha (o,fl)/\o.getD []=(O.getD []).map Lib.itoa:=by
 obtain⟨o,fl,Y,I⟩:=jc4 (O:=O) rfl hl hv _ 0 none false (Ix _) (H4 _) (.inr rfl);refine⟨o,fl,?_,by simpa using I⟩;unfold f210;rw[show bq (zP O) (none,0,false)=_ from Y,qi]
theorem jaa {α:Type}{a ys:List α}(h:a.length+ys.length<=1073741824)(ha:a≠[]):bC (Ha a) ys=Ha (Ha (a++ys)):=by
 unfold bC;rw[if_pos (by simpa using h)]
 cases ys with
 |nil=>simp[yP]|cons y t=>simp[yP]
theorem Y2 {s:aj}{ss:List aj}{p:aj}(Y:(s::ss).length<=100000)(I:(Lib.join (s::ss) p).length<=100000000):f47 (Ha (s::ss)) p=Ha (Lib.join (s::ss) p):=by
 have kC:(p.intercalate (s::ss)).length<=100000000:=I;simp only[f47];rw[Io Y,Io kC,Bool.and_self,cond_true];rfl
theorem jtb {e:GEv}(hn:0<=e.number/\e.number<1000000000)(hv:∀v∈e.values.getD [],0<=v/\v<1000000000)(Y:(e.names.getD []).length<=10000)(I:(e.values.getD []).length<=10000)(hb:(zp e.er).length<=100000000):f135 e=Ha (zp e.er):=by
 obtain⟨o,fl,h3,h4⟩:=jsb (O:=e.values) (by omega) hv;unfold f135;rw[jcr hn.1 hn.2,qi,jaa (by simp only[Ib,I5];omega) (by simp),qi,h3,qi];show qa (bC _ (o.getD [])) _=_;rw[h4,jaa (by simp only[E6,Ib,I5,I6];omega) (by simp),qi];have he:zp e.er=Lib.join (Lib.itoa e.number::e.kind::(e.names.getD []++(e.values.getD []).map Lib.itoa)) [32]:=rfl;rw[he]at hb ⊢;have:=Y2 (s:=Lib.itoa e.number) (ss:=e.kind::(e.names.getD []++(e.values.getD []).map Lib.itoa)) (p:=[32]) (by simp only[E6,Ib,I6];omega) hb;show qa (f47 (Ha ([Lib.itoa e.number,e.kind]++e.names.getD []++(e.values.getD []).map Lib.itoa)) [32]) _=_;rw[show [Lib.itoa e.number,e.kind]++e.names.getD []++(e.values.getD []).map Lib.itoa=Lib.itoa e.number::e.kind::(e.names.getD []++(e.values.getD []).map Lib.itoa) by simp,this,qi]
theorem jjx {e:GEv}(hn:0<=e.number/\e.number<1000000000)(hv:∀v∈e.values.getD [],0<=v/\v<1000000000)(Y:(e.names.getD []).length<=10000)(I:(e.values.getD []).length<=10000)(hb:(zp e.er).length<=100000000):f49 e=Ha (zh e.er++[10]):=by
 have h7:(lq (gw (zp e.er))).length=7:=q4p (CI _).1 (by have:=(CI (zp e.er)).2;omega);unfold f49;rw[jtb hn hv Y I hb,qi,pB (by simp only[En];omega),qi,jbv (by omega),qi,pB (by simp only[E6,En];omega),qi,pB (by simp only[E6,En];omega),qi];unfold zh;simp
end Go.Z
namespace Go.Z
open Go Go.Abs Go.W
structure Y3 (e:GEv):Prop where
 num:0<=e.number/\e.number<1000000000
 vals:∀v∈e.values.getD [],0<=v/\v<1000000000
 l1:(e.names.getD []).length<=10000
 l2:(e.values.getD []).length<=10000
 lb:(zp e.er).length<=1000000
end Go.Z
