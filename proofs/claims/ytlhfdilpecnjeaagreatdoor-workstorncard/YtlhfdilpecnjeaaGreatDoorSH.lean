/- Words that are read, by the program. -/
import Derived.Test.YtlhfdilpecnjeaaGreatDoorSA
import Derived.Test.YtlhfdilpecnjeaaGreatDoorEF
set_option linter.unusedVariables false
set_option linter.unusedSimpArgs false
set_option maxRecDepth 100000
noncomputable section
open Option renaming getD_some->En,some->Ha
open List renaming getElem?_eq_getElem->E6,length_cons->Hb,length_append->Hc,drop_eq_nil_of_le->H2,length_drop->H8,length->Ia,length_singleton->Ic,length_take->Ig,length_map->Ij
open Nat renaming le_refl->H3,zero_add->If
open Int renaming lt_irrefl->H4
open Bool renaming true->H9,false->Ib
namespace Go.Z
open Go Go.Abs Go.W
theorem jrp (w:aj)(g:Bool):f122 w g=Ha (match lu w with|none=>(0,Ib)|some v=>(v,g)):=by
 unfold f122;rw[YY,qi];cases lu w<;>cases g<;>rfl
theorem jcv {O:ak aj}{L:List aj}(hL:O.getD []=L)(hl:L.length<=1000000):∀(k i:Nat) (o:ak Int) (g fl:Bool),i+k=L.length->(o.getD []).length<=i->(fl=H9\/o=none) ->
  ∃o' CJ,bq (zQ O) (o,(i:Int),g,fl)=Ha (o',CJ,(L.length:Int),g&&(nc (L.drop i)).isSome)/\∀l,nc (L.drop i)=Ha l->o'.getD []=o.getD []++l
 |0,i,o,g,fl,hi,dQ,hf=>by
  obtain rfl:i=L.length:=by omega
  rw[H2 (H3 _)];refine⟨o,fl,zj ?_,fun l hl=>by cases hl;simp⟩;unfold zQ;rw[hL];simp only[H4,decide_false,cond_false];simp[nc]
 |k+1,i,o,g,fl,hi,dQ,hf=>by
  have bg:i<L.length:=by omega
  have I:((i:Int)<(L.length:Int)):=by omega
  have M:qm L (i:Int)=Ha L[i]:=by rw[wR,E6 bg]
  have hw:qd .i64 ((i:Int)+1)=((i+1:Nat):Int):=zd (by omega)
  obtain⟨v,g',hv,hg⟩:∃v g',f122 L[i] g=Ha (v,g')/\(g'=(g&&(lu L[i]).isSome)/\∀x,lu L[i]=Ha x->v=x):=by
   rw[jrp];cases lu L[i]with
   |none=>exact⟨0,Ib,rfl,by simp,fun x M=>by cases M⟩|some x=>exact⟨x,g,rfl,by simp,fun y hy=>by cases hy;rfl⟩
  have lh:=Y0 (x:=v) (o:=o) (by omega);obtain⟨o',CJ,h3,h4⟩:=jcv hL hl k (i+1) (Ha (o.getD []++[v])) g' H9 (by omega) (by simp;omega) (.inl rfl);refine⟨o',CJ,?_,?_⟩
  .rw[km (s':=(Ha (o.getD []++[v]),((i+1:Nat):Int),g',H9)),h3]
   .rw[Aa bg,hg.1];simp only[nc];cases lu L[i]with
    |none=>simp|some x=>cases nc (L.drop (i+1))<;>simp
   .unfold zQ;rw[hL];simp only[I,decide_true,cond_true,M,qi,hv,lh,hw];rcases hf with rfl|rfl
    .rfl
    .cases fl<;>rfl
  .intro l hn;rw[Aa bg]at hn;simp only[nc]at hn;cases M:lu L[i]with
   |none=>rw[M]at hn;cases hn
   |some x=>
    rw[M]at hn
    cases Q:nc (L.drop (i+1))with
    |none=>rw[Q]at hn;cases hn
    |some t=>
     rw[Q]at hn;cases hn;rw[h4 t Q,hg.2 x M];simp
theorem jt4 {O:ak aj}(hl:(O.getD []).length<=1000000):∃o fl,f121 O H9=Ha (o,fl,(nc (O.getD [])).isSome)/\∀l,nc (O.getD [])=Ha l->o.getD []=l:=by
 obtain⟨o,fl,Y,I⟩:=jcv (O:=O) rfl hl _ 0 none H9 Ib (If _) (H3 _) (.inr rfl);refine⟨o,fl,?_,fun l h=>by simpa using I l h⟩;unfold f121;rw[show bq (zQ O) (none,0,H9,Ib)=_ from Y,qi];simp
end Go.Z
namespace Go.Z
open Go Go.Abs Go.W
theorem jbd:∀ x∈cA,x.2.1<=10/\x.2.2<=10:=by decide
theorem Y4 {k f}(h:ye k=Ha f):f.1<=10/\f.2<=10:=jbd _ (PV h)
theorem jtt {a:ak aj}(h:(a.getD []).length<=1000000):∃o fl,f120 a=Ha (o,fl)/\o.getD []=a.getD []:=by
 unfold f120
 cases a with
 |none=>exact⟨none,Ib,rfl,rfl⟩
 |some l=>
  have:bC (Ha []) l=Ha (Ha l):=yQ (by simp only[En]at h;unfold SM;omega);refine⟨Ha l,H9,?_,rfl⟩;simp only[Option.isNone_some,cond_false,En];rw[this,qi]
theorem jg0 {O:ak aj}{n:Int}{k:aj}{r:List aj}(h:O=Ha (k::r))(hl:r.length<=100000):∃e b,f40 O n=Ha (e,b)/\(match rV (k::r) n with|none=>b=Ib|some x=>b=H9/\e.er=x):=by
 subst h;have M:qm ((Ha (k::r)).getD []) 0=Ha k:=rfl;unfold f40;rw[M,qi];rcases Wr k with⟨Y,I⟩|⟨f,Y,I,h3⟩
 .have hi:mC k=Ib:=by unfold mC;rw[Y];rfl
  rw[hi,cond_false];exact⟨_,_,rfl,by simp only[rV,I]⟩
 .have hi:mC k=H9:=by unfold mC;rw[Y];rfl
  have Q:zb k=f.2.1:=by unfold zb;rw[Y]
  have hv:mA k=f.2.2.1:=by unfold mA;rw[Y]
  have G:=Y4 I;have hk:k≠[]:=(q3v _ (PV I)).1;simp only[]at G;rw[hi,cond_true,Q,hv,yl (x:=1+(f.2.1.length:Int)) (by omega) (by omega),yl (x:=1+(f.2.1.length:Int)+f.2.2.1) (by omega) (by omega)];simp only[En,Hb];by_cases hc:r.length=f.2.1.length+f.2.2.1.toNat
  .rw[decide_eq_true (show((r.length+1:Nat):Int)=1+(f.2.1.length:Int)+f.2.2.1 by omega),cond_true,WA (by simp only[En,Hb];unfold SM;omega),qi]
   have he:((Ha (k::r)).getD []).any (fun x=>decide (([]:aj)=x))=decide ([]∈r):=by
    simp only[En,List.any_cons,decide_eq_false (show ¬([]:aj)=k from fun e=>hk e.symm),Bool.false_or];by_cases hm:([]:aj)∈r
    .rw[decide_eq_true hm,List.any_eq_true];exact⟨[],hm,by simp⟩
    .rw[decide_eq_false hm,List.any_eq_false];intro x M;simp only[decide_eq_true_eq];rintro rfl;exact hm M
   rw[he];by_cases hm:([]:aj)∈r
   .rw[decide_eq_true hm,cond_true];refine⟨_,_,rfl,?_⟩;simp only[rV,I,hc,hm,not_true,and_false,if_false]
   .rw[decide_eq_false hm,cond_false]
    have hA:jB (Ha (k::r)) (Ha 1) (Ha (1+(f.2.1.length:Int)))=Ha (Ha (r.take f.2.1.length)):=by
     simp only[jB,En,fL,lm];rw[if_pos ⟨by omega,by simp only[Hb];omega⟩];simp only[];rw[if_pos ⟨by omega,by omega⟩];rw[show(1+(f.2.1.length:Int)).toNat=f.2.1.length+1 by omega];rfl
    have hB:jB (Ha (k::r)) (Ha (1+(f.2.1.length:Int))) none=Ha (Ha (r.drop f.2.1.length)):=by
     simp only[jB,En,fL,lm];rw[if_pos ⟨by omega,by simp only[Hb];omega⟩];rw[show(1+(f.2.1.length:Int)).toNat=f.2.1.length+1 by omega,List.take_length];rfl
    obtain⟨o1,b1,g1,g2⟩:=jtt (a:=Ha (r.take f.2.1.length)) (by simp only[En,Ig];omega);obtain⟨o2,b2,g3,g4⟩:=jt4 (O:=Ha (r.drop f.2.1.length)) (by simp only[En,H8];omega);rw[hA,qi,g1,qi,hB,qi,g3,qi];simp only[En]at g2 g4;simp only[En,rV,I,hc,hm,not_false_eq_true,and_true,if_true]
    cases hn:nc (r.drop f.2.1.length)with
    |none=>cases b2<;>exact⟨_,_,rfl,rfl⟩
    |some vs=>
     have:=g4 vs hn;cases b2<;>exact⟨_,_,rfl,rfl,by simp only[GEv.er,g2,this]⟩
  .rw[decide_eq_false (show ¬((r.length+1:Nat):Int)=1+(f.2.1.length:Int)+f.2.2.1 by omega),cond_false];refine⟨_,_,rfl,?_⟩;simp only[rV,I,hc,false_and,if_false]
end Go.Z
namespace Go.Z
open Go Go.Abs Go.W
theorem PW {s:aj}{c:UInt8}(h:s.length<=1000000000):f19 s [c]=Ha (Ha (ef c s)):=by
 simp only[f19];rw[Nat.blt_eq.mpr (show s.length<4294967281 by omega),cond_true]
theorem jr1 {s:aj}(G:s.length<=90000):∃e b,f140 s=Ha (e,b)/\(match xm s with|none=>b=Ib|some x=>b=H9/\e.er=x):=by
 unfold f140;rcases OU 32 s with h|⟨a,b,rfl,h⟩
 .rw[jif h,qi,YY,qi];refine⟨_,_,rfl,?_⟩;simp only[xm,tE h]
  cases lu s with
  |none=>exact trivial|some n=>exact trivial
 .have hb:b.length<=90000:=by simp only[Hc,Hb]at G;omega
  rw[jhp h (by omega),qi,YY,qi];simp only[xm,rQ h,cond_true]
  cases hn:lu a with
  |none=>exact⟨_,_,rfl,rfl⟩
  |some n=>
   simp only[cond_true];rw[PW (by omega),qi]
   cases nx:ef 32 b with
   |nil=>exact absurd nx (zJ 32 b)
   |cons k r=>
    have Q:r.length<=100000:=by have:=WK 32 b;rw[nx]at this;simp only[Hb]at this;omega
    obtain⟨e,t,Y,I⟩:=jg0 (n:=n) (rfl:Ha (k::r)=Ha (k::r)) Q;rw[Y,qi]
    cases hw:rV (k::r) n with
    |none=>
     rw[hw]at I;simp only[]at I ⊢;rw[I];exact⟨_,_,rfl,rfl⟩
    |some x=>
     rw[hw]at I;simp only[]at I ⊢;obtain⟨f,g1,g2,g3⟩:=(qwj hw).2.2.2.1;have hf:=Y4 g1
     have e1:e.names.getD []=x.names:=by rw[<-I.2];rfl
     have e2:e.values.getD []=x.values:=by rw[<-I.2];rfl
     rw[I.1,cond_true,J8 (by rw[e1];unfold SM;omega) (by rw[e2];unfold SM;omega),qi,I.2];refine⟨_,_,rfl,?_⟩;by_cases hc:qz x=0
     .simp only[hc,if_true,decide_true,true_and];exact I.2
     .simp only[hc,if_false,decide_false]
theorem j0u {s:aj}{n:Nat}(G:s.length<=90000)(hn:n<=1000000):∃e k,f53 s (n:Int)=Ha (e,k)/\(match pC s n with | .error c=>k=c | .ok x=>k=0/\e.er=x):=by
 unfold f53 pC;rw[yl (x:=(s.length:Int)-8) (by omega) (by omega)];by_cases h8:s.length<8
 .rw[decide_eq_true (show(s.length:Int)-8<0 by omega),cond_true,if_pos h8];exact⟨_,_,rfl,rfl⟩
 .rw[decide_eq_false (show ¬(s.length:Int)-8<0 by omega),cond_false,if_neg h8]
  have bg:s.length-8<s.length:=by omega
  have ht:(s.take (s.length-8)).length<=90000:=by rw[Ig];omega
  rw[show(s.length:Int)-8=((s.length-8:Nat):Int) by omega,jhk bg,qi,yl (x:=((s.length-8:Nat):Int)+1) (by omega) (by omega),show((s.length-8:Nat):Int)+1=((s.length-7:Nat):Int) by omega,Ab (by omega),E6 bg];by_cases ov:s[s.length-8]=35
  .have CK:((s[s.length-8].toNat:Int)=35):=by rw[ov];rfl
   rw[decide_eq_true CK,cond_true,qi,jur,qi]
   cases hd:(s.drop (s.length-7)).all kI with
   |false=>
    rw[if_pos (.inr rfl)];exact⟨_,_,rfl,rfl⟩
   |true=>
    rw[if_neg (by simp[ov])];simp only[Bool.not_true,cond_false];rw[KO (by omega),qi,jbv (by omega),qi];by_cases h7:s.drop (s.length-7)=lq (gw (s.take (s.length-8)))
    .rw[decide_eq_true h7,cond_true,if_neg (fun h=>h h7)];obtain⟨e,t,Y,I⟩:=jr1 ht;rw[Y,qi,yn,qi,yn,qi,jsi,qi,yl (by omega) (by omega)]
     cases hp:xm (s.take (s.length-8))with
     |none=>
      rw[hp]at I;simp only[]at I;rw[I];exact⟨_,_,rfl,rfl⟩
     |some x=>
      rw[hp]at I;simp only[]at I ⊢
      have M:e.number=x.number:=by rw[<-I.2];rfl
      rw[I.1];by_cases hq:x.number=(n:Int)+1
      .have e1:(!decide (e.number=(n:Int)+1))=Ib:=by rw[M,hq];simp
       rw[show(if x.number≠(n:Int)+1 then(Except.error 11:Except Int cf)else .ok x)=.ok x from if_neg (fun h=>h hq)];simp only[e1];exact⟨_,_,rfl,rfl,I.2⟩
      .have e1:(!decide (e.number=(n:Int)+1))=H9:=by rw[M];simp[hq]
       rw[show(if x.number≠(n:Int)+1 then(Except.error 11:Except Int cf)else .ok x)=.error 11 from if_pos hq];simp only[e1];exact⟨_,_,rfl,rfl⟩
    .rw[decide_eq_false h7,cond_false,if_pos h7];exact⟨_,_,rfl,rfl⟩
  .have CK:¬((s[s.length-8].toNat:Int)=35):=fun e=>ov (UInt8.toNat_inj.1 (by have:(35:UInt8).toNat=35:=rfl;omega));rw[decide_eq_false CK,cond_false,if_pos (.inl (fun e=>ov (Ha.inj e)))];exact⟨_,_,rfl,rfl⟩
end Go.Z
namespace Go.Z
open Go Go.Abs Go.W
def jrg:((ak GEv)×Bool×Int×Int)⊕((ak GEv)×Bool×Int)->(ak GEv)×Int×Int
 | .inl d=>(d.1,d.2.2.1,d.2.2.2)| .inr d=>(d.1,d.2.2,0)
def Y5 (t:(ak GEv)×Int×Int)(w:List cf×Nat×Int):Prop:=(t.1.getD []).map GEv.er=w.1/\t.2.1=(w.2.1:Int)/\t.2.2=w.2.2
theorem jw7 {s:aj}(G:s.length<=90000):∀(k a:Nat) (o:ak GEv) (fl:Bool),s.length<=a+k->a<=s.length->(o.getD []).length<=a->(fl=H9\/o=none) ->
  ∃d,bq (tL s) (o,(a:Int),fl)=Ha d/\Y5 (jrg d) (lv (ef 10 (s.drop a)) a ((o.getD []).map GEv.er)):=by
 intro k
 induction k with
 |zero=>
  intro a o fl Y I h3 hf
  obtain rfl:a=s.length:=by omega
  refine⟨.inr (o,fl,(s.length:Int)),zj ?_,?_⟩
  .unfold tL;simp only[H4,decide_false,cond_false]
  .rw[H2 (H3 _),tE (by simp)];exact⟨rfl,rfl,rfl⟩
 |succ k ih=>
  intro a o fl Y I h3 hf;by_cases ha:a=s.length
  .subst ha;refine⟨.inr (o,fl,(s.length:Int)),zj ?_,?_⟩
   .unfold tL;simp only[H4,decide_false,cond_false]
   .rw[H2 (H3 _),tE (by simp)];exact⟨rfl,rfl,rfl⟩
  .have bg:(a:Int)<(s.length:Int):=by omega
   have bG:s.drop a≠[]:=by
    intro e;have:=congrArg Ia e;rw[H8,List.length_nil]at this;omega
   have hld:(s.drop a).length<=90000:=by rw[H8];omega
   rcases OU 10 (s.drop a)with h|⟨x,y,he,M⟩
   .refine⟨.inl (o,fl,(a:Int),29),zj ?_,?_⟩
    .unfold tL;simp only[bg,decide_true,cond_true,Ab I,qi,jif h,cond_false]
    .rw[tE h];refine⟨rfl,rfl,?_⟩
     show(29:Int)=if s.drop a=[]then 0 else 29
     rw[if_neg bG]
   .have hlen:x.length+y.length+1<=90000:=by rw[he]at hld;simp only[Hc,Hb]at hld;omega
    have oX:a+(x.length+y.length+1)=s.length:=by
     have:=congrArg Ia he;simp only[H8,Hc,Hb]at this;omega
    have h84:f52 (s.drop a) [10]=Ha (x,y,H9):=by rw[he];exact jhp M (by simp only[Hc,Hb];omega)
    obtain⟨e,c,g1,g2⟩:=j0u (s:=x) (n:=(o.getD []).length) (by omega) (by omega)
    have hy:y=s.drop (a+x.length+1):=by
     have:(s.drop a).drop (x.length+1)=y:=by rw[he,show x++10::y=(x++[10])++y by simp,List.drop_left' (by simp)]
     rw[<-this,List.drop_drop];congr 1
    rw[he,rQ M,G0 (zJ 10 y),Ij]
    cases hL:pC x (o.getD []).length with
    |error q=>
     rw[hL]at g2;simp only[]at g2;have hq:=Y6 hL;refine⟨.inl (o,fl,(a:Int),c),zj ?_,rfl,rfl,g2⟩;unfold tL
     have hc:¬c=0:=by rw[g2];exact hq
     simp only[bg,decide_true,cond_true,Ab I,qi,h84,g1,hc,decide_false,cond_false]
    |ok v=>
     rw[hL]at g2;simp only[]at g2;have lh:=Y0 (x:=e) (o:=o) (by omega);obtain⟨d,d1,d2⟩:=ih (a+x.length+1) (Ha (o.getD []++[e])) H9 (by omega) (by omega) (by simp;omega) (.inl rfl);refine⟨d,?_,?_⟩
     .rw[km (s':=(Ha (o.getD []++[e]),((a+x.length+1:Nat):Int),H9)),d1];unfold tL
      have hw:qd .i64 ((a:Int)+(qd .i64 ((x.length:Int)+1)))=((a+x.length+1:Nat):Int):=by
       rw[yl (x:=(x.length:Int)+1) (by omega) (by omega),yl (by omega) (by omega)];omega
      simp only[bg,decide_true,cond_true,Ab I,qi,h84,g1,g2.1,lh,hw];rcases hf with rfl|rfl
      .rfl
      .cases fl<;>rfl
     .rw[<-hy]at d2;simp only[En,List.map_append,List.map_cons,List.map_nil,g2.2]at d2;exact d2
theorem PX {s:aj}(G:s.length<=90000):∃t,f17 s=Ha t/\Y5 t (zo s):=by
 obtain⟨d,d1,d2⟩:=jw7 G s.length 0 none Ib (by omega) (by omega) (H3 _) (.inr rfl);refine⟨jrg d,?_,d2⟩;unfold f17;rw[decide_eq_false (show ¬(1000000:Int)<(s.length:Int) by omega),cond_false,show bq (tL s) (none,0,Ib)=_ from d1,qi];rcases d with d|d<;>rfl
end Go.Z
namespace Go.Z
open Go Go.Abs Go.W
theorem jkf {a b:ak Int}{L:List Int}(ha:a.getD []=L)(hb:b.getD []=L)(hl:L.length<=1000000):∀(k i:Nat),i+k=L.length->bq (zX a b) (i:Int)=Ha (.inr (L.length:Int))
 |0,i,hi=>by
  obtain rfl:i=L.length:=by omega
  refine zj ?_;unfold zX;rw[ha];simp only[H4,decide_false,cond_false]
 |k+1,i,hi=>by
  have bg:i<L.length:=by omega
  have I:((i:Int)<(L.length:Int)):=by omega
  have M:qm L (i:Int)=Ha L[i]:=by rw[wR,E6 bg]
  have hw:qd .i64 ((i:Int)+1)=((i+1:Nat):Int):=zd (by omega);rw[km (s':=((i+1:Nat):Int)),jkf ha hb hl k (i+1) (by omega)];unfold zX;rw[ha,hb];simp only[I,decide_true,cond_true,M,qi,hw]
theorem jld {a b:ak Int}(h:a.getD []=b.getD [])(hl:(a.getD []).length<=1000000):f44 a b=Ha H9:=by
 unfold f44;rw[decide_eq_true (by rw[h]),cond_true,show bq (zX a b) 0=_ from jkf (a:=a) (b:=b) rfl h.symm hl _ 0 (If _),qi]
theorem jjw {a b:ak GEv}{L aai:List GEv}(ha:a.getD []=L)(hb:b.getD []=aai)(he:L.map GEv.er=aai.map GEv.er)(hl:L.length<=1000000)(G:∀e∈L,(e.names.getD []).length<=1000000/\(e.values.getD []).length<=1000000):∀(k i:Nat),i+k=L.length->bq (zY a b) (i:Int)=Ha (.inr (L.length:Int))
 |0,i,hi=>by
  obtain rfl:i=L.length:=by omega
  refine zj ?_;unfold zY;rw[ha];simp only[H4,decide_false,cond_false]
 |k+1,i,hi=>by
  have bg:i<L.length:=by omega
  have hlm:L.length=aai.length:=by have:=congrArg Ia he;simpa using this
  have KP:i<aai.length:=by omega
  have I:((i:Int)<(L.length:Int)):=by omega
  have M:qm L (i:Int)=Ha L[i]:=by rw[wR,E6 bg]
  have hy:qm aai (i:Int)=Ha aai[i]:=by rw[wR,E6 KP]
  have hw:qd .i64 ((i:Int)+1)=((i+1:Nat):Int):=zd (by omega)
  have hq:L[i].er=aai[i].er:=by
   have:=congrArg (fun l=>l[i]?) he;simp only[List.getElem?_map,E6 bg,E6 KP,Option.map_some]at this;exact Ha.inj this
  have q1:L[i].number=aai[i].number:=congrArg cf.number hq;have q2:L[i].kind=aai[i].kind:=congrArg cf.kind hq;have q3:L[i].names.getD []=aai[i].names.getD []:=congrArg cf.names hq;have q4:L[i].values.getD []=aai[i].values.getD []:=congrArg cf.values hq;have q5:L[i].text=aai[i].text:=congrArg cf.text hq;have hsm:=G L[i] (List.getElem_mem bg);have e1:=jn4 q3 (by have:=hsm.1;unfold SM;omega);have e2:=jld q4 hsm.2;rw[km (s':=((i+1:Nat):Int)),jjw ha hb he hl G k (i+1) (by omega)];unfold zY;rw[ha,hb];simp only[I,decide_true,cond_true,M,hy,qi,hw,e1,e2,decide_eq_true q1,decide_eq_true q2,decide_eq_true q5]
theorem jle {a b:ak GEv}(he:(a.getD []).map GEv.er=(b.getD []).map GEv.er)(hl:(a.getD []).length<=1000000)(G:∀e∈a.getD [],(e.names.getD []).length<=1000000/\(e.values.getD []).length<=1000000):f11 a b=Ha H9:=by
 have hlm:(a.getD []).length=(b.getD []).length:=by have:=congrArg Ia he;simpa using this
 unfold f11;rw[decide_eq_true (by rw[hlm]),cond_true,show bq (zY a b) 0=_ from jjw (a:=a) (b:=b) rfl rfl he hl G _ 0 (If _),qi]
end Go.Z
namespace Go.Z
open Go Go.Abs Go.W
theorem Y7:∀ l:List cf,l.length<=(ja l).length
 | []=>H3 _
 |e::l=>by
  have:=Y7 l;simp only[ja,Hb,Hc];omega
theorem jyw (s:aj):(zo s).1.length<=s.length:=by
 obtain⟨l,Y,I,h3,t,h4,h5⟩:=Y8 (s:=s) (a:=0) (out:=[]);have zG:(zo s).1=l:=Y;have:=Y7 l;have h6:=congrArg Ia h4;simp only[Hc]at h6;rw[zG];omega
theorem j1f {s:aj}{e:GEv}(G:s.length<=90000)(Y:(e.names.getD []).length<=1000000)(I:(e.values.getD []).length<=1000000)(dF:qz e.er=0->Y3 e/\(zh e.er).length<=900000):
  f16 s e=Ha (if fW [(zo s).2.2,qz e.er,if e.number=((zo s).1.length:Int)+1 then 0 else 11]=0 then(s++zh e.er++[10],0)else([],fW [(zo s).2.2,qz e.er,if e.number=((zo s).1.length:Int)+1 then 0 else 11])):=by
 obtain⟨t,t1,t2,t3,t4⟩:=PX G
 have hl:(t.1.getD []).length=(zo s).1.length:=by rw[<-t2,Ij]
 have Q:=jyw s;unfold f16;rw[t1,qi,J8 (by unfold SM;omega) (by unfold SM;omega),qi,yn,qi,jD (by unfold SM;simp),qi,hl,yl (by omega) (by omega),t4]
 have HM:(if(!decide (e.number=((zo s).1.length:Int)+1))=H9 then(11:Int)else 0)=if e.number=((zo s).1.length:Int)+1 then 0 else 11:=by
  by_cases h:e.number=((zo s).1.length:Int)+1<;>simp[h]
 rw[HM];by_cases hc:fW [(zo s).2.2,qz e.er,if e.number=((zo s).1.length:Int)+1 then 0 else 11]=0
 .rw[decide_eq_true hc,cond_true,if_pos hc]
  have hk:qz e.er=0:=by
   by_cases h:qz e.er=0
   .exact h
   .exfalso;simp only[fW]at hc;split at hc<;>simp_all
  obtain⟨g,hg⟩:=dF hk;rw[jjx g.num g.vals g.l1 g.l2 (by have:=g.lb;omega),qi,pB (by simp only[Hc,Ic];omega),qi,decide_eq_false (by simp only[Hc,Ic];omega),cond_false,<-List.append_assoc]
 .rw[decide_eq_false hc,cond_false,if_neg hc]
end Go.Z
end
