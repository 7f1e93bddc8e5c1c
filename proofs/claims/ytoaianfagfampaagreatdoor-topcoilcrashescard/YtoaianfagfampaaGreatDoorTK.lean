/- Sessions, plain. -/
import Derived.Test.YtoaianfagfampaaGreatDoorTL
set_option linter.all false
set_option maxRecDepth 100000
set_option maxHeartbeats 4000000
noncomputable section
open Bool renaming false->Eb,true->En,and_eq_true->Hf
open Option renaming some->Eg,none->G1,map_some->Hg
open List renaming length_map->Eh,length_append->Ep,getElem?_eq_getElem->E3,take_of_length_le->E4,getElem?_map->E8,getElem?_append_right->E9,length->G0,map_append->G5,length_cons->G7,not_mem_nil->G8,length_take->Ha,take_left->Hb,dropLast_concat->Hc,append_assoc->He,map_take->Hk
open Nat renaming le_refl->G4,sub_self->Hd
namespace Go.Z
open Go Go.Abs Go.W
def zO (n:Nat):aj:=[100,111,110,101,32]++Lib.decDigits n
section
variable {es:ak GEv}{o:Option HV}{h:zz}(j:aag es o h)
include j
theorem Ok {e:GEv}(hc:jb e.er=0)(hn:(es.getD []).length<1000)(Kb:e.number=((es.getD []).length:Int)+1):∃q,mR o (nE e.er)=Eg (match Go.W.accept (qf .i64) h (((es.getD []).length:Int)+1) e.er with
  | .ok _=>zO ((es.getD []).length+1)
  | .error _=>[],match Go.W.accept (qf .i64) h (((es.getD []).length:Int)+1) e.er with
  | .ok _=>0
  | .error y=>y,q)/\(match Go.W.accept (qf .i64) h (((es.getD []).length:Int)+1) e.er with
  | .ok h'=>aag (Eg (es.getD []++[e])) q h'
  | .error y=>y≠0/\aag es q h):=by
 have hb:=V8 hc;rw[q6q,Ep,G7]at hb;have hsh:=Gt hc;have hw:=jg5 hc;unfold mR
 rw[yh,qk,yh,qk,uZ,qk,decide_eq_false (show ¬4096<((nE e.er).length:Int) by omega),decide_eq_false (jv6 hc),show f19 (nE e.er) [32]=Eg (Eg (eR 32 (nE e.er)))from VC (by omega),jou hc,
  show decide (hZ [if Eb=En then(27:Int)else 0,if Eb=En then 26 else 0]=0)=En from rfl,cond_true,qk,
  show qo ((Eg (pg e.er)).getD []) 0=Eg e.er.kind from rfl,qk,jga (q44 hc)]
 simp only[];rw[q44 hc,cond_true]
 have hN:qf .i64 (((fK o).length:Int)+1)=(((es.getD []).length+1:Nat):Int):=by
  rw[j.xa,zc (by omega)]
 have qX:qf .i64 (((es.getD []).length:Int)+1)=(((es.getD []).length+1:Nat):Int):=by rw[zc (by omega)]
 obtain⟨e',b',p3,p4⟩:=jgx (O:=Eg (pg e.er)) (k:=e.er.kind) (r:=e.er.names++e.er.values.map Lib.itoa) (n:=(((es.getD []).length+1:Nat):Int)) rfl (by omega)
 have hwo:rz (e.er.kind::(e.er.names++e.er.values.map Lib.itoa)) (((es.getD []).length+1:Nat):Int)=Eg e.er:=by
  have:=q2t hc;rw[show e.er.number=(((es.getD []).length+1:Nat):Int) by show e.number=_;rw[Kb];omega]at this;exact this
 rw[hwo]at p4;simp only[]at p4;obtain⟨rfl,p4⟩:=p4;have V9:gB e:=⟨by have:=hsh.n;unfold SM;omega,by have:=hsh.v;unfold SM;omega⟩
 have Wa:gB e':=by
  have Y:e'.names.getD []=e.names.getD []:=congrArg cf.names p4;have I:e'.values.getD []=e.values.getD []:=congrArg cf.values p4;exact⟨by rw[Y];exact V9.1,by rw[I];exact V9.2⟩
 have Kc:e'.number=(((es.getD []).length+1:Nat):Int):=by
  have:e'.number=e.number:=congrArg cf.number p4;rw[this,Kb];omega
 simp only[j.xa,qX];rw[p3,qk,yh,qk,yh,qk,uZ,qk,decide_eq_false (show ¬1000<=((es.getD []).length:Int) by omega)];show ∃q,cond (decide ((0:Int)=0)) _ _=_/\_;rw[decide_eq_true rfl,cond_true,Nr Wa.1 Wa.2,p4,hc,qk,decide_eq_true rfl,cond_true];obtain⟨c,s',J,a2⟩:=jaj j.rel j.ok j.hb (by unfold BB;omega) (e:=e') (by rw[p4];exact hc);rw[p4]at a2
 cases ha:Go.W.accept (qf .i64) h (((es.getD []).length:Int)+1) e.er with
 |ok h'=>
  rw[ha]at a2;obtain⟨rfl,a4⟩:=a2;rw[J,qk,decide_eq_true rfl,cond_true,Kc,JN (by omega),qk,vh (by have:=Wb (m:=(es.getD []).length+1) (by omega);simp only[G7,List.length_nil];omega),qk];exact⟨_,rfl,j.next Wa V9 p4 (by rw[p4];exact hc) hn J rfl a4 (by rw[p4];exact ha)⟩
 |error y=>
  rw[ha]at a2;obtain⟨rfl,a3,a4⟩:=a2;rw[J,qk,decide_eq_false a3,cond_false];exact⟨_,rfl,a3,j.same J a3 a4⟩
end
end Go.Z
namespace Go.Z
open Go Go.Abs Go.W
def LN (n:Nat):qi:=[kP (n+2),kP (n+2),.vec 4 0 [aZ]]
theorem jm2 {H:qi}:ai aB (X aB) 7 [] H=Eg (.ptr H.length 0,Eb,H++LN H.length):=by
 have w:=aF.ai (jm1 (H:=H++[.hole]));rw[show(H++[bG.hole]).length+1=H.length+2 by rw[Ep];rfl]at w
 have wa:qp (H.length+1) (.agg [Nl,Nl,.az (H.length+2) 0 1]) (H++[.hole,kP (H.length+2),.vec 4 0 [aZ]])=H++[.hole,kP (H.length+2),.vec 4 0 [aZ]]:=by
  refine Gq ?_;simp only[Abs.below,qt,Bool.and_false,Bool.false_and];simp only[Bool.true_and,Bool.and_true];rw[Bool.eq_false_iff];intro h;have:=Nat.ble_eq.mp h;omega
 rw[qh (show aB.bn 7=Eg c7 from rfl) (by simp)];simp only[go_sem,seval,c7,w,wa,LN,Ep,Nat.add_zero,kz,ky,ph,rB,yc,lQ,ke,lR,He]<;>rfl
def SS.new (H:qi):SS:=⟨H++LN H.length,H.length,0,0,H.length+2,G1⟩
theorem SS.tr {H:qi}(hB:qr H.length H=En):(SS.new H).ok:=by
 have hb:qr (H++LN H.length).length (H++LN H.length)=En:=by
  refine grown hB ?_;rw[Ep];simp[LN,qr,ze,zn,qP];rfl
 have D:D2 (H++LN H.length) H.length (H.length+2):=by
  constructor<;>first|omega|(rw[Ep];simp[LN])
 exact(⟨D,lQ _,(yc _ 2),hb⟩:eM (H++LN H.length) H.length (H.length+2))
end Go.Z
namespace Go.Z
open Go Go.Abs Go.W
def gu:List GEv:=[⟨1,[108,111,116],Eg [[99,111,110,101,95,49],[99,111,110,101]],Eg [1,2],[]⟩,⟨2,[112,114,111,100,117,99,116],Eg [[98,111,120]],Eg [1],[]⟩,⟨3,[110,101,101,100],Eg [[98,111,120],[99,111,110,101]],Eg [1,1],[]⟩,⟨4,[116,101,115,116],Eg [[98,111,120],[115,119,101,101,112]],Eg [1,78,90],[]⟩,⟨5,[105,115,115,117,101],Eg [[98,111,120]],Eg [1],[]⟩,⟨6,[98,117,105,108,100],Eg [[117,49],[98,111,120]],Eg [1],[]⟩,⟨7,[117,115,101],Eg [[117,49],[99,111,110,101,95,49]],Eg [1,1],[]⟩,⟨8,[109,101,97,115,117,114,101],Eg [[117,49],[115,119,101,101,112]],Eg [1,91],[]⟩,⟨9,[109,101,97,115,117,114,101],Eg [[117,49],[115,119,101,101,112]],Eg [1,90],[]⟩,⟨10,[115,104,105,112],Eg [[117,49]],Eg [1],[]⟩]
def kL:GEv:=⟨9,[115,104,105,112],Eg [[117,49]],Eg [1],[]⟩
def zP:List (aj×aj×Int):=[([108,111,116,32,99,111,110,101,95,49,32,99,111,110,101,32,49,32,50],[100,111,110,101,32,49],0),([112,114,111,100,117,99,116,32,98,111,120,32,49],[100,111,110,101,32,50],0),([110,101,101,100,32,98,111,120,32,99,111,110,101,32,49,32,49],[100,111,110,101,32,51],0),([116,101,115,116,32,98,111,120,32,115,119,101,101,112,32,49,32,55,56,32,57,48],[100,111,110,101,32,52],0),([105,115,115,117,101,32,98,111,120,32,49],[100,111,110,101,32,53],0),([98,117,105,108,100,32,117,49,32,98,111,120,32,49],[100,111,110,101,32,54],0),([117,115,101,32,117,49,32,99,111,110,101,95,49,32,49,32,49],[100,111,110,101,32,55],0),([109,101,97,115,117,114,101,32,117,49,32,115,119,101,101,112,32,49,32,57,49],[100,111,110,101,32,56],0),([115,104,105,112,32,117,49,32,49],[],31),([109,101,97,115,117,114,101,32,117,49,32,115,119,101,101,112,32,49,32,57,48],[100,111,110,101,32,57],0),([115,104,105,112,32,117,49,32,49],[100,111,110,101,32,49,48],0),([117,110,105,116,115,32,99,111,110,101,95,49],[117,49],0),([115,116,111,99,107,32,99,111,110,101],[49],0)]
def Cu:Option HV->List (aj×aj×Int)->Option HV->Prop
 |o,[],q=>o=q|o,x::l,q=>∃o',mR o x.1=Eg (x.2.1,x.2.2,o')/\Cu o' l q
theorem aag.new:aag G1 G1 ([],[ku]):=⟨rfl,⟨rfl,rfl⟩,ic.empty,HB.empty,rfl,fun _ h=>absurd h (G8),fun _ h=>absurd h (G8)⟩
theorem jmd:(match run (qf .i64) (gu.map GEv.er)with
 | .ok h=>decide (vm (now h) Ke [[99,111,110,101,95,49]]=([117,49],0))&&Go.W.b6 [99,111,110,101]&&Nat.beq (BH (now h) [99,111,110,101]).toNat 1
 |_=>Eb)=En:=by decide +kernel
theorem jgp:(match run (qf .i64) ((gu.take 8).map GEv.er)with
 | .ok h=>(match Go.W.accept (qf .i64) h 9 kL.er with
  | .error c=>decide (c=31)
  |_=>Eb)
 |_=>Eb)=En:=by decide +kernel
def Kf:Nat->List GEv->List (aj×aj×Int)
 |_,[]=>[]|n,e::E=>(nE e.er,zO (n+1),0)::Kf (n+1) E
theorem Wc {L:List GEv}{hL:zz}(Q:run (qf .i64) (L.map GEv.er)=.ok hL)(hn:L.length<=1000):∀(E:List GEv) (es:ak GEv) (o:Option HV) (h:zz),es.getD []++E=L->aag es o h ->
  ∃q iM,Cu o (Kf (es.getD []).length E) q/\iM.getD []=L/\aag iM q hL
 | [],es,o,h,hE,j=>by
  rw[List.append_nil]at hE
  have hh:h=hL:=by
   have:=j.run;rw[hE,Q]at this;exact(Except.ok.inj this).symm
  subst hh;exact⟨o,es,rfl,hE,j⟩
 |e::E,es,o,h,hE,j=>by
  have hlen:(es.getD []).length<L.length:=by rw[<-hE,Ep,G7];omega
  have M:(L.map GEv.er)[(es.getD []).length]?=Eg e.er:=by
   rw[E8,<-hE,E9 (G4 _),Hd];rfl
  have Wd:run (qf .i64) ((L.map GEv.er).take (es.getD []).length)=.ok h:=by
   rw[<-Hk,<-hE,Hb];exact j.run
  obtain⟨c1,c2,I,ig,tu⟩:=HC Q M Wd;obtain⟨q,d1,d2⟩:=Ok j c1 (by omega) c2;rw[ig]at d1 d2;obtain⟨q2,iM,e1,e2,e3⟩:=Wc Q hn E (Eg (es.getD []++[e])) q I (by show es.getD []++[e]++E=L;rw[He];exact hE) d2;refine⟨q2,iM,⟨q,d1,?_⟩,e2,e3⟩
  have:((Eg (es.getD []++[e])).getD []).length=(es.getD []).length+1:=by show(es.getD []++[e]).length=_;rw[Ep];rfl
  rw[this]at e1;exact e1
theorem Wf:∀ {l m:List (aj×aj×Int)} {o q r:Option HV},Cu o l q->Cu q m r->Cu o (l++m) r
 | [],_,_,_,_,Y,I=>by
  cases Y;exact I
 |_::_,_,_,_,_,⟨o',Y,I⟩,h3=>⟨o',Y,Wf I h3⟩
theorem jfq:zP=Kf 0 (gu.take 8)++(nE kL.er,[],31)::(Kf 8 (gu.drop 8)++[([117,110,105,116,115,32,99,111,110,101,95,49],[117,49],0),([115,116,111,99,107,32,99,111,110,101],[49],0)]):=by
 simp[zP,gu,kL,Kf,nE,pg,GEv.er,zO,Lib.itoa,Lib.decDigits,Lib.join,Lib.joinTail]
theorem jo2:∃ q,Cu G1 zP q:=by
 have k:=jmd;have k8:=jgp
 cases Q:run (qf .i64) (gu.map GEv.er)with
 |error x=>rw[Q]at k;cases k
 |ok ep=>
 cases Wg:run (qf .i64) ((gu.take 8).map GEv.er)with
 |error x=>rw[Wg]at k8;cases k8
 |ok h8=>
 rw[Q]at k;rw[Wg]at k8;dsimp only at k8;simp only[Hf,decide_eq_true_eq]at k;obtain⟨⟨k1,k2⟩,k3⟩:=k;have k3:=Nat.eq_of_beq_eq_true k3
 have G:Go.W.accept (qf .i64) h8 9 kL.er=.error 31:=by
  cases ha:Go.W.accept (qf .i64) h8 9 kL.er with
  |ok x=>rw[ha]at k8;cases k8|error c=>rw[ha]at k8;rw[of_decide_eq_true k8]
 obtain⟨o8,es8,s1,e1,j1⟩:=Wc Wg (by decide) (gu.take 8) G1 G1 _ rfl aag.new
 have Wh:(es8.getD []).length=8:=by rw[e1];rfl
 obtain⟨q8,d1,d2⟩:=Ok j1 (e:=kL) (by decide) (by omega) (by rw[Wh];rfl);rw[Wh,show(((8:Nat):Int)+1)=9 from rfl,G]at d1 d2;obtain⟨Wi,es10,s2,e2,j2⟩:=Wc Q (by decide) (gu.drop 8) es8 q8 h8 (by rw[e1];rfl) d2.2;rw[Wh]at s2;have hu:=Wj j2 (line:=[117,110,105,116,115,32,99,111,110,101,95,49]) (w:=Ke) (t:=[[99,111,110,101,95,49]]) (q:=(Ke,108,51)) (by decide) (by decide) (by decide +kernel) (by decide);have hv:=Wj j2 (line:=[115,116,111,99,107,32,99,111,110,101]) (w:=Cv) (t:=[[99,111,110,101]]) (q:=(Cv,107,55)) (by decide) (by decide) (by decide +kernel) (by decide);rw[k1]at hu
 have cq:vm (now ep) Cv [[99,111,110,101]]=([49],0):=by
  unfold vm;rw[if_neg (by decide)];simp only[];rw[if_neg (by decide)];unfold mU;rw[if_neg (by decide),if_neg (by decide),if_neg (by decide),if_pos rfl,if_pos k2,k3];simp[Lib.decDigits]
 rw[cq]at hv;refine⟨Wi,?_⟩;rw[jfq];refine Wf s1 ⟨q8,d1,Wf s2 ⟨Wi,hu,Wi,hv,rfl⟩⟩
end Go.Z
namespace Go.Z
open Go Go.Abs Go.W
def fT:List aj:=[[115,104,105,112,112,101,100],[104,101,108,100],[108,111,116,115,32,117,49],[109,105,115,115,105,110,103,32,117,49],[117,110,105,116,115,32,99,111,110,101,95,49],[115,116,111,99,107,32,99,111,110,101],[118,101,114,115,105,111,110,32,98,111,120]]
theorem jfz {S:bX}{w n:aj}(h:w≠Cv\/Go.W.b6 n=En):(mU S w n).2=0\/(mU S w n).2=10:=by
 unfold mU;split
 .cases zk S n with
  |none=>exact .inr rfl
  |some k=>
   dsimp only
   cases S.units[k]? with
   |none=>exact .inr rfl|some u=>exact .inl rfl
 .split
  .cases zx S n with
   |none=>exact .inr rfl|some k=>exact .inl rfl
  .split
   .cases zk S n with
    |none=>exact .inr rfl
    |some k=>
     dsimp only
     cases S.units[k]? with
     |none=>exact .inr rfl
     |some u=>
      dsimp only
      cases gp S u with
      |none=>exact .inr rfl|some d=>exact .inl rfl
   .split
    .rename_i hw;rcases h with h|h
     .exact absurd hw h
     .rw[if_pos h];exact .inl rfl
    .cases zr S n with
     |none=>exact .inr rfl
     |some k=>
      dsimp only
      cases S.ah[k]? with
      |none=>exact .inr rfl|some p=>exact .inl rfl
theorem jpm:∀ x∈fT,∃w t q,eR 32 x=w::t/\lA w=Eg q/\x≠[]/\x.length<=4096/\((w=vn\/w=Cw)/\t=[]\/¬(w=vn\/w=Cw)/\∃n,t=[n]/\n≠[]/\(w≠Cv\/Go.W.b6 n=En)):=by
 intro x M;simp only[fT,List.mem_cons,G8,or_false]at M;rcases M with rfl|rfl|rfl|rfl|rfl|rfl|rfl
 .exact⟨[115,104,105,112,112,101,100],[],_,by decide +kernel,rfl,by decide,by decide,.inl ⟨by decide,rfl⟩⟩
 .exact⟨[104,101,108,100],[],_,by decide +kernel,rfl,by decide,by decide,.inl ⟨by decide,rfl⟩⟩
 .exact⟨[108,111,116,115],[[117,49]],_,by decide +kernel,rfl,by decide,by decide,.inr ⟨by decide,_,rfl,by decide,.inl (by decide)⟩⟩
 .exact⟨[109,105,115,115,105,110,103],[[117,49]],_,by decide +kernel,rfl,by decide,by decide,.inr ⟨by decide,_,rfl,by decide,.inl (by decide)⟩⟩
 .exact⟨[117,110,105,116,115],[[99,111,110,101,95,49]],_,by decide +kernel,rfl,by decide,by decide,.inr ⟨by decide,_,rfl,by decide,.inl (by decide)⟩⟩
 .exact⟨[115,116,111,99,107],[[99,111,110,101]],_,by decide +kernel,rfl,by decide,by decide,.inr ⟨by decide,_,rfl,by decide,.inr (by decide)⟩⟩
 .exact⟨[118,101,114,115,105,111,110],[[98,111,120]],_,by decide +kernel,rfl,by decide,by decide,.inr ⟨by decide,_,rfl,by decide,.inl (by decide)⟩⟩
section
variable {es:ak GEv}{o:Option HV}{h:zz}(j:aag es o h)
include j
theorem jr7 {x:aj}(M:x∈fT):∃t c,mR o x=Eg (t,c,o)/\(c=0\/c=10):=by
 obtain⟨w,t,q,Y,I,h3,h4,h5⟩:=jpm x M;refine⟨_,_,Wj j h4 h3 Y I,?_⟩;rcases h5 with⟨k1,rfl⟩|⟨k1,n,rfl,k2,k3⟩
 .unfold vm;rw[if_pos k1];exact .inl rfl
 .unfold vm;rw[if_neg k1];simp only[];rw[if_neg k2];exact jfz k3
theorem Ol:Cs o=Eg (zj ((es.getD []).map GEv.er)):=by
 have Y:=j.xa;have I:=j.len.1;rw[jpl (by omega) j.Wk,j.ev]
theorem jjf {l:ak GEv}(hb:∀e∈l.getD [],gB e)(hl:(l.getD []).map GEv.er=(es.getD []).map GEv.er):∃r,f13 l=Eg (r,0,0)/\r.er=now h:=by
 obtain⟨r,Y,I⟩:=jfs hb;rw[hl,j.run]at I;have a:=congrArg (fun x=>x.1) I;have b:=congrArg (fun x=>x.2) I;refine⟨r.1,?_,a⟩;rw[Y];exact congrArg Eg (Prod.ext rfl b)
end
def Kg (n:Nat):GEv:=⟨(n:Int)+1,[117,110,100,111],G1,G1,[]⟩
theorem jkq {n:Nat}:nE (Kg n).er=[117,110,100,111]:=rfl
theorem jkc {L:List cf}{x:cf}{hL:zz}(Q:run (qf .i64) (L++[x])=.ok hL)(hk:x.kind≠jI):∃Y r,run (qf .i64) L=.ok Y/\hL=(Y.1++[x],Y.2++[r]):=by
 obtain⟨Y,g1⟩:=EU Q L.length;rw[Hb]at g1;obtain⟨_,_,I,ig,tu⟩:=HC (i:=L.length) Q (e:=x) (by rw[E9 (G4 _),Hd];rfl) (by rw[Hb];exact g1);rw[E4 (by rw[Ep];simp),Q]at tu;have e:hL=I:=Except.ok.inj tu;subst e;unfold Go.W.accept at ig;split at ig
 .cases ig
 .split at ig
  .cases ig
  .rename_i r _;exact⟨Y,r,g1,(Except.ok.inj ig).symm⟩
theorem jfk {es:ak GEv}{o:Option HV}{hL:zz}{L:List GEv}{x:GEv}(j:aag es o hL)(xU:es.getD []=L++[x])(hn:L.length<900)(hk:x.kind≠jI):
  ∃Y,run (qf .i64) (L.map GEv.er)=.ok Y/\((x.kind=iJ/\∃q,mR o [117,110,100,111]=Eg ([],19,q)/\aag es q hL)\/(x.kind≠iJ/\∃q t,mR o [117,110,100,111]=Eg (t,0,q)/\aag (Eg (es.getD []++[Kg (L.length+1)])) q Y)):=by
 have Q:=j.run;rw[xU,G5]at Q;obtain⟨Y,r,g1,g2⟩:=jkc Q hk;refine⟨Y,g1,?_⟩
 have hlen:(es.getD []).length=L.length+1:=by rw[xU,Ep];rfl
 obtain⟨q,d1,d2⟩:=Ok j (e:=Kg (L.length+1)) (jbr (k:=((L.length+1:Nat):Int)+1) (by omega) (by omega)) (by omega) (by rw[hlen];rfl);rw[jkq,hlen]at d1;rw[hlen]at d2
 have ha:Go.W.accept (qf .i64) hL (((L.length+1:Nat):Int)+1) (Kg (L.length+1)).er=if x.kind=iJ then .error 19 else .ok Y:=by
  unfold Go.W.accept;rw[if_neg (fun h=>h rfl),if_pos (show(Kg (L.length+1)).er.kind=jI from rfl),g2];simp only[List.getLast?_append,List.getLast?_singleton,Option.some_or];show(if x.kind=iJ then _ else _)=_;rw[Hc,Hc]
 rw[ha]at d1 d2;by_cases G:x.kind=iJ
 .rw[if_pos G]at d1 d2;exact .inl ⟨G,q,d1,d2.2⟩
 .rw[if_neg G]at d1 d2;exact .inr ⟨G,q,_,d1,d2⟩
end Go.Z
namespace Go.Z
open Go Go.Abs Go.W
def sD (L:List (aj×aj×Int))(x:SS×Int):Option ((SS×Int)⊕(SS×Int)):=
 cond (decide (x.2<(L.length:Int)))
  (cond (J9 x.1)
   (qc (qo L x.2) fun e=>
   qc (mR x.1.v e.1) fun d=>
   cond (decide ((d.1,d.2.1)=e.2)) (Eg (.inl (x.1.next d.2.2,qf .i64 (x.2+1)))) G1)
   G1)
  (Eg (.inr x))
theorem Wl {S:SS}(hS:S.ok){line q}(h:mR S.v line=Eg q):(S.next q.2.2).ok/\(S.next q.2.2).v=q.2.2/\(S.next q.2.2).p=S.p:=by
 obtain⟨hh,_,_,k1,k2,k3⟩:=Cr hS h;exact⟨k1,k2,k3⟩
theorem jgk {L:List (aj×aj×Int)}(hl:L.length<=1000):∀(k i:Nat) (S:SS) (q:Option HV),i+k=L.length->S.ok->Cu S.v (L.drop i) q->∃T,bu (sD L) (S,(i:Int))=Eg (T,(L.length:Int))/\T.ok/\T.p=S.p
 |0,i,S,q,hk,hS,_=>by
  obtain rfl:i=L.length:=by omega
  exact⟨S,zf (by unfold sD;dsimp only;rw[z4];rfl),hS,rfl⟩
 |k+1,i,S,q,hk,hS,G=>by
  have bh:i<L.length:=by omega
  have M:L[i]?=Eg L[i]:=E3 bh;rw[List.drop_eq_getElem_cons bh]at G;generalize hH:L[i]=x at M G;obtain⟨o',d1,d2⟩:=G;obtain⟨k1,k2,k3⟩:=Wl hS d1;have k2:(S.next o').v=o':=k2;obtain⟨T,t1,t2,t3⟩:=jgk hl k (i+1) (S.next o') q (by omega) k1 (by rw[k2];exact d2);refine⟨T,?_,t2,t3.trans k3⟩;rw[kc (show sD L (S,(i:Int))=Eg (.inl (S.next o',((i+1:Nat):Int)))from ?_)]
  .exact t1
  .unfold sD;dsimp only;rw[yp bh,cond_true,Gr.2 hS,cond_true,ja M,qk,d1,qk,decide_eq_true (show(x.2.1,x.2.2)=x.2 from rfl),cond_true,zc (by omega)]
end Go.Z
namespace Go.Z
open Go Go.Abs Go.W
def Gu (x:aj×aj×Int):AVal:=.agg [.str x.1,.str x.2.1,Iv x.2.2]
@[go_sem] theorem j3y {x}:(Gu x).flat=[.str x.1,.str x.2.1,Iv x.2.2]:=rfl
@[go_sem] theorem j2e {x}:AVal.aq (Gu x)=.aq (.agg [.str x.1,.str x.2.1,Iv x.2.2]):=rfl
abbrev Om:=aj×aj×Int
def Oo (L:List Om)(x:SS×Int):bj:=⟨[(3,.ptr x.1.p 0,Eb),(61,sl 3 Gu (Eg L),En),(62,Iv (L.length:Int),Eb),(63,Iv x.2,Eb)],x.1.H⟩
def Oq (L:List Om)(x:SS×Int):jc×bj:=(.exit 0,⟨[(3,.ptr x.1.p 0,Eb),(61,sl 3 Gu (Eg L),En),(62,Iv (L.length:Int),Eb),(63,Iv x.2,Eb),(64,.bool Eb,Eb)],x.1.H⟩)
theorem j8v (L:List Om)(x:SS×Int)(r)(h:sD L x=Eg r):js aB Kh (Oo L) (Oq L) x r:=by
 obtain⟨S,i⟩:=x;unfold sD at h;rcases qe h with⟨Y,h⟩|⟨Y,h⟩
 .rcases qe h with⟨hk,h⟩|⟨_,h⟩
  .have hS:S.ok:=Gr.1 hk;obtain⟨e,I,h⟩:=qd h;obtain⟨d,h4,h⟩:=qd h;rcases qe h with⟨h6,h⟩|⟨h6,h⟩
   .cases h;have h6:=of_decide_eq_true h6;obtain⟨t,c,q⟩:=d;obtain⟨l,rt,rc⟩:=e;cases h6;obtain⟨hh,w5,wa,k1,k2,k3⟩:=Cr hS h4;have I:qo ((Eg L:ak Om).getD []) i=Eg (l,t,c):=I;have e1:decide (t=t)=En:=decide_eq_true rfl;have e2:decide (c=c)=En:=decide_eq_true rfl;exact z7 (bN:=Oo L (S.next q,qf .i64 (i+1))) (by simp only[go_sem,seval,Kh,Oo,Y,jg I,w5,wa,k3,e1,e2]<;>rfl) (Oj hS q)
   .cases h
  .cases h
 .cases h;exact qw (by simp only[go_sem,seval,Kh,Oo,Y,Oq]<;>rfl)
def jfu:AVal:=.list Eb 2 [.agg [.str [97],.list Eb 1 [.int .i64 80]],.agg [.str [98],.list Eb 1 [.int .i64 88]]]
theorem jho:ae pr (lm pr 1000) 14 [jfu,.int .i64 2]=Eg (.bq [.agg [.list Eb 1 [.int .i64 78],.list Eb 1 [.int .i64 90]],.int .i64 0],Eb):=by kernel_rfl
theorem zaq:ae aB (X aB) 14 [jfu,.int .i64 2]=Eg (.bq [.agg [.list Eb 1 [.int .i64 78],.list Eb 1 [.int .i64 90]],.int .i64 0],Eb):=aF.ae (IB (nX 1000) (jgi jho))
theorem W5:ae aB (X aB) 5 []=Eg (.bool En,Eb):=by
 suffices this:∃hh,ai aB (X aB) 5 [] []=Eg (.bool En,Eb,hh) by
  obtain⟨hh,this⟩:=this;exact jo rfl this (by first|rfl|simp only[go_sem,seval]) (by first|rfl|simp only[go_sem,seval])
 obtain⟨q,hq⟩:=jo2;have hS:(SS.new []).ok:=SS.tr rfl;obtain⟨T,t1,t2,t3⟩:=jgk (L:=zP) (by decide) 13 0 (SS.new []) q rfl hS hq;have wl:=zq (j8v zP) t1;have wN:=jm2 (H:=[]);have wa:qp 0 (.ptr 0 0) (SS.new []).H=(SS.new []).H:=Gq rfl;have w14:ae aB (X aB) 14 [.list Eb 2 [.agg [.str [97],.list Eb 1 [.int .i64 80]],.agg [.str [98],.list Eb 1 [.int .i64 88]]],.int .i64 2]=Eg (.bq [.agg [sl 1 zg (Eg [78]),sl 1 zg (Eg [90])],Iv 0],Eb):=zaq;have x1:qo ((Eg [(78:Int)]).getD []) 0=Eg 78:=rfl;have x2:qo ((Eg [(90:Int)]).getD []) 0=Eg 90:=rfl;have y1:decide ((((Eg [(78:Int)]).getD []).length:Int)=1)=En:=rfl;have y2:decide ((((Eg [(90:Int)]).getD []).length:Int)=1)=En:=rfl;have y3:decide ((78:Int)=78)=En:=rfl;have y4:decide ((90:Int)=90)=En:=rfl;rw[qh (show aB.bn 5=Eg c5 from rfl) (by simp)];have wl:X aB (.loop Kh) ⟨[(3,.ptr 0 0,Eb),(61,sl 3 Gu (Eg zP),En),(62,Iv 13,Eb),(63,Iv 0,Eb)],(SS.new []).H⟩=Eg (Oq zP (T,13)):=wl;have wN:ai aB (X aB) 7 [] []=Eg (.ptr 0 0,Eb,(SS.new []).H):=wN;generalize (SS.new []).H=H at wl wN wa;simp only[sl,zP,List.map_cons,List.map_nil,Gu]at wl;simp only[go_sem,seval,c5,w14,jg x1,jg x2,y1,y2,y3,y4,wN,wa,wl,Oq];exact⟨_,rfl⟩
end Go.Z
namespace Go.Z
open Go Go.Abs Go.W
abbrev gR:=ak aj×Bool
section
variable (O:ak GEv)(J:Int)
def Gv (x:SS×gR×Int):Option ((SS×gR×Int)⊕(SS×gR×Int)):=
 cond (decide (x.2.2<((O.getD []).length:Int)))
  (cond (J9 x.1)
   (qc (qo (O.getD []) x.2.2) fun e=>
   qc (f9 e) fun t=>
   qc (mR x.1.v t) fun d=>
   cond (decide (d.2.1=0))
    (cond x.2.1.2
     (qc (bB x.2.1.1 [d.1]) fun v=>Eg (.inl (x.1.next d.2.2,(v,En),qf .i64 (x.2.2+1))))
     (cond x.2.1.1.isNone
      (qc (bB x.2.1.1 [d.1]) fun v=>Eg (.inl (x.1.next d.2.2,(v,En),qf .i64 (x.2.2+1))))
      G1))
    G1)
   G1)
  (Eg (.inr x))
def Gw (x:SS×gR×Int):bj:=⟨[(0,sl 5 vev O,Eb),(1,.int .u16 J,Eb),(8,.ptr x.1.p 0,Eb),(9,sl 1 jf x.2.1.1,x.2.1.2),(62,sl 5 vev O,Eb),(63,Lv O,Eb),(64,Iv x.2.2,Eb)],x.1.H⟩
def Wm (x:SS×gR×Int):jc×bj:=(.exit 0,⟨[(0,sl 5 vev O,Eb),(1,.int .u16 J,Eb),(8,.ptr x.1.p 0,Eb),(9,sl 1 jf x.2.1.1,x.2.1.2),(62,sl 5 vev O,Eb),(63,Lv O,Eb),(64,Iv x.2.2,Eb),(65,.bool Eb,Eb)],x.1.H⟩)
theorem zbc (x:SS×gR×Int)(r)(h:Gv O x=Eg r):js aB Cx (Gw O J) (Wm O J) x r:=by
 obtain⟨S,R,i⟩:=x;unfold Gv at h;rcases qe h with⟨Y,h⟩|⟨Y,h⟩
 .rcases qe h with⟨hk,h⟩|⟨_,h⟩
  .have hS:S.ok:=Gr.1 hk;obtain⟨e,I,h⟩:=qd h;obtain⟨t,h3,h⟩:=qd h;obtain⟨d,h4,h⟩:=qd h;have w3:=jtd h3;obtain⟨hh,w5,wa,k1,k2,k3⟩:=Cr hS h4;rcases qe h with⟨h6,h⟩|⟨h6,h⟩
   .rcases qe h with⟨h7,h⟩|⟨h7,h⟩
    .obtain⟨v,h8,h⟩:=qd h;cases h;have h7:R.2=En:=h7;exact z7 (bN:=Gw O J (S.next d.2.2,(v,En),qf .i64 (i+1))) (by simp only[go_sem,seval,Cx,Gw,Y,jg I,w3,w5,wa,k3,h6,h7,T2 h8]<;>rfl) (Oj hS d.2.2)
    .rcases qe h with⟨h9,h⟩|⟨h9,h⟩
     .obtain⟨v,h8,h⟩:=qd h;cases h;have h7:R.2=Eb:=h7;exact z7 (bN:=Gw O J (S.next d.2.2,(v,En),qf .i64 (i+1))) (by simp only[go_sem,seval,Cx,Gw,Y,jg I,w3,w5,wa,k3,h6,h7,qzw h8 h9]<;>rfl) (Oj hS d.2.2)
     .cases h
   .cases h
  .cases h
 .cases h;exact qw (by simp only[go_sem,seval,Cx,Gw,Y,Wm]<;>rfl)
def Ki (ls:List aj)(i:Int):Option (Int⊕Int):=
 cond (decide (i<(ls.length:Int))) (qc (qo ls i) fun _=>Eg (.inl (qf .i64 (i+1)))) (Eg (.inr i))
def Cy (R:gR)(log eF:aj)(p q:Nat)(n:Int)(H:qi)(ls:List aj)(i:Int):bj:=⟨[(0,sl 5 vev O,Eb),(8,.ptr q 0,Eb),(9,sl 1 jf R.1,R.2),(14,.str log,Eb),(15,.ptr p 0,Eb),(17,Iv n,Eb),(18,.str eF,Eb),(120,sl 1 jf (Eg ls),En),(121,Iv (ls.length:Int),Eb),(122,Iv i,Eb)],H⟩
def Wn (R:gR)(log eF:aj)(p q:Nat)(n:Int)(H:qi)(ls:List aj)(i:Int):jc×bj:=(.exit 2,⟨[(0,sl 5 vev O,Eb),(8,.ptr q 0,Eb),(9,sl 1 jf R.1,R.2),(14,.str log,Eb),(15,.ptr p 0,Eb),(17,Iv n,Eb),(18,.str eF,Eb),(120,sl 1 jf (Eg ls),En),(121,Iv (ls.length:Int),Eb),(122,Iv i,Eb),(123,.bool Eb,Eb)],H⟩)
theorem j53 (R:gR)(log eF:aj)(q:Nat)(n:Int){S:SS}(hS:S.ok){ls:List aj}(hq:∀t∈ls,∃a c,mR S.v t=Eg (a,c,S.v)/\(c=0\/c=10))(hl:Cs S.v=Eg eF)(i:Int)(r)(h:Ki ls i=Eg r):
  js aB Gx (Cy O R log eF S.p q n S.H ls) (Wn O R log eF S.p q n S.H ls) i r:=by
 unfold Ki at h;rcases qe h with⟨Y,h⟩|⟨Y,h⟩
 .obtain⟨t,I,h⟩:=qd h;cases h
  obtain⟨a,c,g1,g2⟩:=hq t (by
   unfold qo at I;split at I
   ·exact List.mem_of_getElem? I
   ·cases I)
  have I:qo ((Eg ls:ak aj).getD []) i=Eg t:=I;obtain⟨hh,w5,wa,_,_,_⟩:=Cr hS g1;rw[show(S.next ((a,c,S.v):aj×Int×Option HV).2.2).H=S.H by rw[show S.next ((a,c,S.v):aj×Int×Option HV).2.2=S from jfb hS]]at wa;have w5:ai aB (X aB) 8 [.ptr S.p 0,.str t] S.H=Eg (.bq [.str a,Iv c],Eb,hh):=w5;have wa:qp S.H.length (.bq [.str a,Iv c]) hh=S.H:=wa;have w6:=Ka hS hl;have wz:∀v,qp S.H.length v S.H=S.H:=fun v=>jw rfl;have e1:decide (eF=eF)=En:=decide_eq_true rfl;rcases g2 with rfl|rfl
  .exact z7 (bN:=Cy O R log eF S.p q n S.H ls (qf .i64 (i+1))) (by simp only[go_sem,seval,Gx,Cy,Y,jg I,w5,wa,w6,wz,e1]<;>rfl) (yv (G4 _))
  .exact z7 (bN:=Cy O R log eF S.p q n S.H ls (qf .i64 (i+1))) (by simp only[go_sem,seval,Gx,Cy,Y,jg I,w5,wa,w6,wz,e1]<;>rfl) (yv (G4 _))
 .cases h;exact qw (by simp only[go_sem,seval,Gx,Cy,Y,Wn]<;>rfl)
def Gy (R:gR)(x:SS×Int):Option ((SS×Int)⊕(SS×Int)):=
 cond (decide (x.2<((O.getD []).length:Int)))
  (cond (J9 x.1)
   (qc (qo (O.getD []) x.2) fun e=>
   qc (f9 e) fun t=>
   qc (mR x.1.v t) fun d=>
   qc (qo (R.1.getD []) x.2) fun g=>
   cond (decide (d.2.1=0)&&decide (d.1=g)) (Eg (.inl (x.1.next d.2.2,qf .i64 (x.2+1)))) G1)
   G1)
  (Eg (.inr x))
def Kj (R:gR)(log:aj)(q:Nat)(x:SS×Int):bj:=⟨[(0,sl 5 vev O,Eb),(8,.ptr q 0,Eb),(9,sl 1 jf R.1,R.2),(14,.str log,Eb),(15,.ptr x.1.p 0,Eb),(23,Iv x.2,Eb)],x.1.H⟩
def Wo (R:gR)(log:aj)(q:Nat)(x:SS×Int):jc×bj:=(.exit 4,⟨[(0,sl 5 vev O,Eb),(8,.ptr q 0,Eb),(9,sl 1 jf R.1,R.2),(14,.str log,Eb),(15,.ptr x.1.p 0,Eb),(23,Iv x.2,Eb),(149,.bool Eb,Eb)],x.1.H⟩)
theorem j5b (R:gR)(log:aj)(q:Nat)(x:SS×Int)(r)(h:Gy O R x=Eg r):js aB Kk (Kj O R log q) (Wo O R log q) x r:=by
 obtain⟨S,i⟩:=x;unfold Gy at h;rcases qe h with⟨Y,h⟩|⟨Y,h⟩
 .rcases qe h with⟨hk,h⟩|⟨_,h⟩
  .have hS:S.ok:=Gr.1 hk;obtain⟨e,I,h⟩:=qd h;obtain⟨t,h3,h⟩:=qd h;obtain⟨d,h4,h⟩:=qd h;obtain⟨g,h5,h⟩:=qd h;have w3:=jtd h3;obtain⟨hh,w5,wa,k1,k2,k3⟩:=Cr hS h4;rcases qe h with⟨h6,h⟩|⟨h6,h⟩
   .cases h;rw[Hf]at h6;have h7:=h6.1;have h8:=h6.2;exact z7 (bN:=Kj O R log q (S.next d.2.2,qf .i64 (i+1))) (by simp only[go_sem,seval,Kk,Kj,Y,jg I,jg h5,w3,w5,wa,k3,h7,h8]<;>rfl) (Oj hS d.2.2)
   .cases h
  .cases h
 .cases h;exact qw (by simp only[go_sem,seval,Kk,Kj,Y,Wo]<;>rfl)
def jmx (x y:bp):Prop:=y.name=x.name/\y.version=x.version/\y.ax=x.ax/\y.partner=x.partner/\((y.uses.getD []).length:Int)=((x.uses.getD []).length:Int)/\((y.results.getD []).length:Int)=((x.results.getD []).length:Int)
open Classical in
def Kl (ua ub:ak bp)(i:Int):Option (Int⊕Int):=
 cond (decide (i<((ua.getD []).length:Int)))
  (qc (qo (ua.getD []) i) fun x=>qc (qo (ub.getD []) i) fun y=>cond (decide (jmx x y)) (Eg (.inl (qf .i64 (i+1)))) G1)
  (Eg (.inr i))
def Ot (log:aj)(p:Nat)(ga gb:av)(H:qi)(i:Int):bj:=⟨[(0,sl 5 vev O,Eb),(14,.str log,Eb),(15,.ptr p 0,Eb),(26,.aq (aR ga),Eb),(29,.aq (aR gb),Eb),(233,sl 8 bC ga.units,Eb),(234,Lv ga.units,Eb),(235,Iv i,Eb)],H⟩
def jmo (log:aj)(p:Nat)(ga gb:av)(H:qi)(i:Int):jc×bj:=(.exit 6,⟨[(0,sl 5 vev O,Eb),(14,.str log,Eb),(15,.ptr p 0,Eb),(26,.aq (aR ga),Eb),(29,.aq (aR gb),Eb),(233,sl 8 bC ga.units,Eb),(234,Lv ga.units,Eb),(235,Iv i,Eb),(236,.bool Eb,Eb)],H⟩)
open Classical in
theorem zak (log:aj)(p:Nat)(ga gb:av)(H:qi)(i:Int)(r)(h:Kl ga.units gb.units i=Eg r):js aB Km (Ot O log p ga gb H) (jmo O log p ga gb H) i r:=by
 unfold Kl at h;rcases qe h with⟨Y,h⟩|⟨Y,h⟩
 .obtain⟨x,I,h⟩:=qd h;obtain⟨y,h3,h⟩:=qd h;rcases qe h with⟨h4,h⟩|⟨h4,h⟩
  .cases h;obtain⟨e1,e2,e3,e4,e5,e6⟩:=of_decide_eq_true h4;obtain⟨n1,n2,n3,n4,n5,n6,n7,n8⟩:=x;obtain⟨m1,m2,m3,m4,m5,m6,m7,m8⟩:=y;simp only at e1 e2 e3 e4 e5 e6;subst e1 e2 e3 e4;have d1:decide (m1=m1)=En:=decide_eq_true rfl;have d2:decide (m3=m3)=En:=decide_eq_true rfl;have d3:decide (m6=m6)=En:=decide_eq_true rfl;have d4:decide (((n4.getD []).length:Int)=((n4.getD []).length:Int))=En:=decide_eq_true rfl;have d5:decide (((n5.getD []).length:Int)=((n5.getD []).length:Int))=En:=decide_eq_true rfl;have f1:(!(Eb == Eb))=Eb:=rfl;have f2:(!(En == En))=Eb:=rfl;refine z7 (bN:=Ot O log p ga gb H (qf .i64 (i+1))) ?_ (yv (G4 _));cases m7<;>(simp only[go_sem,seval,Km,Ot,aR,Y,jg I,jg h3,e5,e6,d1,d2,d3,d4,d5,f1,f2]<;>rfl)
  .cases h
 .cases h;exact qw (by simp only[go_sem,seval,Km,Ot,Y,jmo]<;>rfl)
open Classical in
def Kn (la lb:ak ji)(i:Int):Option (Int⊕Int):=
 cond (decide (i<((la.getD []).length:Int)))
  (qc (qo (la.getD []) i) fun x=>qc (qo (lb.getD []) i) fun y=>cond (decide (y=x)) (Eg (.inl (qf .i64 (i+1)))) G1)
  (Eg (.inr i))
def Ou (log:aj)(p:Nat)(gb:av)(la:ak ji)(H:qi)(i:Int):bj:=⟨[(0,sl 5 vev O,Eb),(14,.str log,Eb),(15,.ptr p 0,Eb),(29,.aq (aR gb),Eb),(291,sl 5 jd la,Eb),(292,Lv la,Eb),(293,Iv i,Eb)],H⟩
def jmu (log:aj)(p:Nat)(gb:av)(la:ak ji)(H:qi)(i:Int):jc×bj:=(.exit 8,⟨[(0,sl 5 vev O,Eb),(14,.str log,Eb),(15,.ptr p 0,Eb),(29,.aq (aR gb),Eb),(291,sl 5 jd la,Eb),(292,Lv la,Eb),(293,Iv i,Eb),(294,.bool Eb,Eb)],H⟩)
open Classical in
theorem za1 (log:aj)(p:Nat)(gb:av)(la:ak ji)(H:qi)(i:Int)(r)(h:Kn la gb.ay i=Eg r):js aB Ko (Ou O log p gb la H) (jmu O log p gb la H) i r:=by
 unfold Kn at h;rcases qe h with⟨Y,h⟩|⟨Y,h⟩
 .obtain⟨x,I,h⟩:=qd h;obtain⟨y,h3,h⟩:=qd h;rcases qe h with⟨h4,h⟩|⟨h4,h⟩
  .cases h;have e:=of_decide_eq_true h4;subst e;obtain⟨n1,n2,n3,n4,n5⟩:=y;have d1:decide (n1=n1)=En:=decide_eq_true rfl;have d2:decide (n2=n2)=En:=decide_eq_true rfl;have d3:decide (n3=n3)=En:=decide_eq_true rfl;have d4:decide (n4=n4)=En:=decide_eq_true rfl;have f1:(!(Eb == Eb))=Eb:=rfl;have f2:(!(En == En))=Eb:=rfl;have f3:(Eb == Eb)=En:=rfl;have f4:(En == En)=En:=rfl;refine z7 (bN:=Ou O log p gb la H (qf .i64 (i+1))) ?_ (yv (G4 _));cases n5<;>(simp only[go_sem,seval,Ko,Ou,aR,Y,jg I,jg h3,d1,d2,d3,d4,f1,f2,f3,f4]<;>rfl)
  .cases h
 .cases h;exact qw (by simp only[go_sem,seval,Ko,Ou,Y,jmu]<;>rfl)
end
section
variable {p:j8}{O:ak GEv}{J:Int}(hf:p.bn 3=Eg c3)(w5:ae p (X p) 5 []=Eg (.bool En,Eb))
include hf w5
theorem W3n {b:Bool}{rr ri rc}(w4:ae p (X p) 4 [sl 5 vev O,.int .i64 16]=Eg (.bool b,Eb))(h:b=Eb\/ae p (X p) 6 [sl 5 vev O]=Eg (.bq [aR rr,Iv ri,Iv rc],Eb)/\decide (rc=0)=Eb):
  ∃hh,ai p (X p) 3 [sl 5 vev O,.int .u16 J] []=Eg (.bool En,Eb,hh):=by
 rw[qh hf (by simp)];rcases h with rfl|⟨w6,Y⟩
 .simp only[go_sem,seval,c3,w4,w5];exact⟨_,rfl⟩
 .cases b with
  |false=>
   simp only[go_sem,seval,c3,w4,w5];exact⟨_,rfl⟩
  |true=>
   simp only[go_sem,seval,c3,w4,w5,w6,Y];exact⟨_,rfl⟩
variable {rr:av}{ri n1:Int}{R:ak aj}{w:Bool}{log:aj}{P0:Nat}{H0 H1:qi}
  (w4:ae p (X p) 4 [sl 5 vev O,.int .i64 16]=Eg (.bool En,Eb))
  (w6:ae p (X p) 6 [sl 5 vev O]=Eg (.bq [aR rr,Iv ri,Iv 0],Eb))
  (w7:ai p (X p) 7 [] []=Eg (.ptr P0 0,Eb,H0)) (zQ:qp 0 (.ptr P0 0) H0=H0)
  (wA:X p (.loop Cx) ⟨[(0,sl 5 vev O,Eb),(1,.int .u16 J,Eb),(8,.ptr P0 0,Eb),(9,.list En 0 [],Eb),(62,sl 5 vev O,Eb),(63,Lv O,Eb),(64,Iv 0,Eb)],H0⟩=Eg (.exit 0,⟨[(0,sl 5 vev O,Eb),(1,.int .u16 J,Eb),(8,.ptr P0 0,Eb),(9,sl 1 jf R,w),(62,sl 5 vev O,Eb),(63,Lv O,Eb),(64,Iv n1,Eb),(65,.bool Eb,Eb)],H1⟩))
  (lC:ai p (X p) 10 [.ptr P0 0] H1=Eg (.str log,Eb,H1)) (zR:∀v,qp H1.length v H1=H1)
include w4 w6 w7 zQ wA lC zR
theorem W3e (hl:decide ((log.length:Int)=0)=En)(h0:decide (((O.getD []).length:Int)=0)=En):
  ∃hh,ai p (X p) 3 [sl 5 vev O,.int .u16 J] []=Eg (.bool En,Eb,hh):=by
 rw[qh hf (by simp)];have z0:decide ((0:Int)=0)=En:=rfl;simp only[go_sem,seval,c3,w4,w5,w6,z0,w7,zQ,wA,lC,zR,hl,h0];exact⟨_,rfl⟩
theorem W3g {size n2 n3 n4 n5:Int}{cut eF t:aj}{ea eb es:ak GEv}{ew ew1 Wp:Bool}{P1:Nat}{H2 H3 H4 xb:qi}{ga gb:av}{x:GEv}{c:Int}{ls:List aj}
  (hl:decide ((log.length:Int)=0)=Eb)
  (Cz:ol (qf .i64 J) (qf .i64 ((log.length:Int)+1))=Eg size) (Gz:jN log G1 (Eg size)=Eg cut)
  (nD:ai p (X p) 11 [.str cut] H1=Eg (.bq [.ptr P1 0,Iv 0],Eb,H2)) (Kp:qp H1.length (.bq [.ptr P1 0,Iv 0]) H2=H2)
  (ou:ai p (X p) 12 [.ptr P1 0] H2=Eg (sl 5 vev ea,ew,H2)) (Kq:∀v,qp H2.length v H2=H2)
  (hn:decide (((O.getD []).length:Int)<((ea.getD []).length:Int))=Eb)
  (pW:ai p (X p) 10 [.ptr P1 0] H2=Eg (.str eF,Eb,H2))
  (wB:X p (.loop Gx) ⟨[(0,sl 5 vev O,Eb),(8,.ptr P0 0,Eb),(9,sl 1 jf R,w),(14,.str log,Eb),(15,.ptr P1 0,Eb),(17,Lv ea,Eb),(18,.str eF,Eb),(120,.list Eb 1 [.str [115,104,105,112,112,101,100],.str [104,101,108,100],.str [108,111,116,115,32,117,49],.str [109,105,115,115,105,110,103,32,117,49],.str [117,110,105,116,115,32,99,111,110,101,95,49],.str [115,116,111,99,107,32,99,111,110,101],.str [118,101,114,115,105,111,110,32,98,111,120]],En),(121,Iv 7,Eb),(122,Iv 0,Eb)],H2⟩=Eg (.exit 2,⟨[(0,sl 5 vev O,Eb),(8,.ptr P0 0,Eb),(9,sl 1 jf R,w),(14,.str log,Eb),(15,.ptr P1 0,Eb),(17,Lv ea,Eb),(18,.str eF,Eb),(120,sl 1 jf (Eg ls),En),(121,Iv (ls.length:Int),Eb),(122,Iv n2,Eb),(123,.bool Eb,Eb)],H2⟩))
  (wC:X p (.loop Kk) ⟨[(0,sl 5 vev O,Eb),(8,.ptr P0 0,Eb),(9,sl 1 jf R,w),(14,.str log,Eb),(15,.ptr P1 0,Eb),(23,Lv ea,Eb)],H2⟩=Eg (.exit 4,⟨[(0,sl 5 vev O,Eb),(8,.ptr P0 0,Eb),(9,sl 1 jf R,w),(14,.str log,Eb),(15,.ptr P1 0,Eb),(23,Iv n3,Eb),(149,.bool Eb,Eb)],H3⟩))
  (tv:ai p (X p) 12 [.ptr P1 0] H3=Eg (sl 5 vev eb,ew1,H3)) (Kr:∀v,qp H3.length v H3=H3)
  (tw:ae p (X p) 13 [sl 5 vev eb]=Eg (.bq [aR ga,Iv 0,Iv 0],Eb))
  (mV:ai p (X p) 12 [.ptr P0 0] H3=Eg (sl 5 vev es,Wp,H3))
  (tz:ae p (X p) 13 [sl 5 vev es]=Eg (.bq [aR gb,Iv 0,Iv 0],Eb))
  (tA:ai p (X p) 10 [.ptr P1 0] H3=Eg (.str log,Eb,H3))
  (e1:decide (ga.day=gb.day)=En) (e2:decide (((ga.units.getD []).length:Int)=((gb.units.getD []).length:Int))=En) (e3:decide (((ga.ay.getD []).length:Int)=((gb.ay.getD []).length:Int))=En) (e4:decide (((ga.ah.getD []).length:Int)=((gb.ah.getD []).length:Int))=En)
  (wU:X p (.loop Km) ⟨[(0,sl 5 vev O,Eb),(14,.str log,Eb),(15,.ptr P1 0,Eb),(26,.aq (aR ga),Eb),(29,.aq (aR gb),Eb),(233,sl 8 bC ga.units,Eb),(234,Lv ga.units,Eb),(235,Iv 0,Eb)],H3⟩=Eg (.exit 6,⟨[(0,sl 5 vev O,Eb),(14,.str log,Eb),(15,.ptr P1 0,Eb),(26,.aq (aR ga),Eb),(29,.aq (aR gb),Eb),(233,sl 8 bC ga.units,Eb),(234,Lv ga.units,Eb),(235,Iv n4,Eb),(236,.bool Eb,Eb)],H3⟩))
  (wL:X p (.loop Ko) ⟨[(0,sl 5 vev O,Eb),(14,.str log,Eb),(15,.ptr P1 0,Eb),(29,.aq (aR gb),Eb),(291,sl 5 jd ga.ay,Eb),(292,Lv ga.ay,Eb),(293,Iv 0,Eb)],H3⟩=Eg (.exit 8,⟨[(0,sl 5 vev O,Eb),(14,.str log,Eb),(15,.ptr P1 0,Eb),(29,.aq (aR gb),Eb),(291,sl 5 jd ga.ay,Eb),(292,Lv ga.ay,Eb),(293,Iv n5,Eb),(294,.bool Eb,Eb)],H3⟩))
  (M:qo (O.getD []) (qf .i64 (((O.getD []).length:Int)-1))=Eg x)
  (hu:decide (x.kind=[117,110,100,111])=En\/decide (x.kind=[117,110,100,111])=Eb/\ai p (X p) 8 [.ptr P1 0,.str [117,110,100,111]] H3=Eg (.bq [.str t,Iv c],Eb,xb)/\qp H3.length (.bq [.str t,Iv c]) xb=H4/\(∀v,qp H4.length v H4=H4) /\
   (decide (x.kind=[115,104,105,112])=En/\c=19/\ai p (X p) 10 [.ptr P1 0] H4=Eg (.str log,Eb,H4) \/
    decide (x.kind=[115,104,105,112])=Eb/\c=0/\∃ed Ov gc gd pre,ai p (X p) 12 [.ptr P1 0] H4=Eg (sl 5 vev ed,Ov,H4)/\ae p (X p) 13 [sl 5 vev ed]=Eg (.bq [aR gc,Iv 0,Iv 0],Eb)/\mH O G1 (Eg (qf .i64 (((O.getD []).length:Int)-1)))=Eg pre/\ae p (X p) 13 [sl 5 vev pre]=Eg (.bq [aR gd,Iv 0,Iv 0],Eb) /\
    decide (gc.day=gd.day)=En/\decide (((gc.units.getD []).length:Int)=((gd.units.getD []).length:Int))=En/\decide (((gc.ay.getD []).length:Int)=((gd.ay.getD []).length:Int))=En/\decide (((gc.ah.getD []).length:Int)=((gd.ah.getD []).length:Int))=En)):
  ∃hh,ai p (X p) 3 [sl 5 vev O,.int .u16 J] []=Eg (.bool En,Eb,hh):=by
 rw[qh hf (by simp)];have z0:decide ((0:Int)=0)=En:=rfl;have z1:decide (log=log)=En:=decide_eq_true rfl;rcases hu with hu|⟨hu,w8,GD,wz4,⟨G,rfl,xd⟩|⟨G,rfl,ed,Ov,gc,gd,pre,u1,u2,u3,u4,u5,u6,u7,u8⟩⟩
 .simp only[go_sem,seval,c3,w4,w5,w6,z0,w7,zQ,wA,lC,zR,hl,FH Cz,BI Gz,nD,Kp,ou,Kq,hn,pW,wB,wC,tv,Kr,tw,mV,tz,tA,z1,e1,e2,e3,e4,wU,wL,jg M,hu];exact⟨_,rfl⟩
 .have z2:decide ((19:Int)=19)=En:=rfl;simp only[go_sem,seval,c3,w4,w5,w6,z0,w7,zQ,wA,lC,zR,hl,FH Cz,BI Gz,nD,Kp,ou,Kq,hn,pW,wB,wC,tv,Kr,tw,mV,tz,tA,z1,e1,e2,e3,e4,wU,wL,jg M,hu,w8,GD,wz4,G,z2,xd];exact⟨_,rfl⟩
 .simp only[go_sem,seval,c3,w4,w5,w6,z0,w7,zQ,wA,lC,zR,hl,FH Cz,BI Gz,nD,Kp,ou,Kq,hn,pW,wB,wC,tv,Kr,tw,mV,tz,tA,z1,e1,e2,e3,e4,wU,wL,jg M,hu,w8,GD,wz4,G,u1,u2,ja1 u3,u4,u5,u6,u7,u8];exact⟨_,rfl⟩
end
end Go.Z
namespace Go.Z
open Go Go.Abs Go.W
def xe (i:Nat):List aj:=(List.range i).map fun j=>zO (j+1)
theorem jg1 {i}:xe (i+1)=xe i++[zO (i+1)]:=by
 unfold xe;rw[List.range_succ,G5];rfl
theorem jko {i}:(xe i).length=i:=by simp[xe]
theorem jn7 {i j:Nat}(h:j<i):(xe i)[j]?=Eg (zO (j+1)):=by
 unfold xe;rw[E8,List.getElem?_range h];rfl
abbrev pk (i:Nat):gR:=(jj (xe i),fR (xe i))
section
variable {O:ak GEv}{hL:zz}(Q:run (qf .i64) ((O.getD []).map GEv.er)=.ok hL)(hn:(O.getD []).length<=16)
include Q hn
theorem jba {i:Nat}(hi:i<(O.getD []).length){es:ak GEv}{o:Option HV}{h:zz}(j:aag es o h)(he:(es.getD []).map GEv.er=((O.getD []).map GEv.er).take i):
  ∃x I q,(O.getD [])[i]?=Eg x/\f9 x=Eg (nE x.er)/\mR o (nE x.er)=Eg (zO (i+1),0,q)/\aag (Eg (es.getD []++[x])) q I/\((Eg (es.getD []++[x])).getD []).map GEv.er=((O.getD []).map GEv.er).take (i+1):=by
 have M:(O.getD [])[i]?=Eg (O.getD [])[i]:=E3 hi;generalize hH:(O.getD [])[i]=x at M
 have hJ:((O.getD []).map GEv.er)[i]?=Eg x.er:=by rw[E8,M];rfl
 have bE:=j.run;rw[he]at bE;obtain⟨c1,c2,I,c3,c4⟩:=HC Q hJ bE
 have hlen:(es.getD []).length=i:=by
  have:=congrArg G0 he;rw[Eh,Ha,Eh]at this;omega
 obtain⟨q,d1,d2⟩:=Ok j (e:=x) c1 (by omega) (by rw[hlen];exact c2);rw[hlen,c3]at d1 d2;refine⟨x,I,q,M,j1p c1,d1,d2,?_⟩;show(es.getD []++[x]).map GEv.er=_;rw[G5,he,List.take_add_one,hJ];rfl
theorem js5:∀ (k i:Nat) (S:SS) (es:ak GEv) (h:zz),i+k=(O.getD []).length->S.ok->aag es S.v h->(es.getD []).map GEv.er=((O.getD []).map GEv.er).take i ->
  ∃T iM,bu (Gv O) (S,pk i,(i:Int))=Eg (T,pk (O.getD []).length,((O.getD []).length:Int))/\T.ok/\T.p=S.p/\aag iM T.v hL/\(iM.getD []).map GEv.er=(O.getD []).map GEv.er
 |0,i,S,es,h,hk,hS,j,he=>by
  have Ks:(es.getD []).map GEv.er=(O.getD []).map GEv.er:=by
   rw[he,E4 (by rw[Eh];omega)]
  obtain rfl:i=(O.getD []).length:=by omega
  have hh:h=hL:=by
   have:=j.run;rw[Ks,Q]at this;exact(Except.ok.inj this).symm
  subst hh;exact⟨S,es,zf (by unfold Gv;dsimp only;rw[z4];rfl),hS,rfl,j,Ks⟩
 |k+1,i,S,es,h,hk,hS,j,he=>by
  have hi:i<(O.getD []).length:=by omega
  obtain⟨x,I,q,M,k9,d1,d2,d3⟩:=jba Q hn hi j he;obtain⟨k1,k2,k3⟩:=Wl hS d1;have k1:(S.next q).ok:=k1;have k2:(S.next q).v=q:=k2;have k3:(S.next q).p=S.p:=k3;obtain⟨T,iM,t1,t2,t3,t4,t5⟩:=js5 k (i+1) (S.next q) _ I (by omega) k1 (by rw[k2];exact d2) d3;refine⟨T,iM,?_,t2,t3.trans k3,t4,t5⟩
  have cr:Gv O (S,pk i,(i:Int))=Eg (.inl (S.next q,pk (i+1),((i+1:Nat):Int))):=by
   unfold Gv;dsimp only;rw[yp hi,cond_true,Gr.2 hS,cond_true,ja M,qk,k9,qk,d1,qk];dsimp only;rw[decide_eq_true rfl,cond_true,sO (by rw[jko];omega),zc (by omega)];simp only[pk,jg1,wi]
  rw[kc cr];exact t1
theorem jtv {n0 n1:Nat}{A:SS}:∀(k i:Nat) (S:SS) (es:ak GEv) (h:zz),i+k=(O.getD []).length->Sep n0 n1 S A->aag es S.v h->(es.getD []).map GEv.er=((O.getD []).map GEv.er).take i ->
  ∃T iM,bu (Gy O (pk (O.getD []).length)) (S,(i:Int))=Eg (T,((O.getD []).length:Int))/\Sep n0 n1 T A/\T.p=S.p/\aag iM T.v hL/\(iM.getD []).map GEv.er=(O.getD []).map GEv.er
 |0,i,S,es,h,hk,G,j,he=>by
  have Ks:(es.getD []).map GEv.er=(O.getD []).map GEv.er:=by
   rw[he,E4 (by rw[Eh];omega)]
  obtain rfl:i=(O.getD []).length:=by omega
  have hh:h=hL:=by
   have:=j.run;rw[Ks,Q]at this;exact(Except.ok.inj this).symm
  subst hh;exact⟨S,es,zf (by unfold Gy;dsimp only;rw[z4];rfl),G,rfl,j,Ks⟩
 |k+1,i,S,es,h,hk,G,j,he=>by
  have hi:i<(O.getD []).length:=by omega
  obtain⟨x,I,q,M,k9,d1,d2,d3⟩:=jba Q hn hi j he;obtain⟨k1,k2,k3⟩:=Wl G.ok d1;have k1:(S.next q).ok:=k1;have k2:(S.next q).v=q:=k2;have k3:(S.next q).p=S.p:=k3;obtain⟨T,iM,t1,t2,t3,t4,t5⟩:=jtv (A:=A) k (i+1) (S.next q) _ I (by omega) (G.next k1) (by rw[k2];exact d2) d3;refine⟨T,iM,?_,t2,t3.trans k3,t4,t5⟩
  have hg:qo ((pk (O.getD []).length).1.getD []) (i:Int)=Eg (zO (i+1)):=by
   rw[j6];exact ja (jn7 hi)
  have cr:Gy O (pk (O.getD []).length) (S,(i:Int))=Eg (.inl (S.next q,((i+1:Nat):Int))):=by
   unfold Gy;dsimp only;rw[yp hi,cond_true,Gr.2 G.ok,cond_true,ja M,qk,k9,qk,d1,qk,hg,qk];dsimp only;rw[decide_eq_true rfl,decide_eq_true rfl,Bool.and_self,cond_true,zc (by omega)]
  rw[kc cr];exact t1
end
theorem j6e:bu (Ki fT) 0=Eg 7:=by
 have h:∀(k i:Nat),i+k=7->bu (Ki fT) (i:Int)=Eg 7:=by
  intro k
  induction k with
  |zero=>
   intro i h
   obtain rfl:i=7:=by omega
   exact zf rfl
  |succ k ih=>
   intro i h
   have hi:i<fT.length:=by show i<7;omega
   rw[kc (s':=((i+1:Nat):Int))]
   .exact ih (i+1) (by omega)
   .unfold Ki;rw[yp hi,cond_true,ja (E3 hi),qk,zc (by omega)]
 exact h 7 0 rfl
theorem jt5 {ua ub:ak bp}(h:(ua.getD []).map bp.er=(ub.getD []).map bp.er)(hl:(ua.getD []).length<=SM):∀(k i:Nat),i+k=(ua.getD []).length->bu (Kl ua ub) (i:Int)=Eg ((ua.getD []).length:Int)
 |0,i,hk=>by
  obtain rfl:i=(ua.getD []).length:=by omega
  exact zf (by unfold Kl;rw[z4];rfl)
 |k+1,i,hk=>by
  have hi:i<(ua.getD []).length:=by omega
  have SF:i<(ub.getD []).length:=by have:=congrArg G0 h;rw[Eh,Eh]at this;omega
  have M:(ua.getD [])[i]?=Eg (ua.getD [])[i]:=E3 hi;have hy:(ub.getD [])[i]?=Eg (ub.getD [])[i]:=E3 SF;generalize (ua.getD [])[i]=x at M;generalize (ub.getD [])[i]=y at hy
  have zS:x.er=y.er:=by
   have:=congrArg (fun l=>l[i]?) h;simp only[E8,M,hy,Hg]at this;exact Eg.inj this
  have G:jmx x y:=by
   refine⟨(congrArg cH.name zS).symm,(congrArg cH.version zS).symm,(congrArg cH.ax zS).symm,(congrArg cH.partner zS).symm,?_,?_⟩
   .have:x.uses.getD []=y.uses.getD []:=congrArg cH.uses zS;rw[this]
   .have:x.results.getD []=y.results.getD []:=congrArg cH.results zS;rw[this]
  rw[kc (s':=((i+1:Nat):Int))]
  .exact jt5 h hl k (i+1) (by omega)
  .unfold Kl;rw[yp hi,cond_true,ja M,qk,ja hy,qk,@decide_eq_true _ (Classical.propDecidable _) G,cond_true,zc (by unfold SM at hl;omega)]
theorem vY {la lb:ak ji}(h:la.getD []=lb.getD [])(hl:(la.getD []).length<=SM):∀(k i:Nat),i+k=(la.getD []).length->bu (Kn la lb) (i:Int)=Eg ((la.getD []).length:Int)
 |0,i,hk=>by
  obtain rfl:i=(la.getD []).length:=by omega
  exact zf (by unfold Kn;rw[z4];rfl)
 |k+1,i,hk=>by
  have hi:i<(la.getD []).length:=by omega
  have M:(la.getD [])[i]?=Eg (la.getD [])[i]:=E3 hi
  have hy:(lb.getD [])[i]?=Eg (la.getD [])[i]:=by rw[<-h];exact M
  rw[kc (s':=((i+1:Nat):Int))]
  .exact vY h hl k (i+1) (by omega)
  .unfold Kn;rw[yp hi,cond_true,ja M,qk,ja hy,qk,decide_eq_true rfl,cond_true,zc (by unfold SM at hl;omega)]
end Go.Z
namespace Go.W
theorem qvn {w:Int->Int}:∀(l:List cf) (i:Nat) (h:zz) {x:Int×Int},zy w i h l=.error x->x.2≠0
 | [],_,_,_,h=>by cases h
 |e::l,i,h,x,Q=>by
  unfold zy at Q;split at Q
  .next hc=>
   cases Q;exact hc
  .split at Q
   .next ha=>
    cases Q;exact jea ha
   .exact qvn l _ _ Q
theorem jn4 {w:Int->Int}{l:List cf}{x:Int×Int}(Q:run w l=.error x):x.2≠0:=by
 unfold run at Q;split at Q
 .cases Q;decide
 .exact qvn _ _ _ Q
end Go.W
namespace Go.Z
open Go Go.Abs Go.W
theorem Ow {S:SS}{es:ak GEv}{h:zz}(hS:S.ok)(j:aag es S.v h):∃ev w g,ai aB (X aB) 12 [.ptr S.p 0] S.H=Eg (sl 5 vev ev,w,S.H)/\(ev.getD []).map GEv.er=(es.getD []).map GEv.er/\ae aB (X aB) 13 [sl 5 vev ev]=Eg (.bq [aR g,Iv 0,Iv 0],Eb)/\g.er=now h:=by
 have Y:=j.xa;have I:=j.len.1;obtain⟨r,w,e1,e2,e3⟩:=jrx (o:=S.v) (by omega) j.b2;have e4:(r.getD []).map GEv.er=(es.getD []).map GEv.er:=e2.trans j.ev;obtain⟨g,g1,g2⟩:=jjf j e3 e4;exact⟨r,w,g,jpw hS e1,e4,aF.ae (W13 g1),g2⟩
theorem q5q {ga gb:av}{h:zz}(Y:ga.er=now h)(I:gb.er=now h):decide (ga.day=gb.day)=En/\decide (((ga.units.getD []).length:Int)=((gb.units.getD []).length:Int))=En/\decide (((ga.ay.getD []).length:Int)=((gb.ay.getD []).length:Int))=En/\decide (((ga.ah.getD []).length:Int)=((gb.ah.getD []).length:Int))=En/\(ga.units.getD []).map bp.er=(gb.units.getD []).map bp.er/\ga.ay.getD []=gb.ay.getD []:=by
 have e:ga.er=gb.er:=Y.trans I.symm;have a:ga.day=gb.day:=congrArg bX.day e;have b:(ga.units.getD []).map bp.er=(gb.units.getD []).map bp.er:=congrArg bX.units e;have c:ga.ay.getD []=gb.ay.getD []:=congrArg bX.ay e;have d:(ga.ah.getD []).map bm.er=(gb.ah.getD []).map bm.er:=congrArg bX.ah e;have b':=congrArg G0 b;have d':=congrArg G0 d;rw[Eh,Eh]at b' d';exact⟨decide_eq_true a,decide_eq_true (by rw[b']),decide_eq_true (by rw[c]),decide_eq_true (by rw[d']),b,c⟩
theorem jqm {L:List cf}(h:L≠[]):0<(zj L).length:=by
 cases L with
 |nil=>exact absurd rfl h|cons e l=>rw[jie];omega
theorem I3 (O:ak GEv)(J:Int)(Y:0<=J/\J<=65535):ae aB (X aB) 3 [sl 5 vev O,.int .u16 J]=Eg (.bool En,Eb):=by
 suffices this:∃hh,ai aB (X aB) 3 [sl 5 vev O,.int .u16 J] []=Eg (.bool En,Eb,hh) by
  obtain⟨hh,this⟩:=this;exact jo rfl this (by first|rfl|simp only[go_sem,seval]) (by first|rfl|simp only[go_sem,seval])
 obtain⟨b,s1,s2⟩:=j0y (l:=O) (n:=16) (by omega);have w4:ae aB (X aB) 4 [sl 5 vev O,.int .i64 16]=Eg (.bool b,Eb):=j69 s1
 cases b with
 |false=>exact W3n (rr:=⟨0,G1,G1,G1⟩) (ri:=0) (rc:=0) rfl W5 w4 (.inl rfl)
 |true=>
 obtain⟨hn,hb⟩:=s2 rfl
 have hn:(O.getD []).length<=16:=by omega
 obtain⟨r,r1,r2⟩:=j1w hb;have w6:=aF.ae (W6 r1)
 cases Q:run (qf .i64) ((O.getD []).map GEv.er)with
 |error e=>
  rw[Q]at r2;have e0:r.2=(e.1,e.2):=congrArg Prod.snd r2;have bI:=jn4 Q;exact W3n rfl W5 w4 (.inr ⟨w6,decide_eq_false (by rw[e0];exact bI)⟩)
 |ok hL=>
 rw[Q]at r2;have e0:r.2=(0,0):=congrArg Prod.snd r2;rw[e0]at w6;have w6:ae aB (X aB) 6 [sl 5 vev O]=Eg (.bq [aR r.1,Iv 0,Iv 0],Eb):=w6;have Kt:=q3b Q;have hchk:=N0 Q;obtain⟨T,iM,t1,t2,t3,t4,t5⟩:=js5 Q hn (O.getD []).length 0 (SS.new []) G1 _ (by omega) (SS.tr rfl) aag.new rfl;have wA:=zq (zbc O J) t1;have w7:=jm2 (H:=[]);have zQ:qp 0 (.ptr 0 0) (SS.new []).H=(SS.new []).H:=Gq rfl;have t3:T.p=0:=t3
 have Sl:Cs T.v=Eg (zj ((O.getD []).map GEv.er)):=by rw[Ol t4,t5]
 have lC:=Ka t2 Sl;have zR:∀v,qp T.H.length v T.H=T.H:=fun v=>jw rfl;rw[t3]at lC
 have wA:X aB (.loop Cx) ⟨[(0,sl 5 vev O,Eb),(1,.int .u16 J,Eb),(8,.ptr 0 0,Eb),(9,.list En 0 [],Eb),(62,sl 5 vev O,Eb),(63,Lv O,Eb),(64,Iv 0,Eb)],(SS.new []).H⟩=Eg (.exit 0,⟨[(0,sl 5 vev O,Eb),(1,.int .u16 J,Eb),(8,.ptr 0 0,Eb),(9,sl 1 jf (pk (O.getD []).length).1,(pk (O.getD []).length).2),(62,sl 5 vev O,Eb),(63,Lv O,Eb),(64,Iv ((O.getD []).length:Int),Eb),(65,.bool Eb,Eb)],T.H⟩):=by
  have w:=wA;simp only[Wm,t3]at w;exact w
 by_cases h0:(O.getD []).length=0
 .have iL:O.getD []=[]:=List.length_eq_zero_iff.1 h0;exact W3e rfl W5 w4 w6 w7 zQ wA lC zR (decide_eq_true (by rw[iL];rfl)) (decide_eq_true (by rw[h0];rfl))
 have gO:0<(zj ((O.getD []).map GEv.er)).length:=jqm (fun hh=>h0 (by have:=congrArg G0 hh;rwa [Eh]at this))
 have hlen:(zj ((O.getD []).map GEv.er)).length<=20020:=by
  have:=jkx Q (by omega) (O.getD []).length;rwa [E4 (by rw[Eh];omega)]at this
 generalize xf:zj ((O.getD []).map GEv.er)=log at *;obtain⟨size,z1,z2⟩:=jnv (x:=J) (n:=log.length+1) Y.1 (by omega);obtain⟨m,z,m1,m2,m3,m4⟩:=ju9 Kt (n:=size) (by rw[xf];omega);rw[Eh]at m1;obtain⟨hm,hrm⟩:=EU Q m
 have Ku:(log.take size).length<=90000:=by rw[Ha];omega
 rw[xf]at m3;obtain⟨rc,o1,p1,p2,p3,p4,p5⟩:=jrs (s:=log.take size) (h:=hm) Ku (by rw[m3]) (by rw[m3];exact m4) hrm;obtain⟨RF,v1,v2⟩:=juv (H:=T.H) (SS.lB t2) p4;have v2:RF=(SS.open T.H o1).H:=v2;subst v2;have sep:=Sep.behind t2 o1;obtain⟨ea,ew,g0,ou,S4,_,_⟩:=Ow sep.ok p5
 have hea:((ea.getD []).length:Int)=(m:Int):=by
  have:=congrArg G0 (S4.trans p2);rw[Eh,Ha,Eh]at this;omega
 have vP:=Ol p5;have pW:=Ka sep.ok vP;have Kq:∀v,qp (SS.open T.H o1).H.length v (SS.open T.H o1).H=(SS.open T.H o1).H:=fun v=>jw rfl;have wB:=zq (j53 O (pk (O.getD []).length) log _ T.p ((ea.getD []).length:Int) sep.ok (fun t ht=>jr7 p5 ht) vP) j6e;obtain⟨U,Wq,u1,u2,u3,u4,u5⟩:=jtv Q hn (A:=T) ((O.getD []).length-m) m (SS.open T.H o1) rc.1 hm (by omega) sep p5 p2;rw[<-hea]at u1;have wC:=zq (j5b O (pk (O.getD []).length) log T.p) u1;obtain⟨eb,ew1,ga,tv,hea2,tw,xH⟩:=Ow u2.ok u4;obtain⟨es3,Wp,gb,mV,_,tz,iQ⟩:=Ow (S:=T.at U.H) u2.V7 t4
 have Wr:Cs U.v=Eg log:=by rw[Ol u4,u5,xf]
 have tA:=Ka u2.ok Wr;have Kr:∀v,qp U.H.length v U.H=U.H:=fun v=>jw rfl;obtain⟨e1,e2,e3,e4,e5,e6⟩:=q5q xH iQ;have RA:=u4.rg xH;have wU:=zq (zak O log (SS.open T.H o1).p ga gb U.H) (jt5 e5 (jl RA.b.U) (ga.units.getD []).length 0 (by omega));have wL:=zq (za1 O log (SS.open T.H o1).p gb ga.ay U.H) (vY e6 (jl RA.b.L) (ga.ay.getD []).length 0 (by omega));have M:(O.getD [])[(O.getD []).length-1]?=Eg (O.getD [])[(O.getD []).length-1]:=E3 (by omega);generalize hH:(O.getD [])[(O.getD []).length-1]=x at M
 have hwr:qf .i64 (((O.getD []).length:Int)-1)=(((O.getD []).length-1:Nat):Int):=by
  rw[yw (by omega) (by omega)];omega
 have hxi:qo (O.getD []) (qf .i64 (((O.getD []).length:Int)-1))=Eg x:=by rw[hwr];exact ja M
 have CA:(Wq.getD []).length=(O.getD []).length:=by
  have:=congrArg G0 u5;rwa [Eh,Eh]at this
 obtain⟨L',x',xU⟩:∃L' x',Wq.getD []=L'++[x']:=by
  rcases List.eq_nil_or_concat (Wq.getD [])with h|⟨l,y,h⟩
  .rw[h]at CA;simp at CA;omega
  .exact⟨l,y,by rw[h,List.concat_eq_append]⟩
 have hL':L'.length=(O.getD []).length-1:=by
  rw[xU,Ep,List.length_singleton]at CA;omega
 have Ws:=u5;rw[xU,G5]at Ws
 have hxx:x'.er=x.er:=by
  have:=congrArg (fun l=>l[(O.getD []).length-1]?) Ws;simp only[E8,M,Hg]at this;rw[E9 (by rw[Eh];omega),Eh,hL',Hd]at this;exact Eg.inj this
 have Wd:L'.map GEv.er=((O.getD []).map GEv.er).take ((O.getD []).length-1):=by
  rw[<-Ws,List.take_append_of_le_length (by rw[Eh];omega),E4 (by rw[Eh];omega)]
 have tB:x'.kind=x.kind:=congrArg cf.kind hxx;have hP:(SS.open T.H o1).p=U.p:=u3.symm;simp only[Cy,Wn,t3]at wB;simp only[Kj,Wo,t3]at wC;have mV:ai aB (X aB) 12 [.ptr T.p 0] U.H=Eg (sl 5 vev es3,Wp,U.H):=mV;rw[t3]at mV;rw[<-u3]at wC;rw[hP]at ou pW wB wU wL
 have nD:ai aB (X aB) 11 [.str (log.take size)] T.H=Eg (.bq [.ptr U.p 0,Iv 0],Eb,(SS.open T.H o1).H):=by rw[u3];exact v1
 have Kp:qp T.H.length (.bq [.ptr U.p 0,Iv 0]) (SS.open T.H o1).H=(SS.open T.H o1).H:=by
  rw[u3];refine Gq ?_;cases o1<;>(simp only[Abs.below,qt,SS.open,pO,jr4];rfl)
 have w45:ol (qf .i64 J) (qf .i64 ((log.length:Int)+1))=Eg (size:Int):=by
  rw[yw (by omega) (by omega),zc (by omega)];exact z1
 have fin:∀ {t:aj} {c:Int} {xb H4:qi},_->∃hh,ai aB (X aB) 3 [sl 5 vev O,.int .u16 J] []=Eg (.bool En,Eb,hh):=fun {t c xb H4} hu=>
  W3g (ls:=fT) (t:=t) (c:=c) (xb:=xb) (H4:=H4) (R:=(pk (O.getD []).length).1) (w:=(pk (O.getD []).length).2) rfl W5 w4 w6 w7 zQ wA lC zR (decide_eq_false (by omega)) w45 (Vx (by omega)) nD Kp ou Kq (decide_eq_false (by omega)) pW wB wC tv Kr tw mV tz tA e1 e2 e3 e4 wU wL hxi hu
 by_cases hk:x.kind=[117,110,100,111]
 .exact fin (t:=[]) (c:=0) (xb:=[]) (H4:=[]) (.inl (decide_eq_true hk))
 .obtain⟨yP,g1,Kv⟩:=jfk u4 xU (by omega) (by rw[tB];exact hk);rcases Kv with⟨ks,q,d1,j1⟩|⟨ks,q,t,d1,j1⟩
  .obtain⟨xb,w8,GD,k1,k2,k3⟩:=Cr u2.ok d1;have k1:(U.next q).ok:=k1;have k2:(U.next q).v=q:=k2;have k3:(U.next q).p=U.p:=k3
   have pU:Cs (U.next q).v=Eg log:=by rw[k2,Ol j1,u5,xf]
   have xd:=Ka k1 pU;rw[k3]at xd;exact fin (.inr ⟨decide_eq_false hk,w8,GD,fun v=>jw rfl,.inl ⟨decide_eq_true (by rw[<-tB];exact ks),rfl,xd⟩⟩)
  .obtain⟨xb,w8,GD,k1,k2,k3⟩:=Cr u2.ok d1;have k1:(U.next q).ok:=k1;have k2:(U.next q).v=q:=k2;have k3:(U.next q).p=U.p:=k3;obtain⟨ed,Ov,gc,Kx,_,Wt,Hs⟩:=Ow (S:=U.next q) k1 (by rw[k2];exact j1);rw[k3]at Kx;obtain⟨pre,c1,c2⟩:=UI (o:=O) (k:=(O.getD []).length-1) (by omega);have hbp:∀e∈pre.getD [],gB e:=fun e he=>hb e (by rw[c2]at he;exact List.mem_of_mem_take he);obtain⟨rd,q1,q2⟩:=jfs hbp;rw[c2,Hk,<-Wd,g1]at q2;have qa:rd.1.er=now yP:=congrArg Prod.fst q2;have qb:rd.2=(0,0):=congrArg Prod.snd q2;have xg:=aF.ae (W13 q1);rw[qb]at xg;have xg:ae aB (X aB) 13 [sl 5 vev pre]=Eg (.bq [aR rd.1,Iv 0,Iv 0],Eb):=xg;obtain⟨f1,f2,f3,f4,_,_⟩:=q5q Hs qa;exact fin (.inr ⟨decide_eq_false hk,w8,GD,fun v=>jw rfl,.inr ⟨decide_eq_false (by rw[<-tB];exact ks),rfl,ed,Ov,gc,rd.1,pre,Kx,Wt,by rw[hwr];exact c1,xg,f1,f2,f3,f4⟩⟩)
end Go.Z
end
