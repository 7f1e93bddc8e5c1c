/- Chapter 10, plain. -/
import Derived.Test.YtlhfdilpecnjeaaGreatDoorE1
set_option linter.unusedVariables false
set_option linter.unusedSimpArgs false
set_option maxRecDepth 100000
set_option maxHeartbeats 4000000
noncomputable section
open Bool renaming false->En,false_eq_true->Ha,true->Hb,not_true->H2,false_and->Ia,false_or->Ib,true_and->Ic,or_false->If,and_true->Ig,not_eq_true->Ik,true_or->Il,and_false->Iq,or_true->I9
open Option renaming some->E6,getD_some->Hc,isSome_some->H4,any_some->I1
open List renaming length_singleton->H3,length_map->H9,getElem?_eq_getElem->Ij,length_set->Io,drop_eq_nil_of_le->Ip,mem_map_of_mem->Iw,map_cons->Ix,not_mem_nil->Iy,find?_cons->I2,drop_zero->I3,mem_cons->I5,map_nil->I6,map_set->I7
open Ne renaming symm->H8
namespace Go.Z
open Go Go.Abs Go.W
variable {r:aw}{e:GEv}
theorem Wh {a lo hi}:f151 a lo hi=E6 (decide (a<lo\/hi<a)):=by
 unfold f151;by_cases h:a<lo
 .simp[h]
 .simp[h]
theorem yV {o}:decide (ek o<0)=!o.isSome:=by
 cases o with
 |none=>rfl|some k=>exact decide_eq_false (by show ¬(k:Int)<0;omega)
theorem j6d (b:GB r)(hk:e.kind=nG)(hc:qz e.er=0):gX (f152 r e) (apply (qd .i64) r.er e.er):=by
 obtain⟨Y,I⟩:=kx hk (show ye nG=E6 (2,2)from rfl) hc;obtain⟨n0,n1,hn⟩:=gY Y;obtain⟨v0,v1,hv⟩:=gY I;unfold apply pn;rw[show e.er.kind=nG from hk,if_pos (by decide),if_pos rfl,fh hn,mY hn,vq hv,wW];unfold f152;simp only[ie hn,gW hn,gW hv,qa,JD (jo b.L),wV,Wh,yQ (jo b.L)];rw[show decide (e.kind=([108,111,116]:aj))=Hb from decide_eq_true hk,Ge (o:=E6 (r.az.getD [])) (by have:=nL b.L;simp only[Hc,H3];omega) (by simp)];simp only[cond_true]
 cases (z7 r.er n0).isSome with
 |true=>exact⟨_,_,rfl,rfl,by decide⟩
 |false=>
  by_cases Y:v1<1\/10000<v1
  .simp only[decide_eq_true Y,if_pos Y];exact⟨_,_,rfl,rfl,by decide⟩
  .simp only[decide_eq_false Y,if_neg Y];by_cases I:64<=(r.az.getD []).length
   .simp only[show decide (64<=((r.az.getD []).length:Int))=Hb from decide_eq_true (by omega),wW,if_pos I,Ha,if_false];exact⟨_,_,rfl,rfl,by decide⟩
   .simp only[show decide (64<=((r.az.getD []).length:Int))=En from decide_eq_false (by omega),wW,if_neg I,Ha,if_false];exact⟨_,_,rfl,rfl,rfl⟩
theorem jiu (b:GB r)(hk:e.kind=oe)(hc:qz e.er=0):gX (f152 r e) (apply (qd .i64) r.er e.er):=by
 obtain⟨Y,I⟩:=kx hk (show ye oe=E6 (1,1)from rfl) hc;obtain⟨n0,hn⟩:=jR Y;unfold apply pn;rw[show e.er.kind=oe from hk,if_pos (by decide),if_neg (by decide),if_pos rfl,fh hn]
 have hl:r.er.ah.length=(r.ah.getD []).length:=by rw[yL,H9]
 unfold f152;simp only[ie hn,qa,F7 (jo b.P),wV,yQ (jo b.P),hl];rw[show decide (e.kind=([108,111,116]:aj))=En from decide_eq_false (by rw[hk];decide),show decide (e.kind=([112,114,111,100,117,99,116]:aj))=Hb from decide_eq_true hk,Ge (o:=E6 (r.ah.getD [])) (by have:=nL b.P;simp only[Hc,H3];omega) (by simp)];simp only[cond_true,cond_false]
 cases (z4 r.er n0).isSome with
 |true=>exact⟨_,_,rfl,rfl,by decide⟩
 |false=>
  by_cases I:16<=(r.ah.getD []).length
  .simp only[show decide (16<=((r.ah.getD []).length:Int))=Hb from decide_eq_true (by omega),if_pos I];exact⟨_,_,rfl,rfl,by decide⟩
  .simp only[show decide (16<=((r.ah.getD []).length:Int))=En from decide_eq_false (by omega),if_neg I];exact⟨_,_,rfl,rfl,q0z rfl⟩
theorem jr9 (b:GB r)(hk:e.kind=pV)(hc:qz e.er=0):gX (f152 r e) (apply (qd .i64) r.er e.er):=by
 obtain⟨Y,I⟩:=kx hk (show ye pV=E6 (2,1)from rfl) hc;obtain⟨n0,n1,hn⟩:=gY Y;unfold apply pn;rw[show e.er.kind=pV from hk,if_pos (by decide),if_neg (by decide),if_neg (by decide),fh hn,mY hn]
 have hl:r.er.units.length=(r.units.getD []).length:=by rw[wS,H9]
 unfold f152;simp only[ie hn,gW hn,qa,F7 (jo b.P),Oz (jo b.U),wV,yV,yQ (jo b.U),hl];rw[show decide (e.kind=([108,111,116]:aj))=En from decide_eq_false (by rw[hk];decide),show decide (e.kind=([112,114,111,100,117,99,116]:aj))=En from decide_eq_false (by rw[hk];decide)];simp only[cond_false];unfold iC
 cases hp:z4 r.er n1 with
 |none=>exact⟨_,_,rfl,rfl,by decide⟩
 |some k=>
  obtain⟨p,g1,_,g3⟩:=BQ hp
  have hd:p.er.bm.isEmpty=decide (((p.bm.getD []).length:Int)=0):=by
   show((p.bm.getD []).map cg.er).isEmpty=_
   cases p.bm.getD []with
   |nil=>rfl|cons x l=>simp;omega
  have pY:p.er.bm.length=(p.bm.getD []).length:=by show((p.bm.getD []).map cg.er).length=_;rw[H9]
  simp only[H4,H2,cond_false,kg,q9 g1,Option.bind_some,g3,hd,pY];rw[Ge (o:=E6 (r.units.getD [])) (by have:=nL b.U;simp only[Hc,H3];omega) (by simp)]
  cases (zq r.er n0).isSome with
  |true=>exact⟨_,_,rfl,rfl,by decide⟩
  |false=>
   cases decide (((p.bm.getD []).length:Int)=0)with
   |true=>exact⟨_,_,rfl,rfl,by decide⟩
   |false=>
    by_cases I:256<=(r.units.getD []).length
    .simp only[show decide (256<=((r.units.getD []).length:Int))=Hb from decide_eq_true (by omega),if_pos I];exact⟨_,_,rfl,rfl,by decide⟩
    .simp only[show decide (256<=((r.units.getD []).length:Int))=En from decide_eq_false (by omega),if_neg I];exact⟨_,_,rfl,rfl,qz0 rfl⟩
theorem jcl (b:GB r){k x}(hk:k<(r.az.getD []).length):f220 r (k:Int) x=E6 { r with az:=E6 ((r.az.getD []).set k x) }:=by
 unfold f220;rw[V1 (jo b.L) hk];rfl
theorem jsu (b:GB r){k x}(hk:k<(r.ah.getD []).length):f219 r (k:Int) x=E6 { r with ah:=E6 ((r.ah.getD []).set k x) }:=by
 unfold f219;rw[V1 (jo b.P) hk];rfl
theorem BZ (hb:(r.units.getD []).length<=BB){k x}(hk:k<(r.units.getD []).length):f225 r (k:Int) x=E6 { r with units:=E6 ((r.units.getD []).set k x) }:=by
 unfold f225;rw[V1 (jo hb) hk];rfl
theorem vw {α:Type}{l:List α}{k x}(h:l[k]?=E6 x):k<l.length:=(List.getElem?_eq_some_iff.1 h).1
theorem jhj (b:GB r)(hold:Bool)(hk:e.kind=if hold then pi else tm)(hc:qz e.er=0):gX (f154 r e) (apply (qd .i64) r.er e.er):=by
 obtain⟨Y,I⟩:=kx (a:=1) (c:=1) hk (by cases hold<;>rfl) hc;obtain⟨n0,hn⟩:=jR Y;rw[ll hk (by cases hold<;>decide) (by cases hold<;>decide),if_pos (by cases hold<;>decide)];unfold vr;rw[fh hn];unfold f154;simp only[ie hn,qa,JD (jo b.L),yV]
 cases hp:z7 r.er n0 with
 |none=>exact⟨_,_,rfl,rfl,by decide⟩
 |some k=>
  obtain⟨x,g1,_⟩:=JZ hp;simp only[H4,H2,cond_false,kg,q9 g1,wW,g1,jcl b (vw g1),show e.er.kind=e.kind from rfl]
  cases hold with
  |true=>
   have hk:e.kind=pi:=hk;rw[show decide (e.kind=([104,111,108,100]:aj))=Hb from decide_eq_true hk,show decide (e.kind=([102,114,101,101]:aj))=En from decide_eq_false (by rw[hk];decide),if_pos hk];by_cases hh:x.held=Hb
   .simp only[hh,cond_true,if_true];exact⟨_,_,rfl,rfl,by decide⟩
   .rw[Ik]at hh;simp only[hh,cond_true,cond_false,Ha,if_false];exact⟨_,_,rfl,rfl,OD rfl⟩
  |false=>
   have hk:e.kind=tm:=hk;rw[show decide (e.kind=([104,111,108,100]:aj))=En from decide_eq_false (by rw[hk];decide),show decide (e.kind=([102,114,101,101]:aj))=Hb from decide_eq_true hk,if_neg (by rw[hk];decide)];by_cases hh:x.held=Hb
   .simp only[hh,cond_true,cond_false,H2,Ha,if_false];exact⟨_,_,rfl,rfl,OD rfl⟩
   .rw[Ik]at hh;simp only[hh,cond_true,cond_false,Bool.not_false,if_true];exact⟨_,_,rfl,rfl,by decide⟩
theorem q91 {α:Type}{l:List α}{p x}(h:l.length<=16):16<(ki p x l).length↔(!(l.any p))=Hb/\16<=l.length:=by
 unfold ki;rw[Gb]
 cases hi:l.findIdx? p with
 |some i=>
  simp only[Io];constructor
  .intro I;omega
  .rintro ⟨I,_⟩;cases I
 |none=>
  simp only[List.length_append,H3];constructor
  .intro I;exact⟨rfl,by omega⟩
  .rintro ⟨_,I⟩;omega
theorem Wi (b:GB r)(w:WF r.er){kk:aj}(iy:kk=nH\/kk=lO\/kk=rG)(hk:e.kind=kk)(hc:qz e.er=0)(iL:∀v∈e.values.getD [],0<=v):gX (f153 r e) (apply (qd .i64) r.er e.er):=by
 have hR:apply (qd .i64) r.er e.er=po r.er e.er:=by
  unfold apply;rw[show e.er.kind=kk from hk,if_neg (by rcases iy with rfl|rfl|rfl<;>decide),if_pos iy]
 rw[hR]
 obtain⟨n0,t,hn⟩:∃n0 t,e.names.getD []=n0::t:=by
  rcases iy with rfl|rfl|rfl
  .obtain⟨a,c,h⟩:=gY (kx (c:=2) hk rfl hc).1;exact⟨_,_,h⟩
  .obtain⟨a,c,h⟩:=gY (kx (c:=3) hk rfl hc).1;exact⟨_,_,h⟩
  .obtain⟨a,h⟩:=jR (kx (c:=1) hk rfl hc).1;exact⟨_,_,h⟩
 cases hp:z4 r.er n0 with
 |none=>
  unfold po;rw[fh hn,hp];unfold f153;simp only[ie hn,qa,F7 (jo b.P),yV,hp];exact⟨_,_,rfl,rfl,by decide⟩
 |some k=>
 obtain⟨p,g1,_,g3⟩:=BQ hp;have hm:=List.mem_of_getElem? g1;have hD:=b.D p hm
 have hpe:p.er∈r.er.ah:=by rw[yL];exact Iw hm
 have hkn:=w.bd _ hpe;have hkt:=w.aS _ hpe;have Wj:ku (·.k) (p.dn.getD []):=hkn.1;have Wk:(p.dn.getD []).length<=16:=hkn.2;have Wl:ku (·.k) (p.dt.getD []):=hkt.1;have Wm:(p.dt.getD []).length<=16:=hkt.2;rw[OE (fh hn) hp g3];unfold f153;simp only[ie hn,qa,F7 (jo b.P),yV,hp,H4,H2,cond_false,kg,q9 g1,jsu b (vw g1)];rcases iy with rfl|rfl|rfl
 .obtain⟨Y,I⟩:=kx (a:=2) (c:=2) hk rfl hc;obtain⟨n0',n1,jY⟩:=gY Y;obtain⟨v0,v1,hv⟩:=gY I;have h0:0<=v1:=iL v1 (by rw[hv];simp);obtain⟨v,ww,f1,f2⟩:=ju4 (x:=⟨n1,v1⟩) (nL hD.2.1) Wj h0;have f2:v.getD []=kE (p.dn.getD []) n1 v1:=f2;rw[if_pos hk,mY jY,vq hv];simp only[gW hv,gW jY,f1,show decide (e.kind=([110,101,101,100]:aj))=Hb from decide_eq_true hk,cond_true];by_cases hz:10000<v1
  .rw[decide_eq_true hz,if_pos (Or.inr hz)];exact⟨_,_,rfl,rfl,by decide⟩
  .rw[decide_eq_false hz,if_neg (show ¬(v1<0\/10000<v1) by omega)]
   have dF:({ r with ah:=E6 ((r.ah.getD []).set k ⟨p.name,v,p.dt,p.bm⟩) }:aw).er=bI r.er k { p.er with bW:={ p.er.bW with bd:=kE (p.dn.getD []) n1 v1 } }:=by
    rw[Gg rfl]
    congr 1
    simp only[bp.er,f2]
   have hlen:decide (16<((v.getD []).length:Int))=decide (16<(kE (p.dn.getD []) n1 v1).length):=by
    rw[f2];by_cases h:16<(kE (p.dn.getD []) n1 v1).length
    .rw[decide_eq_true h];exact decide_eq_true (by omega)
    .rw[decide_eq_false h];exact decide_eq_false (by omega)
   have mZ:16<(kE (p.dn.getD []) n1 v1).length↔(0<v1/\(!(p.dn.getD []).any (di n1))=Hb/\16<=(p.dn.getD []).length):=by
    unfold kE;by_cases wM:v1=0
    .rw[if_pos wM];have:=List.length_filter_le (fun x=>!di n1 x) (p.dn.getD []);constructor
     .intro h;omega
     .rintro ⟨h,_⟩;omega
    .rw[if_neg wM,q91 Wk];constructor
     .intro h;exact⟨by omega,h⟩
     .exact fun h=>h.2
   simp only[cond_false,hlen];by_cases kF:16<(kE (p.dn.getD []) n1 v1).length
   .rw[decide_eq_true kF,if_pos (mZ.1 kF)];cases ww<;>exact⟨_,_,rfl,rfl,by decide⟩
   .rw[decide_eq_false kF,if_neg (fun h=>kF (mZ.2 h))];cases ww<;>exact⟨_,_,rfl,rfl,dF⟩
 .obtain⟨Y,I⟩:=kx (a:=2) (c:=3) hk rfl hc;obtain⟨n0',n1,jY⟩:=gY Y;obtain⟨v0,v1,v2,hv⟩:=j3i I;obtain⟨v,ww,f1,f2⟩:=ju6 (x:=⟨n1,v1,v2⟩) (nL hD.2.2.1) Wl;have f2:v.getD []=ki (eL n1) ⟨n1,v1,v2⟩ (p.dt.getD []):=f2;rw[if_neg (show ¬e.kind=nH by rw[hk];decide),if_pos hk,mY jY,vq hv,vl2 hv];simp only[gW hv,j0t hv,gW jY,f1,show decide (e.kind=([110,101,101,100]:aj))=En from decide_eq_false (by rw[hk];decide),show decide (e.kind=([116,101,115,116]:aj))=Hb from decide_eq_true hk,cond_true,cond_false];by_cases hz:v2<v1
  .rw[decide_eq_true hz,if_pos hz];exact⟨_,_,rfl,rfl,by decide⟩
  .rw[decide_eq_false hz,if_neg hz]
   have dF:({ r with ah:=E6 ((r.ah.getD []).set k ⟨p.name,p.dn,v,p.bm⟩) }:aw).er=bI r.er k { p.er with bW:={ p.er.bW with aS:=ki (eL n1) ⟨n1,v1,v2⟩ (p.dt.getD []) } }:=by
    rw[Gg rfl]
    congr 1
    simp only[bp.er,f2]
   have hlen:decide (16<((v.getD []).length:Int))=decide (16<(ki (eL n1) ⟨n1,v1,v2⟩ (p.dt.getD [])).length):=by
    rw[f2];by_cases h:16<(ki (eL n1) ⟨n1,v1,v2⟩ (p.dt.getD [])).length
    .rw[decide_eq_true h];exact decide_eq_true (by omega)
    .rw[decide_eq_false h];exact decide_eq_false (by omega)
   have mZ:=q91 (p:=eL n1) (x:=(⟨n1,v1,v2⟩:jg)) Wm;simp only[cond_false,hlen];by_cases kF:16<(ki (eL n1) ⟨n1,v1,v2⟩ (p.dt.getD [])).length
   .rw[decide_eq_true kF,if_pos (mZ.1 kF)];cases ww<;>exact⟨_,_,rfl,rfl,by decide⟩
   .rw[decide_eq_false kF,if_neg (fun h=>kF (mZ.2 h))];cases ww<;>exact⟨_,_,rfl,rfl,dF⟩
 .rw[if_neg (show ¬e.kind=nH by rw[hk];decide),if_neg (show ¬e.kind=lO by rw[hk];decide)];simp only[show decide (e.kind=([110,101,101,100]:aj))=En from decide_eq_false (by rw[hk];decide),show decide (e.kind=([116,101,115,116]:aj))=En from decide_eq_false (by rw[hk];decide),cond_false,yQ (jo hD.1)];rw[Ge (o:=E6 (p.bm.getD [])) (by have:=nL hD.1;simp only[Hc,H3];omega) (by simp)]
  have pY:p.er.bm.length=(p.bm.getD []).length:=by show((p.bm.getD []).map cg.er).length=_;rw[H9]
  have hd:(p.dn.getD []).isEmpty=decide (((p.dn.getD []).length:Int)=0):=by
   cases p.dn.getD []with
   |nil=>rfl|cons x l=>simp;omega
  have dF:({ r with ah:=E6 ((r.ah.getD []).set k ⟨p.name,p.dn,p.dt,E6 (p.bm.getD []++[⟨p.dn,p.dt⟩])⟩) }:aw).er=bI r.er k { p.er with bm:=p.er.bm++[p.er.bW] }:=by
   rw[Gg rfl]
   congr 1
   simp only[bp.er,Hc,List.map_append,Ix,I6];rfl
  simp only[hd,pY]
  cases decide (((p.dn.getD []).length:Int)=0)with
  |true=>exact⟨_,_,rfl,rfl,by decide⟩
  |false=>
   by_cases I:100<=(p.bm.getD []).length
   .simp only[show decide (100<=((p.bm.getD []).length:Int))=Hb from decide_eq_true (by omega),if_pos I,Ha,if_false];exact⟨_,_,rfl,rfl,by decide⟩
   .simp only[show decide (100<=((p.bm.getD []).length:Int))=En from decide_eq_false (by omega),if_neg I,Ha,if_false];exact⟨_,_,rfl,rfl,dF⟩
end Go.Z
namespace Go.Z
open Go Go.Abs Go.W
variable {r:aw}{e:GEv}
theorem Wn {α:Type}(p:α->Bool):∀(l:List α) (c:Bool),l.foldl (fun c x=>if c then Hb else p x) c=(c||l.any p)
 | [],c=>by simp
 |x::l,c=>by
  rw[List.foldl_cons,Wn p l,List.any_cons];cases c<;>simp
theorem Wo {u}(h:u.ax=En):(⟨u.name,u.product,u.version,u.uses,u.results,u.partner,En,u.au⟩:bw)=u:=by cases u;simp only at h;rw[h]
theorem j6k (b:GB r)(w:WF r.er)(hk:e.kind=nI)(hc:qz e.er=0){k:Nat}{u n0 n1 v0 v1}(hn:e.names.getD []=[n0,n1])(hv:e.values.getD []=[v0,v1])(Y:(r.units.getD [])[k]?=E6 u):gX (f221 r (k:Int) e) (wY (qd .i64) r.er k u.er e.er):=by
 obtain⟨D,v,o⟩:=BT b w Y;unfold wY;rw[mY hn,vq hv,o.yU];unfold f221;simp only[q9 Y,gW hn,gW hv,qa,JD (jo b.L),yV]
 cases hq:z7 r.er n1 with
 |none=>exact⟨_,_,rfl,rfl,by decide⟩
 |some j=>
 obtain⟨x,h4,_⟩:=JZ hq;simp only[H4,H2,cond_false,kg,q9 h4,wW,h4];by_cases G:u.ax=Hb
 .rw[G,if_pos (show u.er.ax=Hb from G)];exact⟨_,_,rfl,rfl,by decide⟩
 rw[if_neg (show ¬u.er.ax=Hb from G)];rw[Ik]at G;simp only[Wo G,o.BS];rw[G];simp only[cond_false];by_cases hz:v1=0
 .rw[decide_eq_true hz,if_pos hz];exact⟨_,_,rfl,rfl,by decide⟩
 rw[decide_eq_false hz,if_neg hz];simp only[cond_false];by_cases hh:x.held=Hb
 .rw[hh];exact⟨_,_,rfl,rfl,by decide⟩
 have FO:x.held=En:=by simpa using hh
 have L:=F8 (D.bd.getD []) (yW r (k:Int) e u (j:Int) x D) (fun i (c:Bool)=>(c,(i:Int))) (fun c y=>if c then Hb else di x.kind y) (fun c=>(c,((D.bd.getD []).length:Int))) En (fun c=>by unfold yW;simp only[yd];rfl)
  (fun i c y hy hi=>by
   unfold yW;simp only[kj hi,cond_true,qa,q9 hy];rw[zd (by have:=o.bd;unfold BB at this;omega)]
   cases c<;>rfl)
 rw[Wn,Ib]at L;have L':bq (yW r (k:Int) e u (j:Int) x D) (En,0)=E6 ((D.bd.getD []).any (di x.kind),((D.bd.getD []).length:Int)):=L;rw[if_neg hh];simp only[FO,cond_false,L',I1,show D.er.bd=D.bd.getD []from rfl]
 cases (D.bd.getD []).any (di x.kind)with
 |false=>exact⟨_,_,rfl,rfl,by decide⟩
 |true=>
 simp only[cond_true,H2,Ha,if_false];by_cases hl:x.left<v1
 .rw[decide_eq_true hl,if_pos hl];exact⟨_,_,rfl,rfl,by decide⟩
 rw[decide_eq_false hl,if_neg hl];obtain⟨q,wq,q1,q2⟩:=jua (o:=u.uses) (k:=x.name) (n:=v1) (nL o.uses) o.keyed;rw[q1];simp only[cond_false,jcl b (vw h4)];rw[show(⟨u.name,u.product,u.version,q,u.results,u.partner,En,u.au⟩:bw)={ u with uses:=q } by rw[<-G]];have f56:=BZ (r:={ r with az:=E6 ((r.az.getD []).set j ⟨x.name,x.kind,x.count,qd .i64 (x.left-v1),En⟩) }) (x:={ u with uses:=q }) b.U (vw Y)
 have dF:({ r with az:=E6 ((r.az.getD []).set j ⟨x.name,x.kind,x.count,qd .i64 (x.left-v1),En⟩),units:=E6 ((r.units.getD []).set k { u with uses:=q }) }:aw).er=aH (cy r.er j ⟨x.name,x.kind,x.count,qd .i64 (x.left-v1),En⟩) k { u.er with uses:=oi (qd .i64) u.er.uses x.name v1 }:=by
  simp only[aw.er,aH,cy,Hc,I7]
  congr 2
  simp only[bw.er,q2]
 simp only[f56];cases wq<;>exact⟨_,_,rfl,rfl,dF⟩
theorem jzh (b:GB r)(hk:e.kind=og)(hc:qz e.er=0){k:Nat}{u n0 n1}(hn:e.names.getD []=[n0,n1])(Y:(r.units.getD [])[k]?=E6 u):gX (f222 r (k:Int) e) (wZ r.er k u.er e.er):=by
 unfold wZ;rw[mY hn];unfold f222;simp only[q9 Y,gW hn,qa,Oz (jo b.U),yV]
 cases hq:zq r.er n1 with
 |none=>exact⟨_,_,rfl,rfl,by decide⟩
 |some j=>
 obtain⟨v,h4,_,h5⟩:=qA hq;rw[kg];simp only[H4,H2,cond_false,q9 h4,h5];by_cases c1:k=j
 .rw[if_pos c1,@decide_eq_true ((j:Int)=(k:Int)) _ (by omega)];exact⟨_,_,rfl,rfl,by decide⟩
 rw[if_neg c1,@decide_eq_false ((j:Int)=(k:Int)) _ (by omega)];simp only[cond_false];by_cases c2:u.product=v.product
 case neg=>rw[decide_eq_false c2,if_pos (show u.er.product≠v.er.product\/u.er.version≠v.er.version from Or.inl c2)];exact⟨_,_,rfl,rfl,by decide⟩
 by_cases du:u.version=v.version
 case neg=>rw[decide_eq_true c2,decide_eq_false du,if_pos (show u.er.product≠v.er.product\/u.er.version≠v.er.version from Or.inr du)];exact⟨_,_,rfl,rfl,by decide⟩
 rw[if_neg (show ¬(u.er.product≠v.er.product\/u.er.version≠v.er.version)from fun h=>h.elim (fun h=>h c2) (fun h=>h du)),decide_eq_true c2,decide_eq_true du];simp only[cond_true];by_cases fi:u.ax=Hb
 .rw[if_pos (show u.er.ax=Hb\/v.er.ax=Hb from Or.inl fi),fi];exact⟨_,_,rfl,rfl,by decide⟩
 by_cases dv:v.ax=Hb
 .rw[if_pos (show u.er.ax=Hb\/v.er.ax=Hb from Or.inr dv)]
  have lR:u.ax=En:=by simpa using fi
  rw[lR,dv];exact⟨_,_,rfl,rfl,by decide⟩
 have lR:u.ax=En:=by simpa using fi
 have tu:v.ax=En:=by simpa using dv
 rw[if_neg (show ¬(u.er.ax=Hb\/v.er.ax=Hb)from fun h=>h.elim fi dv)];have f1:=BZ (r:=r) (x:={ u with partner:=v.name }) b.U (vw Y);have f2:=BZ (r:={ r with units:=E6 ((r.units.getD []).set k { u with partner:=v.name }) }) (k:=j) (x:={ v with partner:=u.name }) (by rw[Hc,Io];exact b.U) (by rw[Hc,Io];exact vw h4)
 have dF:({ r with units:=E6 (((r.units.getD []).set k { u with partner:=v.name }).set j { v with partner:=u.name }) }:aw).er=aH (aH r.er k { u.er with partner:=v.er.name }) j { v.er with partner:=u.er.name }:=by
  simp only[aw.er,aH,Hc,I7];rfl
 rw[show(⟨u.name,u.product,u.version,u.uses,u.results,v.name,En,u.au⟩:bw)={ u with partner:=v.name } by rw[<-lR],show(⟨v.name,v.product,v.version,v.uses,v.results,u.name,En,v.au⟩:bw)={ v with partner:=u.name } by rw[<-tu]];simp only[f1,f2];rw[lR,tu]at dF ⊢;simp only[cond_false];by_cases ei:u.partner=[]
 case neg=>rw[if_pos (show u.er.partner≠[]\/v.er.partner≠[]from Or.inl ei),decide_eq_false ei];exact⟨_,_,rfl,rfl,by decide⟩
 by_cases ol:v.partner=[]
 case neg=>rw[if_pos (show u.er.partner≠[]\/v.er.partner≠[]from Or.inr ol),decide_eq_true ei,decide_eq_false ol];exact⟨_,_,rfl,rfl,by decide⟩
 rw[if_neg (show ¬(u.er.partner≠[]\/v.er.partner≠[])from fun h=>h.elim (fun h=>h ei) (fun h=>h ol)),decide_eq_true ei,decide_eq_true ol];exact⟨_,_,rfl,rfl,dF⟩
theorem Gk (b:GB r)(w:WF r.er){kk:aj}(iy:kk=nI\/kk=og\/kk=pW\/kk=rH\/kk=lP\/kk=yK)(hk:e.kind=kk)(hc:qz e.er=0):gX (f155 r e) (apply (qd .i64) r.er e.er):=by
 rw[ll hk (by rcases iy with rfl|rfl|rfl|rfl|rfl|rfl<;>decide) (by rcases iy with rfl|rfl|rfl|rfl|rfl|rfl<;>decide),if_neg (by rcases iy with rfl|rfl|rfl|rfl|rfl|rfl<;>decide)]
 obtain⟨n0,t,hn⟩:∃n0 t,e.names.getD []=n0::t:=by
  rcases iy with rfl|rfl|rfl|rfl|rfl|rfl
  .obtain⟨a,c,h⟩:=gY (kx (c:=2) hk rfl hc).1;exact⟨_,_,h⟩
  .obtain⟨a,c,h⟩:=gY (kx (c:=1) hk rfl hc).1;exact⟨_,_,h⟩
  .obtain⟨a,c,h⟩:=gY (kx (c:=2) hk rfl hc).1;exact⟨_,_,h⟩
  .obtain⟨a,h⟩:=jR (kx (c:=1) hk rfl hc).1;exact⟨_,_,h⟩
  .obtain⟨a,h⟩:=jR (kx (c:=1) hk rfl hc).1;exact⟨_,_,h⟩
  .obtain⟨a,h⟩:=jR (kx (c:=1) hk rfl hc).1;exact⟨_,_,h⟩
 cases hp:zq r.er n0 with
 |none=>
  unfold pq;rw[fh hn,hp];unfold f155;simp only[ie hn,qa,Oz (jo b.U),yV,hp];exact⟨_,_,rfl,rfl,by decide⟩
 |some k=>
 obtain⟨u,Y,_,h3⟩:=qA hp;obtain⟨D,v,o⟩:=BT b w Y;rw[wX (fh hn) hp h3];unfold f155;simp only[ie hn,qa,Oz (jo b.U),yV,hp,H4,H2,cond_false,kg,q9 Y];rcases iy with rfl|rfl|rfl|rfl|rfl|rfl
 .obtain⟨g1,g2⟩:=kx (a:=2) (c:=2) hk rfl hc;obtain⟨a,c,jY⟩:=gY g1;obtain⟨v0,v1,hv⟩:=gY g2;rw[if_pos hk,show decide (e.kind=([117,115,101]:aj))=Hb from decide_eq_true hk];obtain⟨r',cc,q1,q2⟩:=j6k b w hk hc jY hv Y;simp only[cond_true,q1];exact⟨_,_,rfl,q2⟩
 .obtain⟨g1,g2⟩:=kx (a:=2) (c:=1) hk rfl hc;obtain⟨a,c,jY⟩:=gY g1;rw[if_neg (show ¬e.kind=nI by rw[hk];decide),if_pos hk,show decide (e.kind=([117,115,101]:aj))=En from decide_eq_false (by rw[hk];decide),show decide (e.kind=([112,97,105,114]:aj))=Hb from decide_eq_true hk];obtain⟨r',cc,q1,q2⟩:=jzh b hk hc jY Y;simp only[cond_true,cond_false,q1];exact⟨_,_,rfl,q2⟩
 .obtain⟨g1,g2⟩:=kx (a:=2) (c:=2) hk rfl hc;obtain⟨a,n1,jY⟩:=gY g1;obtain⟨v0,v1,hv⟩:=gY g2;rw[if_neg (show ¬e.kind=nI by rw[hk];decide),if_neg (show ¬e.kind=og by rw[hk];decide),if_pos hk,show decide (e.kind=([117,115,101]:aj))=En from decide_eq_false (by rw[hk];decide),show decide (e.kind=([112,97,105,114]:aj))=En from decide_eq_false (by rw[hk];decide),show decide (e.kind=([109,101,97,115,117,114,101]:aj))=Hb from decide_eq_true hk,mY jY,vq hv,o.yU];simp only[cond_true,cond_false];by_cases G:u.ax=Hb
  .rw[G];exact⟨_,_,rfl,rfl,by decide⟩
  have gC:u.ax=En:=by simpa using G
  have L:=F8 (D.aS.getD []) (yX r e (k:Int) u D) (fun i (c:Bool)=>(c,(i:Int))) (fun c y=>if c then Hb else eL n1 y) (fun c=>(c,((D.aS.getD []).length:Int))) En (fun c=>by unfold yX;simp only[yd];rfl)
   (fun i c y hy hi=>by
    unfold yX;simp only[kj hi,cond_true,qa,q9 hy,gW jY];rw[zd (by have:=o.aS;unfold BB at this;omega)]
    cases c<;>rfl)
  rw[Wn,Ib]at L;have L':bq (yX r e (k:Int) u D) (En,0)=E6 ((D.aS.getD []).any (eL n1),((D.aS.getD []).length:Int)):=L;rw[if_neg G];simp only[Wo gC,o.BS,L',gW jY,gW hv,yQ (jo o.results)];rw[gC,Ge (o:=E6 (u.results.getD [])) (by have:=nL o.results;simp only[Hc,H3];omega) (by simp)];simp only[cond_false,I1,show D.er.aS=D.aS.getD []from rfl]
  cases (D.aS.getD []).any (eL n1)with
  |false=>exact⟨_,_,rfl,rfl,by decide⟩
  |true=>
   have f56:=BZ (r:=r) (x:={ u with results:=E6 (u.results.getD []++[⟨n1,u.version,v1⟩]) }) b.U (vw Y)
   have dF:({ r with units:=E6 ((r.units.getD []).set k { u with results:=E6 (u.results.getD []++[⟨n1,u.version,v1⟩]) }) }:aw).er=aH r.er k { u.er with results:=u.results.getD []++[⟨n1,u.version,v1⟩] }:=by rw[yT rfl];rfl
   rw[gC]at f56;by_cases I:64<=(u.results.getD []).length
   .simp only[show decide (64<=((u.results.getD []).length:Int))=Hb from decide_eq_true (by omega),if_pos I,H2,Ha,if_false,cond_true];exact⟨_,_,rfl,rfl,by decide⟩
   .simp only[show decide (64<=((u.results.getD []).length:Int))=En from decide_eq_false (by omega),if_neg I,H2,Ha,if_false,cond_true,cond_false,Hc,f56];rw[gC]at dF;exact⟨_,_,rfl,rfl,dF⟩
 .rw[if_neg (show ¬e.kind=nI by rw[hk];decide),if_neg (show ¬e.kind=og by rw[hk];decide),if_neg (show ¬e.kind=pW by rw[hk];decide),if_pos hk,show decide (e.kind=([117,115,101]:aj))=En from decide_eq_false (by rw[hk];decide),show decide (e.kind=([112,97,105,114]:aj))=En from decide_eq_false (by rw[hk];decide),show decide (e.kind=([109,101,97,115,117,114,101]:aj))=En from decide_eq_false (by rw[hk];decide),show decide (e.kind=([117,112,100,97,116,101]:aj))=Hb from decide_eq_true hk,o.new];simp only[cond_true,cond_false];by_cases G:u.ax=Hb
  .rw[G];exact⟨_,_,rfl,rfl,by decide⟩
  have gC:u.ax=En:=by simpa using G
  rw[if_neg G];have f56:=BZ (r:=r) (x:={ u with version:=v }) b.U (vw Y)
  have dF:({ r with units:=E6 ((r.units.getD []).set k { u with version:=v }) }:aw).er=aH r.er k { u.er with version:=v }:=by rw[yT rfl];rfl
  rw[gC]at f56 dF;simp only[Wo gC,(OA (jo b.P) o.new).2,f56];rw[gC];simp only[cond_false];by_cases h:u.version=v
  .rw[decide_eq_true h,if_pos h];exact⟨_,_,rfl,rfl,by decide⟩
  .rw[decide_eq_false h,if_neg h];exact⟨_,_,rfl,rfl,dF⟩
 .rw[if_neg (show ¬e.kind=nI by rw[hk];decide),if_neg (show ¬e.kind=og by rw[hk];decide),if_neg (show ¬e.kind=pW by rw[hk];decide),if_neg (show ¬e.kind=rH by rw[hk];decide),if_pos hk,show decide (e.kind=([117,115,101]:aj))=En from decide_eq_false (by rw[hk];decide),show decide (e.kind=([112,97,105,114]:aj))=En from decide_eq_false (by rw[hk];decide),show decide (e.kind=([109,101,97,115,117,114,101]:aj))=En from decide_eq_false (by rw[hk];decide),show decide (e.kind=([117,112,100,97,116,101]:aj))=En from decide_eq_false (by rw[hk];decide),show decide (e.kind=([115,104,105,112]:aj))=Hb from decide_eq_true hk];have g2:=jvd (jo b.P) o.new (jo b.L) (jo o.uses) o.az o.BS o.yU (jo o.bd) (jo o.results) (jo o.aS);have f56:=BZ (r:=r) (x:={ u with ax:=Hb }) b.U (vw Y);simp only[cond_true,cond_false,g2,f56];by_cases h:vp (qd .i64) r.er u.er=0
  .rw[decide_eq_true h,if_neg (fun hh=>hh h)];exact⟨_,_,rfl,rfl,yT rfl⟩
  .rw[decide_eq_false h,if_pos h];exact⟨_,_,rfl,rfl,h⟩
 .rw[if_neg (show ¬e.kind=nI by rw[hk];decide),if_neg (show ¬e.kind=og by rw[hk];decide),if_neg (show ¬e.kind=pW by rw[hk];decide),if_neg (show ¬e.kind=rH by rw[hk];decide),if_neg (show ¬e.kind=lP by rw[hk];decide),show decide (e.kind=([117,115,101]:aj))=En from decide_eq_false (by rw[hk];decide),show decide (e.kind=([112,97,105,114]:aj))=En from decide_eq_false (by rw[hk];decide),show decide (e.kind=([109,101,97,115,117,114,101]:aj))=En from decide_eq_false (by rw[hk];decide),show decide (e.kind=([117,112,100,97,116,101]:aj))=En from decide_eq_false (by rw[hk];decide),show decide (e.kind=([115,104,105,112]:aj))=En from decide_eq_false (by rw[hk];decide)];have f56:=BZ (r:=r) (x:={ u with au:=qd .i64 (u.au+1) }) b.U (vw Y)
  have dF:({ r with units:=E6 ((r.units.getD []).set k { u with au:=qd .i64 (u.au+1) }) }:aw).er=aH r.er k { u.er with au:=qd .i64 (u.au+1) }:=by rw[yT rfl];rfl
  simp only[cond_false];by_cases G:u.ax=Hb
  .rw[G]at f56 dF ⊢;simp only[f56];exact⟨_,_,rfl,rfl,dF⟩
  .have gC:u.ax=En:=by simpa using G
   rw[gC];exact⟨_,_,rfl,rfl,by decide⟩
end Go.Z
namespace Go.Z
open Go Go.Abs Go.W
variable {r:aw}{e:GEv}
def zfv (v0:Int):rK->rK
 | .error k=>.error k| .ok s=>.ok { s with day:=v0 }
theorem py {v0 x y}(h:gX x y):gX (qa x fun v=>E6 (⟨v0,v.1.az,v.1.ah,v.1.units⟩,v.2)) (zfv v0 y):=by
 obtain⟨r',c,rfl,I⟩:=h
 cases y with
 |error k=>exact⟨_,_,rfl,I⟩|ok s=>exact⟨_,_,rfl,I.1,by rw[<-I.2];rfl⟩
theorem j2m (b:GB r)(w:WF r.er)(hc:qz e.er=0)(hu:e.kind≠oh)(iL:∀v∈e.values.getD [],0<=v):gX (f74 r e) (after (qd .i64) r.er e.er):=by
 obtain⟨_,f,Y,dQ,dW⟩:=Wg hc
 have hm:(e.kind,f.1,f.2)∈cA:=by
  unfold ye at Y
  cases hf:cA.find? (fun x=>decide (x.1=e.er.kind))with
  |none=>rw[hf]at Y;cases Y
  |some x=>
   rw[hf]at Y;have I:=List.find?_some hf;have h3:=List.mem_of_find?_eq_some hf;have h4:x.1=e.kind:=of_decide_eq_true I
   have h5:x.2=f:=by simpa using Y
   rw[<-h4,<-h5];exact h3
 have iw:∃v0 t,e.values.getD []=v0::t:=by
  have:(e.values.getD []).length=f.2:=dW
  cases hv:e.values.getD []with
  |cons v t=>exact⟨v,t,rfl⟩
  |nil=>
   rw[hv]at this;simp only[cA,I5,Prod.mk.injEq,Iy,or_false]at hm;simp only[List.length_nil]at this
   rcases hm with h|h|h|h|h|h|h|h|h|h|h|h|h|h|h<;>first|(exfalso;omega)|exact absurd h.1 hu
 obtain⟨v0,t,hv⟩:=iw;unfold f74 after;rw[ie hv,vl0 hv];simp only[qa];by_cases hd:v0<r.day
 .rw[decide_eq_true hd,if_pos (show v0<r.er.day from hd)];exact⟨_,_,rfl,rfl,by decide⟩
 rw[decide_eq_false hd,if_neg (show ¬v0<r.er.day from hd)];have yY:e.kind∈cA.map (·.1):=Iw (f:=(·.1)) hm;simp only[cA,Ix,I6,I5,List.mem_singleton,Iy,or_false]at yY
 have nk:∀ {k k':aj},e.kind=k->decide (k=k')=En->decide (e.kind=k')=En:=by
  intro k k' h I;rw[h];exact I
 have yk:∀ {k:aj},e.kind=k->decide (e.kind=k)=Hb:=fun h=>decide_eq_true h;simp only[cond_false];rcases yY with h|h|h|h|h|h|h|h|h|h|h|h|h|h|h
 .have q:=py (v0:=v0) (j6d b h hc);rw[show decide (e.kind=([108,111,116]:aj))=Hb from yk h];exact q
 .have q:=py (v0:=v0) (jiu b h hc);rw[show decide (e.kind=([108,111,116]:aj))=En from nk h rfl,show decide (e.kind=([112,114,111,100,117,99,116]:aj))=Hb from yk h];exact q
 .have q:=py (v0:=v0) (Wi b w (.inl rfl) h hc iL);rw[show decide (e.kind=([108,111,116]:aj))=En from nk h rfl,show decide (e.kind=([112,114,111,100,117,99,116]:aj))=En from nk h rfl,show decide (e.kind=([98,117,105,108,100]:aj))=En from nk h rfl,show decide (e.kind=([110,101,101,100]:aj))=Hb from yk h];exact q
 .have q:=py (v0:=v0) (Wi b w (.inr (.inl rfl)) h hc iL);rw[show decide (e.kind=([108,111,116]:aj))=En from nk h rfl,show decide (e.kind=([112,114,111,100,117,99,116]:aj))=En from nk h rfl,show decide (e.kind=([98,117,105,108,100]:aj))=En from nk h rfl,show decide (e.kind=([110,101,101,100]:aj))=En from nk h rfl,show decide (e.kind=([116,101,115,116]:aj))=Hb from yk h];exact q
 .have q:=py (v0:=v0) (Wi b w (.inr (.inr rfl)) h hc iL);rw[show decide (e.kind=([108,111,116]:aj))=En from nk h rfl,show decide (e.kind=([112,114,111,100,117,99,116]:aj))=En from nk h rfl,show decide (e.kind=([98,117,105,108,100]:aj))=En from nk h rfl,show decide (e.kind=([110,101,101,100]:aj))=En from nk h rfl,show decide (e.kind=([116,101,115,116]:aj))=En from nk h rfl,show decide (e.kind=([105,115,115,117,101]:aj))=Hb from yk h];exact q
 .have q:=py (v0:=v0) (jr9 b h hc);rw[show decide (e.kind=([108,111,116]:aj))=En from nk h rfl,show decide (e.kind=([112,114,111,100,117,99,116]:aj))=En from nk h rfl,show decide (e.kind=([98,117,105,108,100]:aj))=Hb from yk h];exact q
 all_goals try rw[show decide (e.kind=([108,111,116]:aj))=En from nk h rfl,show decide (e.kind=([112,114,111,100,117,99,116]:aj))=En from nk h rfl,show decide (e.kind=([98,117,105,108,100]:aj))=En from nk h rfl,show decide (e.kind=([110,101,101,100]:aj))=En from nk h rfl,show decide (e.kind=([116,101,115,116]:aj))=En from nk h rfl,show decide (e.kind=([105,115,115,117,101]:aj))=En from nk h rfl]
 .rw[show decide (e.kind=([104,111,108,100]:aj))=En from nk h rfl,show decide (e.kind=([102,114,101,101]:aj))=En from nk h rfl];exact py (v0:=v0) (Gk b w (by simp) h hc)
 .rw[show decide (e.kind=([104,111,108,100]:aj))=En from nk h rfl,show decide (e.kind=([102,114,101,101]:aj))=En from nk h rfl];exact py (v0:=v0) (Gk b w (by simp) h hc)
 .rw[show decide (e.kind=([104,111,108,100]:aj))=En from nk h rfl,show decide (e.kind=([102,114,101,101]:aj))=En from nk h rfl];exact py (v0:=v0) (Gk b w (by simp) h hc)
 .rw[show decide (e.kind=([104,111,108,100]:aj))=En from nk h rfl,show decide (e.kind=([102,114,101,101]:aj))=En from nk h rfl];exact py (v0:=v0) (Gk b w (by simp) h hc)
 .rw[show decide (e.kind=([104,111,108,100]:aj))=Hb from yk h];exact py (v0:=v0) (jhj b Hb h hc)
 .rw[show decide (e.kind=([104,111,108,100]:aj))=En from nk h rfl,show decide (e.kind=([102,114,101,101]:aj))=Hb from yk h];exact py (v0:=v0) (jhj b En h hc)
 .rw[show decide (e.kind=([104,111,108,100]:aj))=En from nk h rfl,show decide (e.kind=([102,114,101,101]:aj))=En from nk h rfl];exact py (v0:=v0) (Gk b w (by simp) h hc)
 .rw[show decide (e.kind=([104,111,108,100]:aj))=En from nk h rfl,show decide (e.kind=([102,114,101,101]:aj))=En from nk h rfl];exact py (v0:=v0) (Gk b w (by simp) h hc)
 .exact absurd h hu
end Go.Z
namespace Go.Z
open Go Go.Abs Go.W
def J4 (s:aj):Bool:=decide (s≠[])&&decide (s.length<=24)&&vz 0 s
theorem qts {s:aj}{i c}(hc:s[i]?=E6 c):vz i (s.drop i)=(qB i c.toNat&&vz (i+1) (s.drop (i+1))):=by
 rw[rF hc];rfl
theorem j0e {s:aj}:f78 s=E6 (J4 s):=by
 unfold f78 J4;by_cases h0:s=[]
 .subst h0;rfl
 have hl:¬((s.length:Int)=0):=by
  intro h;exact h0 (List.eq_nil_of_length_eq_zero (by omega))
 by_cases Y:(24:Int)<s.length
 .have I:¬s.length<=24:=by omega
  simp[hl,h0,Y,I]
 .have I:s.length<=24:=by omega
  obtain⟨d,g1,g2⟩:=JB s.length (fun i=>(i:Int)) (yZ s) (fun d=>match d with | .inl _=>En | .inr _=>Hb) (fun i=>vz i (s.drop i)) ⟨.inr _,by unfold yZ;rw[yd];rfl,by rw[Ip (Nat.le_refl _)];rfl⟩ (fun i hi=>by
   obtain⟨c,hc⟩:∃c,s[i]?=E6 c:=⟨_,Ij hi⟩;unfold yZ;rw[qts hc,kj hi,cond_true,q9 hc,qi];simp only[jiy hi (show s.length<=9223372036854775807 by omega)];unfold qB
   have M:0<=(c.toNat:Int):=by omega
   generalize (c.toNat:Int)=x at M ⊢;by_cases z:i=0
   ·subst z
    rcases kinds x with h|h|h|h|h|h|h|h|h <;>
     simp (disch:=omega) only[decide_eq_true,decide_eq_false,cond_true,cond_false,If,Ib,Il,Ig,Ic,Ia] <;>
     first
      |exact .inl ⟨trivial,trivial⟩
      |exact .inl ⟨rfl,trivial⟩
      |exact .inl ⟨rfl,rfl⟩
      |exact .inr ⟨_,rfl,rfl⟩
   ·rcases kinds x with h|h|h|h|h|h|h|h|h <;>
     simp (disch:=omega) only[decide_eq_true,decide_eq_false,cond_true,cond_false,If,I9,Ib,Il,Ig,Ic,Ia] <;>
     first
      |exact .inl ⟨trivial,trivial⟩
      |exact .inl ⟨rfl,trivial⟩
      |exact .inl ⟨rfl,rfl⟩
      |exact .inr ⟨_,rfl,rfl⟩)
  have g1:bq (yZ s) 0=E6 d:=g1;rw[decide_eq_false hl,cond_false,decide_eq_false Y,cond_false,g1,qi];simp only[h0,I,ne_eq,not_false_eq_true,decide_true,Ic];rw[I3]at g2;rw[<-g2];cases d<;>rfl
theorem qx1 {s i c}(hc:s[i]?=E6 c):(c.toNat<128/\qj s i=(c.toNat,1))\/(128<=c.toNat/\128<=(qj s i).1):=by
 by_cases h:c.toNat<128
 .exact .inl ⟨h,Ok hc h⟩
 .exact .inr ⟨by omega,VC hc h⟩
theorem q30 {i x}(h:128<=x):qB i x=En:=by
 unfold qB;simp (disch:=omega) only[decide_eq_false,Bool.or_self,Iq]
def zdo:Nat->Option Nat
 |0=>none|i+1=>E6 (i+1)
theorem Wp {s:aj}:f105 s=E6 (J4 s):=by
 unfold f105
 obtain⟨d,g1,g2⟩:=JB s.length zdo (J5 s) (fun d=>match d with | .inl _=>En | .inr _=>Hb) (fun i=>vz i (s.drop i)) (by
   rw[Ip (Nat.le_refl _)]
   cases hn:s.length with
   |zero=>
    refine⟨.inr 0,?_,rfl⟩;show zC s=_;unfold zC;rw[hn];rfl
   |succ n=>
    refine⟨.inr (n+1),?_,rfl⟩;show zE s (n+1)=_;unfold zE
    rw[hn,decide_eq_false (by omega)];rfl) (fun i hi=>by
   obtain⟨c,hc⟩:∃c,s[i]?=E6 c:=⟨_,Ij hi⟩;rw[qts hc]
   cases i with
   |zero=>
    show(zC s=_/\_)\/(∃d,zC s=_/\_);unfold zC;rw[decide_eq_true hi,cond_true];rcases qx1 hc with⟨bg,he⟩|⟨oR,Q⟩
    ·rw[he];simp only[]
     have M:0<=(c.toNat:Int):=by omega
     unfold qB;generalize (c.toNat:Int)=x at M ⊢
     rcases kinds x with h|h|h|h|h|h|h|h|h <;>
      simp (disch:=omega) only[decide_eq_true,decide_eq_false,cond_true,cond_false,If,Ib,Il,Ig,Ic,Ia] <;>
      first
       |exact .inl ⟨trivial,trivial⟩
       |exact .inl ⟨rfl,trivial⟩
       |exact .inl ⟨rfl,rfl⟩
       |exact .inr ⟨_,rfl,rfl⟩
    ·rw[q30 (by omega)];generalize hd:qj s 0=dd at Q ⊢
     have kT:(128:Int)<=(dd.1:Int):=by omega
     generalize (dd.1:Int)=x at kT ⊢;simp (disch:=omega) only[decide_eq_true,decide_eq_false,cond_true,cond_false,Ia];exact .inr ⟨_,rfl,rfl⟩
   |succ i=>
    show(zE s (i+1)=_/\_)\/(∃d,zE s (i+1)=_/\_);unfold zE;rw[decide_eq_true hi,cond_true];rcases qx1 hc with⟨bg,he⟩|⟨oR,Q⟩
    ·rw[he];simp only[]
     have M:0<=(c.toNat:Int):=by omega
     unfold qB;generalize (c.toNat:Int)=x at M ⊢;have e0:decide (((i+1:Nat):Int)=0)=En:=decide_eq_false (by omega)
     rcases kinds x with h|h|h|h|h|h|h|h|h <;>
      simp (disch:=omega) only[e0,decide_eq_true,decide_eq_false,cond_true,cond_false,If,I9,Ib,Il,Ig,Ic,Ia] <;>
      first
       |exact .inl ⟨trivial,trivial⟩
       |exact .inl ⟨rfl,trivial⟩
       |exact .inl ⟨rfl,rfl⟩
       |exact .inr ⟨_,rfl,rfl⟩
    ·rw[q30 (by omega)];generalize hd:qj s (i+1)=dd at Q ⊢
     have kT:(128:Int)<=(dd.1:Int):=by omega
     have e0:decide (((i+1:Nat):Int)=0)=En:=decide_eq_false (by omega);generalize (dd.1:Int)=x at kT ⊢;simp (disch:=omega) only[e0,decide_eq_true,decide_eq_false,cond_true,cond_false,Ia]
     exact .inr ⟨_,rfl,rfl⟩)
 have g1:bq (J5 s) none=E6 d:=g1;rw[g1,qi];unfold J4;rw[I3]at g2
 cases d with
 |inl d=>simp only[]at g2;rw[<-g2];simp
 |inr d=>
  simp only[]at g2;rw[<-g2];by_cases h0:s=[]
  .subst h0;rfl
  .have e:decide ((s.length:Int)<=24)=decide (s.length<=24):=by by_cases h:s.length<=24<;>simp[h]<;>omega
   rw[e];simp[h0]
theorem jcf {c}:qB 0 (c.toNat:Int)=rM c:=by
 unfold qB rM
 have h:∀a b:Nat,(decide ((a:Int)<=(c.toNat:Int)/\(c.toNat:Int)<=(b:Int)))=(decide (a<=c.toNat)&&decide (c.toNat<=b)):=by
  intro a b;by_cases Y:a<=c.toNat<;>by_cases I:c.toNat<=b<;>simp[Y,I]<;>omega
 rw[show(65:Int)=((65:Nat):Int)from rfl,show(90:Int)=((90:Nat):Int)from rfl,show(97:Int)=((97:Nat):Int)from rfl,show(122:Int)=((122:Nat):Int)from rfl,h,h];simp
theorem jwq {c i}:qB (i+1) (c.toNat:Int)=(rM c||zF c):=by
 rw[<-jcf];unfold qB zF
 have h:(decide ((48:Int)<=(c.toNat:Int)/\(c.toNat:Int)<=(57:Int)))=(decide (48<=c.toNat)&&decide (c.toNat<=57)):=by
  by_cases Y:48<=c.toNat<;>by_cases I:c.toNat<=57<;>simp[Y,I]<;>omega
 have h3:decide ((c.toNat:Int)=95)=decide (c.toNat=95):=by
  by_cases Y:c.toNat=95
  .rw[decide_eq_true Y];exact decide_eq_true (by omega)
  .rw[decide_eq_false Y];exact decide_eq_false (by omega)
 rw[h,h3];simp
theorem q8x:∀ (s:aj) (i:Nat),vz (i+1) s=s.all fun c=>rM c||zF c
 | [],_=>rfl
 |c::s,i=>by
  show(qB (i+1) c.toNat&&vz (i+1+1) s)=_;rw[jwq,q8x s (i+1)];rfl
theorem OJ {s}:J4 s=Go.W.cj s:=by
 cases s with
 |nil=>rfl
 |cons c t=>
  show(decide (c::t≠[])&&decide ((c::t).length<=24)&&(qB 0 c.toNat&&vz 1 t))=(rM c&&t.all (fun c=>rM c||zF c)&&decide ((c::t).length<=24));rw[jcf,q8x t 0,show decide (c::t≠[])=Hb from decide_eq_true (by simp)];cases rM c<;>cases t.all (fun c=>rM c||zF c)<;>cases decide ((c::t).length<=24)<;>rfl
variable {e:GEv}
theorem jtw {s}:Gl s=E6 (if Go.W.cj s then 0 else 8):=by
 unfold Gl;rw[Wp,OJ];simp only[qa,yn];cases Go.W.cj s<;>rfl
theorem Wq {α:Type}{p c}(hc:c≠0):∀l:List α,fW (l.map fun x=>if p x then 0 else c)=if l.all p then 0 else c
 | []=>rfl
 |x::l=>by
  rw[Ix,List.all_cons]
  cases p x with
  |true=>simp only[if_true,fW,Ic];exact Wq hc l|false=>simp[fW,hc]
theorem jbz {o}(hl:(o.getD []).length<=SM):f35 o=E6 (fW (o.getD [])):=by
 cases o with
 |none=>exact jD (l:=[]) (Nat.zero_le _)|some l=>exact jD hl
theorem juj {o}(hl:(o.getD []).length<=SM):∃w,f125 o=E6 (jh ((o.getD []).map fun s=>if Go.W.cj s then 0 else 8),w):=by
 unfold f125;rw[BG (f:=J6 o) (l:=o.getD []) (g:=fun s=>if Go.W.cj s then(0:Int)else 8) (q:=Gl) hl (fun x _=>jtw) (fun s=>rfl)];exact⟨_,rfl⟩
def tv (n:Int):Bool:=decide (0<=n)&&decide (n<=999999999)
theorem jrt {n}:Gm n=E6 (if tv n then 0 else 3):=by
 unfold Gm;rw[OC];simp only[qa];unfold tv;by_cases Y:n<0
 .rw[if_pos (Or.inl Y),decide_eq_false (by omega)];rfl
 .by_cases I:999999999<n
  .rw[if_pos (Or.inr I),decide_eq_true (by omega),decide_eq_false (by omega)];rfl
  .rw[if_neg (by omega),decide_eq_true (by omega),decide_eq_true (by omega)];rfl
theorem jvc {o}(hl:(o.getD []).length<=SM):∃w,f127 o=E6 (jh ((o.getD []).map fun s=>if tv s then 0 else 3),w):=by
 unfold f127;rw[BG (f:=J7 o) (l:=o.getD []) (g:=fun s=>if tv s then(0:Int)else 3) (q:=Gm) hl (fun x _=>jrt) (fun s=>rfl)];exact⟨_,rfl⟩
theorem Wr:∀ (k:aj),pX k=none/\ye k=none\/∃f,pX k=E6 f/\ye k=E6 (f.2.1.length,f.2.2.1.toNat)/\0<=f.2.2.1:=by
 intro k;unfold pX ye jC cA;simp only[I2,List.find?_nil,eq_comm (a:=k)];by_cases Y:nG=k
 .simp[Y]
 by_cases I:oe=k
 .simp[Y,I]
 by_cases h3:nH=k
 .simp[Y,I,h3]
 by_cases h4:lO=k
 .simp[Y,I,h3,h4]
 by_cases h5:rG=k
 .simp[Y,I,h3,h4,h5]
 by_cases h6:pV=k
 .simp[Y,I,h3,h4,h5,h6]
 by_cases h7:nI=k
 .simp[Y,I,h3,h4,h5,h6,h7]
 by_cases h8:pW=k
 .simp[Y,I,h3,h4,h5,h6,h7,h8]
 by_cases h9:rH=k
 .simp[Y,I,h3,h4,h5,h6,h7,h8,h9]
 by_cases et:og=k
 .simp[Y,I,h3,h4,h5,h6,h7,h8,h9,et]
 by_cases fK:pi=k
 .simp[Y,I,h3,h4,h5,h6,h7,h8,h9,et,fK]
 by_cases kG:tm=k
 .simp[Y,I,h3,h4,h5,h6,h7,h8,h9,et,fK,kG]
 by_cases gv:lP=k
 .simp[Y,I,h3,h4,h5,h6,h7,h8,h9,et,fK,kG,gv]
 by_cases jS:yK=k
 .simp[Y,I,h3,h4,h5,h6,h7,h8,h9,et,fK,kG,gv,jS]
 by_cases rN:oh=k
 .simp[Y,I,h3,h4,h5,h6,h7,h8,h9,et,fK,kG,gv,jS,rN]
 .simp[Y,I,h3,h4,h5,h6,h7,h8,h9,et,fK,kG,gv,jS,rN]
theorem J8 (Y:(e.names.getD []).length<=SM)(I:(e.values.getD []).length<=SM):f41 e=E6 (qz e.er):=by
 obtain⟨w1,g1⟩:=juj Y;obtain⟨w2,g2⟩:=jvc I
 have q1:f35 (jh ((e.names.getD []).map fun s=>if Go.W.cj s then(0:Int)else 8))=E6 (if(e.names.getD []).all Go.W.cj then 0 else 8):=by
  rw[jbz (by rw[zc,H9];exact Y),zc,Wq (by decide)]
 have q2:f35 (jh ((e.values.getD []).map fun s=>if tv s then(0:Int)else 3))=E6 (if(e.values.getD []).all tv then 0 else 3):=by
  rw[jbz (by rw[zc,H9];exact I),zc,Wq (by decide)]
 unfold f41;simp only[OC,yn,qa,g1,g2,q1,q2];rw[jD (by simp[SM])];simp only[];rw[jD (by simp[SM])];unfold qz;rw[show e.er.number=e.number from rfl,show e.er.kind=e.kind from rfl,show e.er.names=e.names.getD []from rfl,show e.er.values=e.values.getD []from rfl,show e.er.text=e.text from rfl,show(fun n=>decide (0<=n)&&decide (n<=999999999))=tv from rfl];by_cases c1:e.number<1\/1000<e.number
 .rw[if_pos c1,if_pos c1];rfl
 rw[if_neg c1,if_neg c1];rcases Wr e.kind with⟨c2,du⟩|⟨f,c2,du,fi⟩
 .rw[du];simp only[mC,zb,mA,c2];simp[fW]
 rw[du];simp only[mC,zb,mA,c2,H4,H2,Ha,if_false];by_cases dv:(e.names.getD []).length≠f.2.1.length\/(e.values.getD []).length≠f.2.2.1.toNat
 .have:(!(decide (((e.names.getD []).length:Int)=(f.2.1.length:Int))&&decide (((e.values.getD []).length:Int)=f.2.2.1)))=Hb:=by
   rcases dv with dv|dv
   .rw[decide_eq_false (by omega)];rfl
   .rw[decide_eq_false (p:=((e.values.getD []).length:Int)=f.2.2.1) (by omega),Iq];rfl
  rw[this,if_pos dv];rfl
 .have:(!(decide (((e.names.getD []).length:Int)=(f.2.1.length:Int))&&decide (((e.values.getD []).length:Int)=f.2.2.1)))=En:=by
   rw[decide_eq_true (by omega),decide_eq_true (p:=((e.values.getD []).length:Int)=f.2.2.1) (by omega)];rfl
  rw[this,if_neg dv];simp only[fW,Ha,if_false,if_true,decide_true,cond_true];cases (e.names.getD []).all Go.W.cj<;>cases (e.values.getD []).all tv<;>by_cases ei:e.text=[]<;>simp[ei]
end Go.Z
namespace Go.Z
open Go Go.Abs Go.W
variable {e:GEv}
theorem jx1:∀ (k:aj),(f75 k=E6 ⟨0,0,En⟩/\ye k=none)\/∃a b:Nat,f75 k=E6 ⟨(a:Int),(b:Int),Hb⟩/\ye k=E6 (a,b):=by
 intro k;by_cases Y:k=nG
 .subst Y;exact .inr ⟨2,2,rfl,rfl⟩
 by_cases I:k=oe
 .subst I;exact .inr ⟨1,1,rfl,rfl⟩
 by_cases h3:k=rG
 .subst h3;exact .inr ⟨1,1,rfl,rfl⟩
 by_cases h4:k=rH
 .subst h4;exact .inr ⟨1,1,rfl,rfl⟩
 by_cases h5:k=pi
 .subst h5;exact .inr ⟨1,1,rfl,rfl⟩
 by_cases h6:k=tm
 .subst h6;exact .inr ⟨1,1,rfl,rfl⟩
 by_cases h7:k=lP
 .subst h7;exact .inr ⟨1,1,rfl,rfl⟩
 by_cases h8:k=yK
 .subst h8;exact .inr ⟨1,1,rfl,rfl⟩
 by_cases h9:k=nH
 .subst h9;exact .inr ⟨2,2,rfl,rfl⟩
 by_cases et:k=nI
 .subst et;exact .inr ⟨2,2,rfl,rfl⟩
 by_cases fK:k=pW
 .subst fK;exact .inr ⟨2,2,rfl,rfl⟩
 by_cases kG:k=lO
 .subst kG;exact .inr ⟨2,3,rfl,rfl⟩
 by_cases gv:k=pV
 .subst gv;exact .inr ⟨2,1,rfl,rfl⟩
 by_cases jS:k=og
 .subst jS;exact .inr ⟨2,1,rfl,rfl⟩
 by_cases rN:k=oh
 .subst rN;exact .inr ⟨0,0,rfl,rfl⟩
 refine .inl ⟨?_,?_⟩
 .unfold f75;simp only[decide_eq_false (p:=k=([108,111,116]:aj)) Y,decide_eq_false (p:=k=([112,114,111,100,117,99,116]:aj)) I,decide_eq_false (p:=k=([105,115,115,117,101]:aj)) h3,decide_eq_false (p:=k=([117,112,100,97,116,101]:aj)) h4,decide_eq_false (p:=k=([104,111,108,100]:aj)) h5,decide_eq_false (p:=k=([102,114,101,101]:aj)) h6,decide_eq_false (p:=k=([115,104,105,112]:aj)) h7,decide_eq_false (p:=k=([99,111,109,112,108,97,105,110]:aj)) h8,decide_eq_false (p:=k=([110,101,101,100]:aj)) h9,decide_eq_false (p:=k=([117,115,101]:aj)) et,decide_eq_false (p:=k=([109,101,97,115,117,114,101]:aj)) fK,decide_eq_false (p:=k=([116,101,115,116]:aj)) kG,decide_eq_false (p:=k=([98,117,105,108,100]:aj)) gv,decide_eq_false (p:=k=([112,97,105,114]:aj)) jS,decide_eq_false (p:=k=([117,110,100,111]:aj)) rN,cond_false]
 .unfold ye cA;simp[I2,H8 Y,H8 I,H8 h3,H8 h4,H8 h5,H8 h6,H8 h7,H8 h8,H8 h9,H8 et,H8 fK,H8 kG,H8 gv,H8 jS,H8 rN]
theorem jvb {s}:f78 s=E6 (Go.W.cj s):=by rw[j0e,OJ]
theorem q75 {α:Type}{l:List α}{p:α->Bool}{f:Int->Option (Int⊕(Unit⊕Int))}{n}(hn:n=(l.length:Int))(hl:l.length<=SM)
  (da:f n=E6 (.inr (.inr n))) (hf:∀(i:Nat) x,l[i]?=E6 x->i<l.length->f (i:Int)=E6 (if p x then .inl (qd .i64 ((i:Int)+1))else .inr (.inl ()))):
  ∃d,bq f 0=E6 d/\(match d with | .inl _=>En | .inr _=>Hb)=l.all p:=by
 subst hn
 obtain⟨d,Y,I⟩:=VQ l f p (fun d=>match d with | .inl _=>En | .inr _=>Hb) ⟨_,da,rfl⟩ (fun i x M hi=>by
  have h3:=hf i x M hi
  cases hp:p x with
  |true=>rw[hp,zd (by unfold SM at hl;omega)]at h3;exact .inl ⟨rfl,h3⟩
  |false=>rw[hp]at h3;exact .inr ⟨rfl,_,h3,rfl⟩)
 exact⟨d,Y,I⟩
theorem jwj (Y:(e.names.getD []).length<=SM)(I:(e.values.getD []).length<=SM):f73 e=E6 (qz e.er):=by
 unfold f73 qz;rw[Wh];simp only[qa];rw[show e.er.number=e.number from rfl,show e.er.kind=e.kind from rfl,show e.er.names=e.names.getD []from rfl,show e.er.values=e.values.getD []from rfl,show e.er.text=e.text from rfl,show(fun n=>decide (0<=n)&&decide (n<=999999999))=tv from rfl];by_cases c1:e.number<1\/1000<e.number
 .rw[decide_eq_true c1,if_pos c1];rfl
 rw[decide_eq_false c1,if_neg c1];simp only[cond_false];rcases jx1 e.kind with⟨c2,du⟩|⟨a,b,c2,du⟩
 .rw[c2,du];rfl
 rw[c2,du];simp only[cond_true];by_cases dv:(e.names.getD []).length=a
 case neg=>rw[decide_eq_false (by omega),if_pos (.inl dv)];rfl
 by_cases ei:(e.values.getD []).length=b
 case neg=>rw[decide_eq_true (by omega),decide_eq_false (p:=((e.values.getD []).length:Int)=(b:Int)) (by omega),if_pos (.inr ei)];rfl
 rw[decide_eq_true (by omega),decide_eq_true (p:=((e.values.getD []).length:Int)=(b:Int)) (by omega),if_neg (by omega)];simp only[cond_true]
 obtain⟨d,g1,g2⟩:=q75 (l:=e.names.getD []) (p:=Go.W.cj) (f:=B0 e ⟨(a:Int),(b:Int),Hb⟩) (n:=(a:Int)) (by omega) Y (by unfold B0;simp only[yd];rfl) (fun i x M hi=>by
  unfold B0;simp only[show decide ((i:Int)<(a:Int))=Hb from decide_eq_true (by omega),cond_true,qa,q9 M,jvb]
  cases Go.W.cj x<;>rfl)
 obtain⟨d2,g3,g4⟩:=q75 (l:=e.values.getD []) (p:=tv) (f:=B1 e ⟨(a:Int),(b:Int),Hb⟩) (n:=(b:Int)) (by omega) I (by unfold B1;simp only[yd];rfl) (fun i x M hi=>by
  unfold B1;simp only[show decide ((i:Int)<(b:Int))=Hb from decide_eq_true (by omega),cond_true,qa,q9 M,Wh];unfold tv;by_cases k1:x<0
  ·rw[decide_eq_true (Or.inl k1),decide_eq_false (p:=0<=x) (by omega)];rfl
  ·by_cases k2:999999999<x
   ·rw[decide_eq_true (Or.inr k2),decide_eq_false (p:=x<=999999999) (by omega),Iq];rfl
   ·rw[decide_eq_false (p:=x<0\/999999999<x) (by omega),decide_eq_true (p:=0<=x) (by omega),decide_eq_true (p:=x<=999999999) (by omega)];rfl)
 rw[g1,<-g2,<-g4]
 cases d with
 |inl d=>rfl
 |inr d=>
  simp only[];rw[g3]
  cases d2 with
  |inl d2=>rfl
  |inr d2=>
   by_cases ol:e.text=[]
   .rw[decide_eq_true ol];simp[ol]
   .rw[decide_eq_false ol];simp[ol]
end Go.Z
end
