/- Sessions, plain. -/
import Derived.Test.YtlhfdilpecnjeaaGreatDoorTL8
import Derived.Test.YtlhfdilpecnjeaaGreatDoorEU
import Derived.Test.YtlhfdilpecnjeaaGreatDoorSZ
set_option linter.unusedVariables false
set_option linter.unusedSimpArgs false
set_option maxRecDepth 100000
set_option maxHeartbeats 4000000
noncomputable section
open Option renaming some->En,bind_eq_some_iff->Jb,none->Np
open List renaming length_map->E6,length_append->Ha,length_cons->Hb,mem_cons_of_mem->Hc,length_take->H2,length_singleton->H3,mem_of_getElem?->H4,take_of_length_le->H8,length_filter_le->H9,mem_cons_self->Ib,take_append_drop->Ic,getElem?_eq_getElem->If,map_cons->Ig,map_append->Ij,mem_map->Ik,mem_of_find?_eq_some->Io,mem_map_of_mem->Ip,getElem?_eq_some_iff->Iq,mem_cons->Iy,not_mem_nil->I1,length->I2,length_drop->I3,mem_filter->I5,mem_append->I6,mem_singleton->I7,getElem?_append_right->I9,getElem?_map->Ja,find?_some->Jd,take_add_one->Jv,mem_of_mem_take->Jw,any_cons->Jx,flatten_cons->Jy,intercalate->Ll,intersperse->Lm,nil_append->Ng,length_nil->Nh,drop_left'->Nk,map_map->Nx,any_nil->Nz
open Bool renaming true->Il,false->Ix,and_eq_true->Jz,or_false->Nw
open Nat renaming le_trans->Iw,zero_add->Jc,ble_eq_true_of_le->Jl,le_refl->J2,min_eq_left->Ni
namespace Go.Z
open Go Go.Abs Go.W
theorem Ak {e:GEv}(h:qz e.er=0):ShE e:=by
 obtain⟨n1,n2,⟨f,f1,f2,ng⟩,n4,n5,_⟩:=tS h
 have hfm:∀x∈cA,x.1.length<=40/\x.2.1<=6/\x.2.2<=8:=by decide
 have hf:=hfm _ (PV f1);simp only[]at hf;have f2:(e.names.getD []).length=f.1:=f2;have ng:(e.values.getD []).length=f.2:=ng;refine⟨hf.1,by omega,by omega,fun x M=>?_⟩
 .have Y:=n4 x M;unfold Go.W.cj at Y;split at Y
  .cases Y
  .simp only[Jz,decide_eq_true_eq]at Y;omega
theorem jjf {e:GEv}(h:qz e.er=0):(zh e.er).length<=20000:=by
 have s:=Ak h;obtain⟨Y,I,_,_,h5,_⟩:=tS h;have h5:∀v∈e.values.getD [],0<=v/\v<1000000000:=fun v hv=>⟨(h5 v hv).1,by have:=(h5 v hv).2;omega⟩;have Y:1<=e.number:=Y;have I:e.number<=1000:=I;have ha:=s.n;have hb:=s.v;have hk:=s.k
 have hlb:(zp e.er).length<=10000:=by
  rw[PU];have l1:=C8 (l:=e.names.getD []) s.s
  have l2:=C8 (l:=(e.values.getD []).map Lib.itoa) fun w hw=>by
   obtain⟨v,hv,rfl⟩:=Ik.1 hw;exact Hq (h5 v hv).1 (h5 v hv).2
  have l3:=Hq (v:=e.number) (by omega) (by omega);rw[E6]at l2;simp only[Ha,H3];show(Lib.itoa e.number).length+1+e.kind.length+(Lib.joinTail [32] (e.names.getD [])).length+(Lib.joinTail [32] ((e.values.getD []).map Lib.itoa)).length<=10000;omega
 have:=C9 e.er;omega
theorem q4a:∀ {l:List GEv},(∀e∈l,qz e.er=0)->(ja (l.map GEv.er)).length<=20001*l.length
 | [],_=>J2 _
 |e::l,h=>by
  have Y:=jjf (h e (Ib ..));have I:=q4a (l:=l) fun x M=>h x (Hc _ M);rw[Ig,ja,Ha,Hb,Hb];omega
theorem q4u {α:Type}:∀l:List (List α),([]:List α).intercalate l=l.flatten
 | []=>rfl
 | [x]=>by simp[Ll,Lm]
 |x::y::l=>by
  have:=q4u (y::l);simp only[Ll,Lm,Jy,Ng]at this ⊢;rw[this]
theorem q9p:∀ l:List cf,(l.map fun e=>zh e++[10]).flatten=ja l
 | []=>rfl
 |e::l=>by rw[Ig,Jy,q9p l,ja];simp
theorem jt1 {o:Option HV}(hl:(hJ o).length<=1000)(hc:∀e∈hJ o,qz e.er=0):Zy o=En (ja ((hJ o).map GEv.er)):=by
 cases o with
 |none=>rfl
 |some s=>
  have hl:s.ev.length<=1000:=hl;have hc:∀e∈s.ev,qz e.er=0:=hc
  have key:=jru s.ev (He s.ev) (fun e=>zh e.er++[10]) (by omega) (fun a=>by
    unfold He;dsimp only;rw[yd];rfl) (fun i x a M hi ha=>by
    have hk:=hc x (H4 M);have ho:=(q3u (Ak hk) hk);unfold He;dsimp only;rw[kj hi,cond_true,q9 M,qi,jjx ho.1.num ho.1.vals ho.1.l1 ho.1.l2 (by have:=ho.1.lb;omega),qi,vn ha]
    rw[zd (by omega)])
  show f13 s.ev=En (ja (s.ev.map GEv.er));unfold f13 P7;rw[key,qi,qi];have hb:=q4a hc
  have hf:(s.ev.map fun e=>zh e.er++[10]).flatten=ja (s.ev.map GEv.er):=by rw[<-q9p,Nx];rfl
  cases he:s.ev with
  |nil=>rfl
  |cons e l=>
   rw[he]at hf hb hl;show f47 (En ((zh e.er++[10])::l.map fun e=>zh e.er++[10])) []=_
   have HG:([]:aj).intercalate ((zh e.er++[10])::l.map fun e=>zh e.er++[10])=ja ((e::l).map GEv.er):=by rw[q4u];exact hf
   show(bif Nat.ble _ 100000&&Nat.ble (([]:aj).intercalate ((zh e.er++[10])::l.map fun e=>zh e.er++[10])).length 100000000 then En (([]:aj).intercalate ((zh e.er++[10])::l.map fun e=>zh e.er++[10]))else Np)=_;rw[HG,Jl (by simp only[Hb,E6]at hl ⊢;omega),Jl (by omega)];rfl
theorem jbl {l l':List GEv}{e}(h:qC l l.length e=En l'):l'=l++[e]:=by
 unfold qC at h;split at h
 .cases h;simp
 .cases h
theorem js2 {s:HV}{e:GEv}{q}(h:B3 s e=En q):(q.1=0->q.2.ev=s.ev++[e])/\(q.1≠0->q.2.ev=s.ev):=by
 unfold B3 at h;rcases qc h with⟨Y,h⟩|⟨Y,h⟩
 .rcases qc h with⟨I,h⟩|⟨I,h⟩
  .obtain⟨e1,k1,h⟩:=qb h;rcases qc h with⟨h3,h⟩|⟨h3,h⟩
   .obtain⟨x,k2,h⟩:=qb h;obtain⟨e2,k3,h⟩:=qb h;obtain⟨e3,k4,h⟩:=qb h;rcases qc h with⟨h4,h⟩|⟨h4,h⟩
    .rcases qc h with⟨h5,h⟩|⟨_,h⟩
     .obtain⟨ev,eR,h⟩:=qb h;cases h;exact⟨fun _=>jbl eR,fun h=>absurd rfl h⟩
     .cases h
    .cases h;exact⟨fun h=>absurd h (of_decide_eq_false h4),fun _=>rfl⟩
   .obtain⟨e2,k3,h⟩:=qb h;obtain⟨e3,k4,h⟩:=qb h;rcases qc h with⟨h4,h⟩|⟨h4,h⟩
    .cases h
    .cases h;exact⟨fun h=>absurd h (of_decide_eq_false h4),fun _=>rfl⟩
  .obtain⟨r,k1,h⟩:=qb h;obtain⟨v,k2,h⟩:=qb h;rcases qc h with⟨h3,h⟩|⟨h3,h⟩
   .obtain⟨cs,hcs,h⟩:=qb h;obtain⟨ss,wu,h⟩:=qb h;obtain⟨ev,eR,h⟩:=qb h;cases h;exact⟨fun _=>jbl eR,fun h=>absurd rfl h⟩
   .cases h;exact⟨fun h=>absurd h (of_decide_eq_false h3),fun _=>rfl⟩
 .cases h;exact⟨fun h=>absurd (show(11:Int)=0 from h) (by decide),fun _=>rfl⟩
theorem jqq {e:GEv}{q}(h:B2 e=En q):(q.1=0->hJ q.2=[e])/\(q.1≠0->hJ q.2=[]):=by
 unfold B2 at h;rcases qc h with⟨Y,h⟩|⟨Y,h⟩
 .rcases qc h with⟨I,h⟩|⟨I,h⟩
  .obtain⟨e1,k1,h⟩:=qb h;obtain⟨e2,k3,h⟩:=qb h;obtain⟨e3,k4,h⟩:=qb h;rcases qc h with⟨h4,h⟩|⟨h4,h⟩
   .cases h
   .cases h;exact⟨fun h=>absurd h (of_decide_eq_false h4),fun _=>rfl⟩
  .obtain⟨v,k2,h⟩:=qb h;rcases qc h with⟨h3,h⟩|⟨h3,h⟩
   .cases h;exact⟨fun _=>rfl,fun h=>absurd rfl h⟩
   .cases h;exact⟨fun h=>absurd h (of_decide_eq_false h3),fun _=>rfl⟩
 .cases h;exact⟨fun h=>absurd (show(11:Int)=0 from h) (by decide),fun _=>rfl⟩
theorem jb6 {o:Option HV}{e:GEv}{q}(h:tA o e=En q):(q.1=0->hJ q.2=hJ o++[e])/\(q.1≠0->hJ q.2=hJ o):=by
 cases o with
 |none=>exact jqq h
 |some s=>
  obtain⟨x,M,h⟩:=qb h;cases h;exact js2 M
end Go.Z
namespace Go.Z
open Go Go.Abs Go.W
def txt:List aj->aj
 | []=>[110,111,110,101]|x::l=>x++Lib.joinTail [32] l
theorem q1f:∀ {l:List aj},(∀s∈l,Nm s)->(Lib.joinTail [32] l).length<=l.length*25
 | [],_=>by simp[Lib.joinTail]
 |x::l,h=>by
  have Y:=(h x (Ib ..)).1;have I:=q1f fun w hw=>h w (Hc _ hw);rw[GZ];simp only[Ha,Hb,Nh];omega
theorem jth {m:List aj}(hl:m.length<=100000)(hm:∀s∈m,Nm s):qa (f47 (jh m) [32]) (fun s=>En (cond (decide (s=[])) ([110,111,110,101]:aj) s,(0:Int)))=En (txt m,0):=by
 cases m with
 |nil=>rfl
 |cons x l=>
  have Y:=hm x (Ib ..);have I:=q1f fun w hw=>hm w (Hc x hw);have Ia:l.length+1<=100000:=hl;have hj:Lib.join (x::l) [32]=x++Lib.joinTail [32] l:=Lib.join_cons x l [32];have h3:=Y.1;rw[show jh (x::l)=En (x::l)from rfl,Y2 hl (by rw[hj,Ha];omega),qi,hj,decide_eq_false (by simp[Y.2]),cond_false];rfl
def Al:aj:=[115,104,105,112,112,101,100]
def La:aj:=[104,101,108,100]
def jbp:aj:=[108,111,116,115]
def q60:aj:=[117,110,105,116,115]
def q1u:aj:=[109,105,115,115,105,110,103]
def q9y:aj:=[115,116,111,99,107]
def jfw:aj:=[118,101,114,115,105,111,110]
def Am (S:yc):List aj:=(S.units.filter (·.ax)).map (·.name)
def Ao (S:yc):List aj:=(S.az.filter (·.held)).map (·.name)
def qS (S:yc)(w n:aj):aj×Int:=
 if w=jbp then(match zq S n with
  |none=>([],10)
  |some k=>match S.units[k]? with
   |none=>([],10)
   |some u=>(txt (u.uses.map (·.k)),0))
 else if w=q60 then(match z7 S n with
  |none=>([],10)
  |some _=>(txt (xe S n),0))
 else if w=q1u then(match zq S n with
  |none=>([],10)
  |some k=>match S.units[k]? with
   |none=>([],10)
   |some u=>match gD S u with
    |none=>([],10)
    |some d=>(txt (rJ d u),0))
 else if w=q9y then(if Go.W.cj n then(Lib.decDigits (Gp S n).toNat,0)else([],8))
 else(match z4 S n with
  |none=>([],10)
  |some k=>match S.ah[k]? with
   |none=>([],10)
   |some p=>(Lib.decDigits p.bm.length,0))
def Lb (S:yc)(w:aj)(t:List aj):aj×Int:=
 if w=Al\/w=La then(match t with
  | []=>(txt (if w=Al then Am S else Ao S),0)
  |_=>([],26))
 else match t with
  | [n]=>if n=[]then([],26)else qS S w n
  |_=>([],26)
end Go.Z
namespace Go.Z
open Go Go.Abs Go.W
theorem qzp {k:aj}:∀ {l:List ji} {n:Int},(∀x∈l,0<=x.left/\x.left<=10000)->0<=n->n+10000*(l.length:Int)<=1000000000 ->
  0<=l.foldl (fun n x=>if decide (x.kind=k)&&!x.held then qd .i64 (n+x.left)else n) n/\l.foldl (fun n x=>if decide (x.kind=k)&&!x.held then qd .i64 (n+x.left)else n) n<=n+10000*(l.length:Int)
 | [],n,_,h0,Y=>by simp;omega
 |x::l,n,h,h0,Y=>by
  have M:=h x (Ib ..)
  have zG:n+10000*((l.length:Int)+1)<=1000000000:=by simpa using Y
  rw[List.foldl_cons];have hw:qd .i64 (n+x.left)=n+x.left:=yl (by omega) (by omega)
  have step:∀n',0<=n'->n'<=n+10000->0<=l.foldl (fun n x=>if decide (x.kind=k)&&!x.held then qd .i64 (n+x.left)else n) n'/\l.foldl (fun n x=>if decide (x.kind=k)&&!x.held then qd .i64 (n+x.left)else n) n'<=n+10000*(((x::l).length:Nat):Int):=fun n' a b=>by
   have:=qzp (k:=k) (l:=l) (n:=n') (fun y hy=>h y (Hc _ hy)) a (by omega);simp only[Hb];omega
  by_cases hc:(decide (x.kind=k)&&!x.held)=Il
  .rw[if_pos hc,hw];exact step _ (by omega) (by omega)
  .rw[if_neg hc];exact step _ (by omega) (by omega)
structure RG (r:aw):Prop where
 b:GB r
 w:WF r.er
 nb:NB r.er
 sb:SB 1000 r.er
theorem jts {r:aw}(R:RG r){k}:0<=Gp r.er k/\Gp r.er k<100000000:=by
 have hl:=R.sb.L;have:=qzp (k:=k) (l:=r.er.az) (n:=0) (fun x M=>(R.nb.L x M).2) (by omega) (by omega);unfold Gp;omega
section
variable {r:aw}(R:RG r)
include R
theorem jlv {n}:(xe r.er n).length<=100000/\∀s∈xe r.er n,Nm s:=by
 unfold xe;refine⟨?_,fun s G=>?_⟩
 .rw[E6];exact Iw (H9 _ _) (by have:=R.sb.U;omega)
 .obtain⟨u,hu,rfl⟩:=Ik.1 G;exact(R.nb.U u ((I5.1 hu).1)).1
theorem jsg:(Am r.er).length<=100000/\∀s∈Am r.er,Nm s:=by
 unfold Am;refine⟨?_,fun s G=>?_⟩
 .rw[E6];exact Iw (H9 _ _) (by have:=R.sb.U;omega)
 .obtain⟨u,hu,rfl⟩:=Ik.1 G;exact(R.nb.U u ((I5.1 hu).1)).1
theorem js3:(Ao r.er).length<=100000/\∀s∈Ao r.er,Nm s:=by
 unfold Ao;refine⟨?_,fun s G=>?_⟩
 .rw[E6];exact Iw (H9 _ _) (by have:=R.sb.L;omega)
 .obtain⟨u,hu,rfl⟩:=Ik.1 G;exact(R.nb.L u ((I5.1 hu).1)).1
theorem jue {u}(hu:u∈r.er.units):(u.uses.map (·.k)).length<=100000/\∀s∈u.uses.map (·.k),Nm s:=by
 refine⟨?_,fun s G=>?_⟩
 .rw[E6];have:=(R.sb.N u hu).1;omega
 .obtain⟨x,M,rfl⟩:=Ik.1 G;exact(R.nb.U u hu).2 x M
theorem ji7 {u d}(hd:gD r.er u=En d):(rJ d u).length<=100000/\∀s∈rJ d u,Nm s:=by
 unfold gD at hd;obtain⟨p,hp,hd⟩:=Jb.1 hd;unfold iC at hp;obtain⟨k,_,hp⟩:=Jb.1 hp;have hpm:=H4 hp
 have hdm:d∈p.bm:=by
  unfold BD at hd;split at hd
  .exact H4 hd
  .cases hd
 unfold rJ;refine⟨?_,fun s G=>?_⟩
 .rw[E6];exact Iw (H9 _ _) (by have:=((R.sb.D p hpm).2.2.2 d hdm).2;omega)
 .obtain⟨x,M,rfl⟩:=Ik.1 G;exact(R.nb.P p hpm).2 d hdm x ((I5.1 M).1)
end
end Go.Z
namespace Go.Z
open Go Go.Abs Go.W
def pF (r:aw)(role:Int)(k:Nat)(n:aj):Option (aj×Int):=
 qa (f104 r role n) fun kn=>
 qa (f36 (!kn) 10) fun e1=>
 qa (cond (decide (role=107)) (qa (f105 n) fun i=>En (!i)) (En Ix)) fun b2=>
 qa (f36 b2 8) fun e2=>
 qa (f35 (En [e1,e2])) fun e3=>
 cond (decide (e3=0))
  (qa (Af k r n) fun q=>
  qa (f47 q.1 [32]) fun s=>
  En (cond (decide (s=[])) [110,111,110,101] s,0))
  (En ([],e3))
theorem jjg (m:Nat):Lib.decDigits m≠[]:=by
 unfold Lib.decDigits;split<;>simp
theorem ZF {m:Nat}(h:m<1000000000):(Lib.decDigits m).length<=1000:=by
 have:=GY 8 m (by omega);omega
theorem jil {l:List bw}(hl:l.length<=SM):∃w,f65 (jh l)=En (jh (l.map (·.name)),w):=by
 unfold f65;have:=BG (f:=Gn (jh l)) (l:=(jh l).getD []) (g:=fun u:bw=>u.name) (q:=f67) (by rw[zc];exact hl) (fun x M=>rfl) (fun s=>rfl);rw[zc]at this;rw[this];exact⟨_,rfl⟩
theorem jed {l:List ji}(hl:l.length<=SM):∃w,f167 (jh l)=En (jh (l.map (·.name)),w):=by
 unfold f167;have:=BG (f:=KM (jh l)) (l:=(jh l).getD []) (g:=fun u:ji=>u.name) (q:=f168) (by rw[zc];exact hl) (fun x M=>rfl) (fun s=>rfl);rw[zc]at this;rw[this];exact⟨_,rfl⟩
theorem jj1 {r:aw}{w t role k}(ht:t.length<=100000):CY r role k (En (w::t))=cond (decide (((t.length+1:Nat):Int)=(if role=0 then 1 else 2))) (cond ((w::t).any fun x=>decide (([]:aj)=x)) (En ([],26)) (qa (qm (w::t) (qd .i64 (if role=0 then 0 else 1))) fun n=>pF r role k n)) (En ([],26)):=by
 unfold CY;rw[WA (a:=En (w::t)) (n:=[]) (by unfold SM;simp;omega),qi];rfl
section
variable {r:aw}(R:RG r)
include R
theorem Lc {role k n m w'}(Y:oo r.er role n=Il)(I:role≠107)(h3:Af k r n=En (jh m,w'))(hl:m.length<=100000)(hm:∀s∈m,Nm s):pF r role k n=En (txt m,0):=by
 unfold pF;rw[BU R.b,qi,Y,yn,qi,decide_eq_false I,cond_false,qi,yn,qi,vA,qi];show cond (decide ((0:Int)=0)) _ _=_;rw[decide_eq_true rfl,cond_true,h3,qi];exact jth hl hm
theorem Qd {role k n}(Y:oo r.er role n=Ix)(I:role≠107):pF r role k n=En ([],10):=by
 unfold pF;rw[BU R.b,qi,Y,yn,qi,decide_eq_false I,cond_false,qi,yn,qi,vA,qi];rfl
theorem q6y {role k n s w'}(Y:oo r.er role n=Il)(I:role≠107\/Go.W.cj n=Il)(h3:Af k r n=En (En [s],w'))(G:s≠[])(hl:s.length<=1000):pF r role k n=En (s,0):=by
 have hb:(cond (decide (role=107)) (qa (f105 n) fun i=>En (!i)) (En Ix):Option Bool)=En Ix:=by
  by_cases h:role=107
  .rw[decide_eq_true h,cond_true,Wp,OJ,qi];rcases I with I|I
   .exact absurd h I
   .rw[I];rfl
  .rw[decide_eq_false h];rfl
 unfold pF;rw[BU R.b,qi,Y,yn,qi,hb,qi,yn,qi,vA,qi];show cond (decide ((0:Int)=0)) _ _=_
 have hj:Lib.join [s] [32]=s:=by rw[Lib.join_cons];simp[Lib.joinTail]
 rw[decide_eq_true rfl,cond_true,h3,qi,Y2 (by simp) (by rw[hj];omega),qi,hj,decide_eq_false G];rfl
theorem jm3 {w n q}(hq:lW w=En q)(h0:q.2.1≠0):pF r q.2.1 q.2.2 n=En (qS r.er w n):=by
 have hw:w=q.1:=by
  have:=Jd hq;simpa using this
 have hm:q∈fk:=Io hq;clear hq;subst hw;simp only[fk,Iy,I1,or_false]at hm;rcases hm with rfl|rfl|rfl|rfl|rfl|rfl|rfl
 .show pF r 117 87 n=En (qS r.er jbp n);have hk:oo r.er 117 n=(zq r.er n).isSome:=rfl;unfold qS;rw[if_pos rfl]
  cases hu:zq r.er n with
  |none=>rw[hu]at hk;exact Qd R hk (by decide)
  |some k=>
   rw[hu]at hk;obtain⟨u,g1,g2,g3⟩:=qA hu;obtain⟨q1,q2⟩:=jue R (H4 g3);obtain⟨w',g⟩:=jjm (u:=u) (jo (R.b.N u (H4 g1)).1);simp only[g3];refine Lc R hk (by decide) (w':=w') ?_ q1 q2;show f87 r n=_;unfold f87;rw[vo (jo R.b.U),qi,hu,show ek (En k)=(k:Int)from rfl,q9 g1,qi,g]
 .show pF r 108 88 n=En (qS r.er q60 n);have hk:oo r.er 108 n=(z7 r.er n).isSome:=rfl;unfold qS;rw[if_neg (by decide),if_pos rfl]
  cases hu:z7 r.er n with
  |none=>rw[hu]at hk;exact Qd R hk (by decide)
  |some k=>
   rw[hu]at hk;obtain⟨q1,q2⟩:=jlv R (n:=n);obtain⟨w',g⟩:=j1u (n:=n) R.b;exact Lc R hk (by decide) (w':=w') g q1 q2
 .show pF r 117 90 n=En (qS r.er q1u n);have hk:oo r.er 117 n=(zq r.er n).isSome:=rfl;unfold qS;rw[if_neg (by decide),if_neg (by decide),if_pos rfl]
  cases hu:zq r.er n with
  |none=>rw[hu]at hk;exact Qd R hk (by decide)
  |some k=>
   rw[hu]at hk;obtain⟨u,g1,g2,g3⟩:=qA hu;obtain⟨D,v,o⟩:=BT R.b R.w g1;obtain⟨w1,m1⟩:=jhx o.doc (jo o.results) (jo o.aS) o.bN;obtain⟨q1,q2⟩:=ji7 R o.yU;simp only[g3,o.yU];refine Lc R hk (by decide) (w':=w1) ?_ q1 q2;show f90 r n=_;unfold f90;rw[vo (jo R.b.U),qi,hu,show ek (En k)=(k:Int)from rfl,q9 g1,qi,m1]
 .show pF r 107 92 n=En (qS r.er q9y n);have hk:oo r.er 107 n=Il:=rfl;unfold qS;rw[if_neg (by decide),if_neg (by decide),if_neg (by decide),if_pos rfl]
  cases hn:Go.W.cj n with
  |false=>
   unfold pF;rw[BU R.b,qi,hk,yn,qi,decide_eq_true rfl,cond_true,Wp,OJ,hn,qi,qi,yn,qi,vA,qi];rfl
  |true=>
   obtain⟨s1,s2⟩:=jts R (k:=n);obtain⟨m,hm⟩:=Int.eq_ofNat_of_zero_le s1;rw[if_pos rfl];refine q6y R hk (.inr hn) (w':=true) ?_ (jjg _) (ZF (by omega));show f92 r n=_;unfold f92;rw[j3h R.b,qi,hm,KN (by omega),qi];rfl
 .show pF r 112 94 n=En (qS r.er jfw n);have hk:oo r.er 112 n=(z4 r.er n).isSome:=rfl;unfold qS;rw[if_neg (by decide),if_neg (by decide),if_neg (by decide),if_neg (by decide)]
  cases hu:z4 r.er n with
  |none=>rw[hu]at hk;exact Qd R hk (by decide)
  |some k=>
   rw[hu]at hk;obtain⟨p,g1,g2,g3⟩:=BQ hu;have hD:=(R.sb.D p.er (H4 g3)).1;have hd:p.er.bm.length=(p.bm.getD []).length:=E6 ..;simp only[g3];refine q6y R hk (.inl (by decide)) (w':=true) ?_ (jjg _) (ZF (by omega));show f94 r n=_;unfold f94 f96;rw[tq (jo R.b.P),qi,hu,show ek (En k)=(k:Int)from rfl,q9 g1,qi,qi,KN (by omega),qi,hd]
 .exact absurd rfl h0
 .exact absurd rfl h0
theorem jtf:∃ w,KK r.units=En (jh ((r.units.getD []).filter fun u=>u.ax),w):=by
 unfold KK;rw[F9 (f:=KJ r.units) (l:=r.units.getD []) (p:=fun u=>u.ax) (q:=f98) (jo R.b.U) (fun x M=>rfl) (fun s=>rfl)];exact⟨_,rfl⟩
theorem jis:∃ w,f101 r.az=En (jh ((r.az.getD []).filter fun u=>u.held),w):=by
 unfold f101;rw[F9 (f:=Gd r.az) (l:=r.az.getD []) (p:=fun u=>u.held) (q:=f102) (jo R.b.L) (fun x M=>rfl) (fun s=>rfl)];exact⟨_,rfl⟩
theorem ziw {n}:∃w,Af 97 r n=En (jh (Am r.er),w):=by
 obtain⟨w1,g1⟩:=jtf R;have hl:((r.units.getD []).filter fun u=>u.ax).length<=SM:=Iw (H9 _ _) (jo R.b.U);obtain⟨w2,g2⟩:=jil hl;refine⟨w2,?_⟩;show f97 r n=_;unfold f97 Am;rw[g1,qi,g2,wS,List.filter_map,Nx];rfl
theorem zhy {n}:∃w,Af 99 r n=En (jh (Ao r.er),w):=by
 obtain⟨w1,g1⟩:=jis R;have hl:((r.az.getD []).filter fun u=>u.held).length<=SM:=Iw (H9 _ _) (jo R.b.L);obtain⟨w2,g2⟩:=jed hl;refine⟨w2,?_⟩;show f99 r n=_;unfold f99 Ao;rw[g1,qi,g2];rfl
theorem jtr {w t q}(hw:w≠[])(ht:t.length<=100000)(hq:lW w=En q):CY r q.2.1 q.2.2 (En (w::t))=En (Lb r.er w t):=by
 have hwq:w=q.1:=by
  have:=Jd hq;simpa using this
 have hm:q∈fk:=Io hq;have FA:decide (([]:aj)=w)=Ix:=decide_eq_false fun h=>hw h.symm;rw[jj1 ht];by_cases h0:q.2.1=0
 .rw[if_pos h0,if_pos h0]
  have G:w=Al\/w=La:=by
   simp only[fk,Iy,I1,or_false]at hm;rcases hm with rfl|rfl|rfl|rfl|rfl|rfl|rfl
   .exact absurd h0 (by decide)
   .exact absurd h0 (by decide)
   .exact absurd h0 (by decide)
   .exact absurd h0 (by decide)
   .exact absurd h0 (by decide)
   .exact .inl hwq
   .exact .inr hwq
  unfold Lb;rw[if_pos G]
  cases t with
  |cons n t=>
   rw[decide_eq_false (by simp only[Hb];omega)];rfl
  |nil=>
   rw[show decide ((((([]:List aj).length+1:Nat)):Int)=1)=Il from rfl,cond_true,Jx,FA,Nz,Nw,cond_false,show qm [w] (qd .i64 0)=En w from rfl,qi]
   have hk:oo r.er q.2.1 w=Il:=by rw[h0];rfl
   rcases G with G|G
   .have:q=(Al,0,97):=by
     rw[G]at hq;exact(En.inj hq).symm
    obtain⟨w',g⟩:=ziw R (n:=w);obtain⟨q1,q2⟩:=jsg R;show _=En (txt (if w=Al then Am r.er else Ao r.er),0);rw[if_pos G];exact Lc R hk (by rw[h0];decide) (by rw[this];exact g) q1 q2
   .have:q=(La,0,99):=by
     rw[G]at hq;exact(En.inj hq).symm
    obtain⟨w',g⟩:=zhy R (n:=w);obtain⟨q1,q2⟩:=js3 R;show _=En (txt (if w=Al then Am r.er else Ao r.er),0);rw[if_neg (by rw[G];decide)];exact Lc R hk (by rw[h0];decide) (by rw[this];exact g) q1 q2
 .rw[if_neg h0,if_neg h0]
  have G:¬(w=Al\/w=La):=by
   rintro (G|G)
   .rw[G]at hq;exact h0 (by rw[<-En.inj (show En (Al,(0:Int),97)=En q from hq)])
   .rw[G]at hq;exact h0 (by rw[<-En.inj (show En (La,(0:Int),99)=En q from hq)])
  unfold Lb;rw[if_neg G];rcases t with _|⟨n,_|⟨n2,t⟩⟩
  .rfl
  .rw[show decide (((([n]:List aj).length+1:Nat):Int)=2)=Il from rfl,cond_true,Jx,FA,Jx,Nz,Bool.false_or,Nw,show qm [w,n] (qd .i64 1)=En n from rfl,qi];show _=En (if n=[]then([],26)else qS r.er w n);by_cases hn:n=[]
   .rw[decide_eq_true hn.symm,cond_true,if_pos hn]
   .rw[decide_eq_false fun h=>hn h.symm,cond_false,if_neg hn,jm3 R hq h0]
  .rw[decide_eq_false (by simp only[Hb];omega)];rfl
end
end Go.Z
namespace Go.Z
open Go Go.Abs Go.W
structure aag (es:ak GEv)(o:Option HV)(h:yj):Prop where
 run:run (qd .i64) ((es.getD []).map GEv.er)=.ok h
 rel:tz (es.getD []).length h o
 ok:iD (qd .i64) h
 hb:HB h
 ev:(hJ o).map GEv.er=(es.getD []).map GEv.er
 b1:∀e∈es.getD [],jE e
 b2:∀e∈hJ o,jE e
section
variable {es:ak GEv}{o:Option HV}{h:yj}(j:aag es o h)
include j
theorem aag.len:(es.getD []).length<=1000/\∀e∈es.getD [],qz e.er=0:=by
 obtain⟨Y,I⟩:=OP j.run;rw[E6]at Y;exact⟨Y,fun e he=>I _ (Ip he)⟩
theorem aag.Da:(hJ o).length=(es.getD []).length:=by
 have:=congrArg I2 j.ev;simpa using this
theorem aag.ZG:∀ e∈hJ o,qz e.er=0:=fun e he=>by
 have:e.er∈(es.getD []).map GEv.er:=by rw[<-j.ev];exact Ip he
 exact(OP j.run).2 _ this
theorem aag.rg {r:aw}(Q:r.er=now h):RG r:=by
 have G:h.1.length<=1000:=by
  have Y:=jjp j.run;have I:=j.len.1;rw[E6]at Y;omega
 have B4:SB h.1.length (now h):=j.hb _ _ j.ok.now;rw[<-Q]at B4;refine⟨B4.gb (by unfold BB;omega),by rw[Q];exact j.ok.tC,by rw[Q];exact(jyk j.run).now,B4.mono G⟩
theorem aag.next {e E:GEv}{c:Int}{s':Option HV}{h':yj}(he:jE e)(hE:jE E)(ZH:e.er=E.er)(hc:qz e.er=0)(hn:(es.getD []).length<1000)(G:tA o e=En (c,s'))(h0:c=0)(Q:tz ((es.getD []).length+1) h' s')
  (ha:Go.W.accept (qd .i64) h (((es.getD []).length:Int)+1) e.er=.ok h'):aag (En (es.getD []++[E])) s' h':=by
 have eR:hJ s'=hJ o++[e]:=(jb6 G).1 h0;refine⟨?_,?_,j.ok.accept hc ha,j.hb.accept j.ok ha,?_,?_,?_⟩
 .show Go.W.run (qd .i64) ((es.getD []++[E]).map GEv.er)=.ok h';rw[Ij];exact q9d j.run (by rw[E6];exact hn) (by rw[<-ZH];exact hc) (by rw[E6,<-ZH];exact ha)
 .show tz (es.getD []++[E]).length h' s';rw[Ha];exact Q
 .show(hJ s').map GEv.er=(es.getD []++[E]).map GEv.er;rw[eR,Ij,Ij,j.ev,Ig,Ig,ZH]
  try rfl
 .intro x M;rcases I6.1 (show x∈es.getD []++[E]from M)with M|M
  .exact j.b1 x M
  .rw[I7.1 M];exact hE
 .intro x M;rw[eR]at M;rcases I6.1 M with M|M
  .exact j.b2 x M
  .rw[I7.1 M];exact he
end
theorem jhw {w q}(hq:lW w=En q):mC w=Ix:=by
 have hw:w=q.1:=by
  have:=Jd hq;simpa using this
 have hm:q∈fk:=Io hq;subst hw;simp only[fk,Iy,I1,or_false]at hm;rcases hm with rfl|rfl|rfl|rfl|rfl|rfl|rfl<;>decide
end Go.Z
namespace Go.Z
open Go Go.Abs Go.W
theorem jmz {σ δ:Type}{f:σ->Option (σ⊕δ)}{s:σ}{d:δ}(h:bq f s=En d):(∃s',f s=En (.inl s')/\bq f s'=En d)\/f s=En (.inr d):=by
 obtain⟨n,hn⟩:=Gq.1 h
 cases n with
 |zero=>cases hn
 |succ n=>
  rw[oq]at hn
  cases hf:f s with
  |none=>rw[hf]at hn;cases hn
  |some x=>
   rw[hf]at hn
   cases x with
   |inl s'=>exact .inl ⟨s',rfl,Gq.2 ⟨n,hn⟩⟩|inr d'=>cases hn;exact .inr rfl
theorem q3n {l:ak GEv}(hl:(l.getD []).length<=1000)(hb:∀e∈l.getD [],jE e){d:Int×Option HV}:∀(m:List GEv) (i:Nat) (s:Option HV),(l.getD []).drop i=m->i<=(l.getD []).length->bq (rP l) ((i:Int),s)=En (.inr d)->(∀e∈hJ s,jE e) ->
  (hJ d.2).map GEv.er=(hJ s).map GEv.er++m.map GEv.er/\∀e∈hJ d.2,jE e
 | [],i,s,hm,hi,h,G=>by
  have he:i=(l.getD []).length:=by
   have:=List.drop_eq_nil_iff.1 hm;omega
  subst he;have I:bq (rP l) (((l.getD []).length:Int),s)=En (.inr (((l.getD []).length:Int),s)):=zj (by unfold rP;rw[yd];rfl);rw[I]at h;cases h;exact⟨by simp,G⟩
 |e::m,i,s,hm,hi,h,G=>by
  have M:(l.getD [])[i]?=En e:=by
   have:=congrArg List.head? hm;rwa [List.head?_drop]at this
  have bg:i<(l.getD []).length:=(Iq.1 M).1
  have yY:(l.getD []).drop (i+1)=m:=by rw[rF M]at hm;exact(List.cons.inj hm).2
  have vB:=hb e (H4 M);obtain⟨e2,g1,g2,g3⟩:=jgx vB;have hw:qd .i64 ((i:Int)+1)=((i+1:Nat):Int):=zd (by omega)
  have cn:rP l ((i:Int),s)=cond (decide (qz e.er=0)) (qa (tA s e2) fun q=>cond (decide (q.1=0)) (En (.inl (((i+1:Nat):Int),q.2))) (En (.inr (.inl (((i+1:Nat):Int),q.1,q.2))))) (En (.inr (.inl (((i+1:Nat):Int),qz e.er,s)))):=by
   unfold rP;simp only[kj bg,cond_true,q9 M,qa,J8 vB.1 vB.2,hw,g1]
  rcases jmz h with⟨s',Y,I⟩|Y
  .rw[cn]at Y;rcases qc Y with⟨_,Y⟩|⟨_,Y⟩
   .obtain⟨q,h3,Y⟩:=qb Y;rcases qc Y with⟨h4,Y⟩|⟨_,Y⟩
    .cases Y;have eR:=(jb6 h3).1 (of_decide_eq_true h4)
     obtain⟨k1,k2⟩:=q3n hl hb m (i+1) q.2 yY (by omega) I (fun x M=>by
      rw[eR]at M;rcases I6.1 M with M|M
      ·exact G x M
      ·rw[I7.1 M];exact g3)
     refine⟨?_,k2⟩;rw[k1,eR,Ij,Ig,Ig,g2];simp
    .cases Y
   .cases Y
  .rw[cn]at Y;rcases qc Y with⟨_,Y⟩|⟨_,Y⟩
   .obtain⟨q,h3,Y⟩:=qb Y;rcases qc Y with⟨h4,Y⟩|⟨_,Y⟩
    .cases Y
    .cases Y
   .cases Y
theorem j1d {l:ak GEv}(hb:∀e∈l.getD [],jE e){o}(h:f27 l=En (.inr o)):(hJ o).map GEv.er=(l.getD []).map GEv.er/\∀e∈hJ o,jE e:=by
 unfold f27 at h;rcases qc h with⟨Y,h⟩|⟨Y,h⟩
 .cases h
 .obtain⟨d,I,h⟩:=qb h
  cases d with
  |inl d=>cases h
  |inr d=>
   cases h;have hl:=of_decide_eq_false Y;obtain⟨k1,k2⟩:=q3n (by omega) hb (l.getD []) 0 Np rfl (Nat.zero_le _) I (fun e he=>by cases he);exact⟨by simpa[hJ]using k1,k2⟩
end Go.Z
namespace Go.Z
open Go Go.Abs Go.W
theorem ZI {e:GEv}(h:qz e.er=0):(zp e.er).length<=900:=by
 have s:=Ak h;obtain⟨Y,I,_,_,h5,_⟩:=tS h;have h5:∀v∈e.values.getD [],0<=v/\v<1000000000:=fun v hv=>⟨(h5 v hv).1,by have:=(h5 v hv).2;omega⟩;have Y:1<=e.number:=Y;have I:e.number<=1000:=I;have ha:=s.n;have hb:=s.v;have hk:=s.k;rw[PU];have l1:=C8 (l:=e.names.getD []) s.s
 have l2:=C8 (l:=(e.values.getD []).map Lib.itoa) fun w hw=>by
  obtain⟨v,hv,rfl⟩:=Ik.1 hw;exact Hq (h5 v hv).1 (h5 v hv).2
 have l3:=Hq (v:=e.number) (by omega) (by omega);rw[E6]at l2;simp only[Ha,H3];show(Lib.itoa e.number).length+1+e.kind.length+(Lib.joinTail [32] (e.names.getD [])).length+(Lib.joinTail [32] ((e.values.getD []).map Lib.itoa)).length<=900;omega
theorem jqp {e:GEv}(h:qz e.er=0):(zh e.er).length<=1000:=by
 have Y:=ZI h;have I:=C9 e.er;omega
theorem q89:∀ {l:List GEv},(∀e∈l,qz e.er=0)->(ja (l.map GEv.er)).length<=1001*l.length
 | [],_=>J2 _
 |e::l,h=>by
  have Y:=jqp (h e (Ib ..));have I:=q89 (l:=l) fun x M=>h x (Hc _ M);rw[Ig,ja,Ha,Hb,Hb];omega
theorem qrz {w:Int->Int}:∀ {l:List cf} {i:Nat} {h h':yj},ya w i h l=.ok h'->iW i l
 | [],i,h,h',Q=>trivial
 |e::l,i,h,h',Q=>by
  simp only[ya]at Q;split at Q
  .cases Q
  rename_i hc;split at Q
  .cases Q
  .rename_i Y ha;refine⟨by simpa using hc,?_,qrz Q⟩;unfold Go.W.accept at ha;split at ha
   .cases ha
   .rename_i hn;simpa using hn
theorem ZJ {w:Int->Int}{l:List cf}{h:yj}(Q:run w l=.ok h):iW 0 l:=by
 unfold run at Q;split at Q
 .cases Q
 .exact qrz Q
theorem FF {w:Int->Int}{l:List cf}{h:yj}(Q:run w l=.ok h)(i:Nat):∃Y,run w (l.take i)=.ok Y:=by
 unfold run at Q ⊢;split at Q
 .cases Q
 rename_i hn;rw[if_neg (by rw[H2];omega)];rw[<-Ic i l,Qe]at Q
 cases hq:ya w 0 ([],[mE]) (l.take i)with
 |error x=>rw[hq]at Q;cases Q|ok Y=>exact⟨Y,rfl⟩
theorem Nr {w:Int->Int}{l:List cf}{h:yj}(Q:run w l=.ok h){i:Nat}{e:cf}{Y:yj}(M:l[i]?=En e)(Qf:run w (l.take i)=.ok Y):qz e=0/\e.number=(i:Int)+1/\∃I,Go.W.accept w Y ((i:Int)+1) e=.ok I/\run w (l.take (i+1))=.ok I:=by
 obtain⟨I,k⟩:=FF Q (i+1)
 have hlen:(l.take i).length=i:=by
  rw[H2];have:=(Iq.1 M).1;omega
 have ht:l.take (i+1)=l.take i++[e]:=by rw[Jv,M];rfl
 have k0:=k;rw[ht]at k;have Ap:=(ZK.1 (ZJ k)).2;rw[hlen,Jc]at Ap;unfold run at k Qf;split at k
 .cases k
 split at Qf
 .cases Qf
 rw[Qe,Qf]at k;simp only[ya,hlen,Jc]at k;split at k
 .cases k
 rename_i hc;split at k
 .cases k
 .rename_i h3 ha;cases k;exact⟨Ap.1,Ap.2.1,_,ha,k0⟩
theorem jw8 {l:List cf}{h:yj}(Q:run (qd .i64) l=.ok h){i:Nat}{e:GEv}(M:l[i]?=En e.er)(G:(ja (l.take i)).length<=90000):f16 (ja (l.take i)) e=En (ja (l.take (i+1)),0)/\ja (l.take (i+1))=ja (l.take i)++zh e.er++[10]:=by
 obtain⟨Y,k⟩:=FF Q i;obtain⟨hc,hn,I,ha,k2⟩:=Nr Q M k
 have hlen:(l.take i).length=i:=by
  rw[H2];have:=(Iq.1 M).1;omega
 have ht:l.take (i+1)=l.take i++[e.er]:=by rw[Jv,M];rfl
 have hT:ja (l.take (i+1))=ja (l.take i)++zh e.er++[10]:=by
  rw[ht,Qg];simp[ja]
 have hsh:=Ak hc;refine⟨?_,hT⟩;rw[j1f G (by have:=hsh.n;omega) (by have:=hsh.v;omega) (q3u hsh),qwe (ZJ k)];have hn:e.number=(i:Int)+1:=hn;simp only[hlen,hc,hn,if_true];rw[if_pos (by rfl),hT]
def vP (e:cf):aj:=Lib.join (qP e) [32]
theorem q9k (e:cf):zp e=Lib.itoa e.number++32::vP e:=by
 unfold zp vP;rw[Lib.join_cons];unfold qP;rw[GZ,Lib.join_cons];simp
theorem jte {e:cf}(h:qz e=0):ef 32 (vP e)=qP e:=
 WL 32 _ _ (Qh (Db h _ (Hc _ (Ib ..))).2 (by decide)) fun w hw=>Qh (Db h w (Hc _ (Hc _ hw))).2 (by decide)
theorem j1i {e:cf}(h:qz e=0):vP e≠[]:=by
 unfold vP qP;rw[Lib.join_cons];have:=(Db h e.kind (Hc _ (Ib ..))).1;simp[this]
theorem q7y {e:cf}(h:qz e=0):mC e.kind=Il:=by
 obtain⟨_,_,⟨f,h3,_⟩,_⟩:=tS h;unfold mC;rcases Wr e.kind with⟨g1,g2⟩|⟨f',g1,g2,_⟩
 .rw[g2]at h3;cases h3
 .rw[g1];rfl
theorem jjs {w}(h:mC w=Il):lW w=Np:=by
 cases hq:lW w with
 |none=>rfl|some q=>rw[jhw hq]at h;cases h
theorem jh5 {e:GEv}(h:qz e.er=0):(e.er.names++e.er.values.map Lib.itoa).length<=100:=by
 have s:=Ak h;have ha:=s.n;have hb:=s.v;rw[Ha,E6];show(e.names.getD []).length+(e.values.getD []).length<=100;omega
section
variable {es:ak GEv}{o:Option HV}{h:yj}(j:aag es o h)
include j
theorem j2s {e:GEv}{h':yj}(hc:qz e.er=0)(hn:(es.getD []).length<1000)(xw:e.number=((es.getD []).length:Int)+1)(ha:Go.W.accept (qd .i64) h (((es.getD []).length:Int)+1) e.er=.ok h'):∃t q,vM o (vP e.er)=En (t,0,q)/\aag (En (es.getD []++[e])) q h':=by
 have hb:=ZI hc;rw[q9k,Ha,Hb]at hb;have hsh:=Ak hc;have hw:=jh5 hc;unfold vM
 rw[yn,qi,yn,qi,vA,qi,decide_eq_false (show ¬4096<((vP e.er).length:Int) by omega),decide_eq_false (j1i hc),show f19 (vP e.er) [32]=En (En (ef 32 (vP e.er)))from PW (by omega),jte hc,
  show decide (fW [if Ix=Il then(27:Int)else 0,if Ix=Il then 26 else 0]=0)=Il from rfl,cond_true,qi,
  show qm ((En (qP e.er)).getD []) 0=En e.er.kind from rfl,qi,jjs (q7y hc)]
 simp only[];rw[q7y hc,cond_true]
 have hN:qd .i64 (((hJ o).length:Int)+1)=(((es.getD []).length+1:Nat):Int):=by
  rw[j.Da,zd (by omega)]
 have rO:qd .i64 (((es.getD []).length:Int)+1)=(((es.getD []).length+1:Nat):Int):=by rw[zd (by omega)]
 obtain⟨e',b',p3,p4⟩:=jg0 (O:=En (qP e.er)) (k:=e.er.kind) (r:=e.er.names++e.er.values.map Lib.itoa) (n:=(((es.getD []).length+1:Nat):Int)) rfl (by omega)
 have hwo:rV (e.er.kind::(e.er.names++e.er.values.map Lib.itoa)) (((es.getD []).length+1:Nat):Int)=En e.er:=by
  have:=q31 hc;rw[show e.er.number=(((es.getD []).length+1:Nat):Int) by show e.number=_;rw[xw];omega]at this;exact this
 rw[hwo]at p4;simp only[]at p4;obtain⟨rfl,p4⟩:=p4;have ZL:jE e:=⟨by have:=hsh.n;unfold SM;omega,by have:=hsh.v;unfold SM;omega⟩
 have ZM:jE e':=by
  have Y:e'.names.getD []=e.names.getD []:=congrArg cf.names p4;have I:e'.values.getD []=e.values.getD []:=congrArg cf.values p4;exact⟨by rw[Y];exact ZL.1,by rw[I];exact ZL.2⟩
 have Ld:e'.number=(((es.getD []).length+1:Nat):Int):=by
  have:e'.number=e.number:=congrArg cf.number p4;rw[this,xw];omega
 simp only[j.Da,rO];rw[p3,qi,yn,qi,yn,qi,vA,qi,decide_eq_false (show ¬1000<=((es.getD []).length:Int) by omega)];show ∃t q,cond (decide ((0:Int)=0)) _ _=_/\_;rw[decide_eq_true rfl,cond_true,J8 ZM.1 ZM.2,p4,hc,qi,decide_eq_true rfl,cond_true];obtain⟨c,s',J,a2⟩:=jb0 j.rel j.ok j.hb (by unfold BB;omega) (e:=e') (by rw[p4];exact hc);rw[p4,ha]at a2;obtain⟨rfl,a4⟩:=a2;rw[J,qi,decide_eq_true rfl,cond_true,Ld,KN (by omega),qi,pB (by have:=ZF (m:=(es.getD []).length+1) (by omega);simp only[Hb,Nh];omega),qi];exact⟨_,_,rfl,j.next ZM ZL p4 (by rw[p4];exact hc) hn J rfl a4 (by rw[p4];exact ha)⟩
theorem q7e {line w t q}(hl:line.length<=4096)(bG:line≠[])(G:ef 32 line=w::t)(hq:lW w=En q):vM o line=En ((Lb (now h) w t).1,(Lb (now h) w t).2,o):=by
 have hsl:=WK 32 line;rw[G,Hb]at hsl;unfold vM
 rw[yn,qi,yn,qi,vA,qi,decide_eq_false (show ¬4096<(line.length:Int) by omega),decide_eq_false bG,show f19 line [32]=En (En (ef 32 line))from PW (by omega),G,
  show decide (fW [if Ix=Il then(27:Int)else 0,if Ix=Il then 26 else 0]=0)=Il from rfl,cond_true,qi,
  show qm ((En (w::t)).getD []) 0=En w from rfl,qi,hq]
 obtain⟨r2,k1,k2⟩:=ju1 j.rel j.ok j.len.1;have R2:=j.rg k2
 have hw:w≠[]:=by
  intro hw;rw[hw]at hq;cases hq
 simp only[];rw[k1,qi,jtr R2 hw (by omega) hq,qi,k2]
end
end Go.Z
namespace Go.Z
open Go Go.Abs Go.W
theorem joj (e:cf)(l:List cf):(ja (e::l)).length=(zh e).length+1+(ja l).length:=by
 rw[ja,Ha,Hb];omega
theorem qwq:∀ {l:List cf} {a:Nat} {out:List cf} {k:Nat} {c d:UInt8},iW out.length l->(ja l)[k]?=En c->d≠10->c≠10->d≠c ->
  (lv (ef 10 ((ja l).take k++d::(ja l).drop (k+1))) a out).2.2≠0/\(lv (ef 10 ((ja l).take k++d::(ja l).drop (k+1))) a out).2.1<a+(ja l).length
 | [],a,out,k,c,d,h,hk,hd,hc,bG=>by simp[ja]at hk
 |e::l,a,out,k,c,d,h,hk,hd,hc,bG=>by
  obtain⟨Y,I,h3⟩:=h;have sX:=Qi Y;have hlen:=joj e l;rcases Nat.lt_trichotomy k (zh e).length with bg|heq|oZ
  .have M:(zh e)[k]?=En c:=by
    rw[ja,List.getElem?_append_left bg]at hk;exact hk
   have xy:zh e=(zh e).take k++c::(zh e).drop (k+1):=by
    rw[<-rF M,Ic]
   have e1:(ja (e::l)).take k++d::(ja (e::l)).drop (k+1)=((zh e).take k++d::(zh e).drop (k+1))++10::ja l:=by
    rw[ja,List.take_append_of_le_length (by omega),List.drop_append_of_le_length (by omega)];simp
   obtain⟨x,xS,fV⟩:=q9t Y xy bG out.length
   have xQ:(10:UInt8) ∉ (zh e).take k++d::(zh e).drop (k+1):=by
    intro hm;rcases I6.1 hm with hm|hm
    .exact sX (Jw hm)
    .rcases Iy.1 hm with hm|hm
     .exact hd hm.symm
     .exact sX (List.mem_of_mem_drop hm)
   rw[e1,rQ xQ,G0 (zJ _ _),xS];exact⟨fV,by show a<_;omega⟩
  .exfalso;subst heq;rw[ja,I9 (J2 _),Nat.sub_self]at hk;exact hc (En.inj hk).symm
  .obtain⟨j,rfl⟩:∃j,k=(zh e).length+1+j:=⟨k-((zh e).length+1),by omega⟩
   have lh:ja (e::l)=(zh e++[10])++ja l:=by rw[ja];simp
   have dQ:(zh e++[10]).length=(zh e).length+1:=by simp
   have M:(ja l)[j]?=En c:=by
    rw[lh,I9 (by rw[dQ];omega),dQ,show(zh e).length+1+j-((zh e).length+1)=j by omega]at hk;exact hk
   have e1:(ja (e::l)).take ((zh e).length+1+j)++d::(ja (e::l)).drop ((zh e).length+1+j+1)=zh e++10::((ja l).take j++d::(ja l).drop (j+1)):=by
    rw[lh,List.take_append,List.drop_append,dQ,H8 (by rw[dQ];omega),List.drop_of_length_le (by rw[dQ];omega),show(zh e).length+1+j-((zh e).length+1)=j by omega,show(zh e).length+1+j+1-((zh e).length+1)=j+1 by omega];simp
   rw[e1,rQ sX,G0 (zJ _ _),ZN Y,if_neg (fun h=>h I)];dsimp only;have ih:=qwq (l:=l) (a:=a+(zh e).length+1) (out:=out++[e]) (k:=j) (d:=d) (by rw[Ha,H3];exact h3) M hd hc bG;exact⟨ih.1,by have:=ih.2;omega⟩
theorem jal {l:List cf}(h:iW 0 l){k:Nat}{c d:UInt8}(hk:(ja l)[k]?=En c)(hd:d≠10)(hc:c≠10)(bG:d≠c):
  (zo ((ja l).take k++d::(ja l).drop (k+1))).2.2≠0/\(zo ((ja l).take k++d::(ja l).drop (k+1))).2.1<(ja l).length:=by
 have:=qwq (a:=0) (out:=[]) h hk hd hc bG;rw[Jc]at this;exact this
theorem ZO {l:List cf}(h:iW 0 l){r:Nat}(Q:r<=l.length):iW 0 (l.take r)/\iW r (l.drop r):=by
 have:=ZK.1 (show iW 0 (l.take r++l.drop r) by rw[Ic];exact h);rw[H2,Jc,Ni Q]at this;exact this
theorem jay {l:List cf}(h:iW 0 l){r:Nat}(Q:r+1<l.length):(zo (ja (l.take r)++ja (l.drop (r+1)))).2.2=11:=by
 have Y:=(ZO h (r:=r) (by omega)).1;have I:=(ZO h (r:=r+1) (by omega)).2
 have hlen:(l.take r).length=r:=by rw[H2];omega
 cases hd:l.drop (r+1)with
 |nil=>
  have:=congrArg I2 hd;simp at this;omega
 |cons e m=>
  rw[hd]at I;obtain⟨k1,k2,k3⟩:=I;have key:=Qj (l:=l.take r) (t:=ja (e::m)) (a:=0) (out:=[]) Y;unfold zo;rw[key,ja,rQ (Qi k1),G0 (zJ _ _),ZN k1,if_pos (by rw[Ng,hlen,k2];omega)]
theorem Qk {l:List cf}{i m:Nat}(h:i<=m):(ja (l.take i)).length<=(ja (l.take m)).length:=by
 have:l.take m=l.take i++(l.take m).drop i:=by
  have:=(Ic i (l.take m)).symm;rwa [List.take_take,Ni h]at this
 rw[this,Qg,Ha];omega
theorem q4l (l:List cf)(i:Nat):ja l=ja (l.take i)++ja (l.drop i):=by
 rw[<-Qg,Ic]
theorem jx4 {l:List cf}(h:iW 0 l){n:Nat}(hn:n<=(ja l).length):∃m z,m<=l.length/\(∀j,j<=l.length->((ja (l.take j)).length<=n↔j<=m))/\zo ((ja l).take n)=(l.take m,(ja (l.take m)).length,z)/\(z=0\/z=29):=by
 obtain⟨m,t,Y,I,h3,h4,h5⟩:=jcj h hn;refine⟨m,if t=[]then 0 else 29,Y,fun j hj=>⟨fun hle=>?_,fun hle=>?_⟩,?_,?_⟩
 .rcases Nat.lt_or_ge m j with bg|oR
  .have:=h5 j bg hj;omega
  .exact oR
 .have:=Qk (l:=l) hle;omega
 .rw[I,q63 (ZO h Y).1 h3]
 .split
  .exact .inl rfl
  .exact .inr rfl
end Go.Z
namespace Go.Z
open Go Go.Abs Go.W
theorem q64 {ls:ak aj}(hl:(ls.getD []).length<=1000000):∀(k i:Nat),i+k=(ls.getD []).length->bq (Hp ls) (i:Int)=En ((ls.getD []).length:Int)
 |0,i,h=>by
  obtain rfl:i=(ls.getD []).length:=by omega
  exact zj (by unfold Hp;rw[yd];rfl)
 |k+1,i,h=>by
  have bg:i<(ls.getD []).length:=by omega
  rw[km (s':=((i+1:Nat):Int))]
  .exact q64 hl k (i+1) (by omega)
  .unfold Hp;rw[kj bg,cond_true,q9 (If bg),qi,zd (by omega)]
theorem Ql {x:Int}{n:Nat}(h0:0<=x)(hn:0<n):∃k:Nat,jT x (n:Int)=En (k:Int)/\k<n:=by
 obtain⟨m,rfl⟩:∃m:Nat,x=m:=⟨x.toNat,by omega⟩;refine⟨m % n,?_,Nat.mod_lt _ hn⟩;unfold jT;rw[if_neg (by omega),Int.ofNat_tmod]
theorem jxf {e:GEv}(hc:qz e.er=0):f18 e=En (vP e.er):=by
 have hsh:=Ak hc;have hb:=ZI hc;obtain⟨n1,n2,_,_,n5,_⟩:=tS hc;have n1:1<=e.number:=n1;have n2:e.number<=1000:=n2;have ha:=hsh.n;have hv:=hsh.v;unfold f18;rw[j0z ⟨by omega,by omega⟩ (fun v hv=>⟨(n5 v hv).1,by have:=(n5 v hv).2;omega⟩) (by omega) (by omega) (by omega),qi,Y1 (by omega) (by omega),qi];have jN:=q9k e.er;have hlen:=congrArg I2 jN;rw[Ha,Hb]at hlen;have hn:e.er.number=e.number:=rfl;rw[hn]at jN hlen;rw[zd (by omega),Ab (by omega),qi,jN,<-List.drop_drop,Nk rfl];rfl
def qT (L:List cf)(i:Nat):List Int:=(List.range i).map fun j=>((ja (L.take (j+1))).length:Int)
theorem ji3 {L i}:qT L (i+1)=qT L i++[((ja (L.take (i+1))).length:Int)]:=by
 unfold qT;rw[List.range_succ,Ij];rfl
theorem ZP {L i}:(qT L i).length=i:=by simp[qT]
theorem ZQ {L:List cf}{i j:Nat}(h:j<i):(qT L i)[j]?=En ((ja (L.take (j+1))).length:Int):=by
 unfold qT;rw[Ja,List.getElem?_range h];rfl
theorem jla {O:ak GEv}{h:yj}(Q:run (qd .i64) ((O.getD []).map GEv.er)=.ok h):∀e∈O.getD [],qz e.er=0:=fun e he=>(OP Q).2 _ (Ip he)
theorem jzm {O:ak GEv}(hn:(O.getD []).length<=20)(J:G3){log:aj}{w:Bool}{n1:Int}{size m:Nat}(hm:m<=(O.getD []).length)(hc:∀j,j<=(O.getD []).length->((ja (((O.getD []).map GEv.er).take j)).length<=size↔j<=m)):
  bq (Aj O J (log,jh (qT ((O.getD []).map GEv.er) (O.getD []).length),w,n1) (size:Int)) (0,0)=En ((m:Int),((O.getD []).length:Int)):=by
 have:=q8u (f:=Aj O J (log,jh (qT ((O.getD []).map GEv.er) (O.getD []).length),w,n1) (size:Int)) (st:=fun i=>(((min i m:Nat):Int),(i:Int))) (n:=(O.getD []).length) (d:=((m:Int),((O.getD []).length:Int))) (fun i hi=>?_) ?_
 .rw[show((0:Int),(0:Int))=(((min 0 m:Nat):Int),((0:Nat):Int)) by simp];exact this
 .unfold Aj;dsimp only;rw[zc,ZP,decide_eq_true (show(i:Int)<((O.getD []).length:Int) by omega),cond_true,q9 (ZQ hi),qi];by_cases hle:i+1<=m
  .rw[decide_eq_true (by have:=(hc (i+1) (by omega)).2 hle;omega),cond_true,zd (by omega),zd (by omega)];rw[show min i m+1=min (i+1) m by omega]
  .rw[decide_eq_false (fun hh=>hle ((hc (i+1) (by omega)).1 (by omega))),cond_false,zd (by omega)];rw[show min i m=min (i+1) m by omega]
 .unfold Aj;dsimp only;rw[zc,ZP,yd,cond_false,show min (O.getD []).length m=m by omega]
section
variable {O:ak GEv}{h:yj}(Q:run (qd .i64) ((O.getD []).map GEv.er)=.ok h)(hn:(O.getD []).length<=20)
include Q hn
theorem q70 (i:Nat):(ja (((O.getD []).map GEv.er).take i)).length<=20020:=by
 have Y:=q89 (jla Q);have I:=Qk (l:=(O.getD []).map GEv.er) (i:=i) (m:=max i (O.getD []).length) (by omega);rw[H8 (i:=max i _) (by rw[E6];omega)]at I;omega
theorem jyf (J:G3):bq (Ai O J) ([],Np,0,Ix)=En (.inr (ja ((O.getD []).map GEv.er),jh (qT ((O.getD []).map GEv.er) (O.getD []).length),fS (qT ((O.getD []).map GEv.er) (O.getD []).length),((O.getD []).length:Int))):=by
 refine q8u (f:=Ai O J) (st:=fun i=>(ja (((O.getD []).map GEv.er).take i),jh (qT ((O.getD []).map GEv.er) i),(i:Int),fS (qT ((O.getD []).map GEv.er) i))) (n:=(O.getD []).length) (fun i hi=>?_) ?_
 .have M:(O.getD [])[i]?=En (O.getD [])[i]:=If hi
  have fV:((O.getD []).map GEv.er)[i]?=En ((O.getD [])[i]).er:=by rw[Ja,M];rfl
  have hl:=q70 Q hn i;obtain⟨k1,k2⟩:=jw8 Q fV (by omega)
  have bg:¬((ja (((O.getD []).map GEv.er).take (i+1))).length:Int)<=((ja (((O.getD []).map GEv.er).take i)).length:Int):=by
   rw[k2,Ha,Ha,H3];omega
  unfold Ai;dsimp only;rw[kj hi,cond_true,q9 M,qi,k1,qi];dsimp only;rw[decide_eq_true rfl,cond_true,decide_eq_false bg,cond_false,zd (by omega)];rw[vn (by rw[ZP];omega),ji3,wQ]
 .unfold Ai;dsimp only;rw[yd,H8 (by rw[E6];omega)];rfl
theorem jir {m:Nat}{A:SS}{n0 n1:Nat}{mm:ak GEv}(Qm:mm.getD []=(O.getD []).drop m)(hm:m<=(O.getD []).length):∀(k i:Nat) (S:SS) (es:ak GEv) (hi:yj),i+k=(mm.getD []).length->Sep n0 n1 S A->aag es S.v hi->(es.getD []).map GEv.er=((O.getD []).map GEv.er).take (m+i) ->
  ∃T uD,bq (C7 mm) (S,(i:Int))=En (T,((mm.getD []).length:Int))/\Sep n0 n1 T A/\aag uD T.v h/\(uD.getD []).map GEv.er=(O.getD []).map GEv.er
 |0,i,S,es,hi,hk,G,j,he=>by
  have hl:(mm.getD []).length=(O.getD []).length-m:=by rw[Qm,I3]
  have he':(es.getD []).map GEv.er=(O.getD []).map GEv.er:=by
   rw[he,H8 (by rw[E6];omega)]
  obtain rfl:i=(mm.getD []).length:=by omega
  have hh:hi=h:=by
   have:=j.run;rw[he',Q]at this;exact(Except.ok.inj this).symm
  subst hh;exact⟨S,es,zj (by unfold C7;dsimp only;rw[yd];rfl),G,j,he'⟩
 |k+1,i,S,es,hi,hk,G,j,he=>by
  have hl:(mm.getD []).length=(O.getD []).length-m:=by rw[Qm,I3]
  have bg:i<(mm.getD []).length:=by omega
  have M:(mm.getD [])[i]?=En (mm.getD [])[i]:=If bg;generalize iM:(mm.getD [])[i]=x at M
  have hx0:(O.getD [])[m+i]?=En x:=by
   rw[Qm,List.getElem?_drop]at M;exact M
  have fV:((O.getD []).map GEv.er)[m+i]?=En x.er:=by rw[Ja,hx0];rfl
  have bF:=j.run;rw[he]at bF;obtain⟨c1,c2,I,tT,Aq⟩:=Nr Q fV bF
  have hlen:(es.getD []).length=m+i:=by
   have:=congrArg I2 he;rw[E6,H2,E6]at this;omega
  have xw:x.number=((es.getD []).length:Int)+1:=by
   have c2:x.number=((m+i:Nat):Int)+1:=c2;rw[hlen];exact c2
  obtain⟨t,q,d1,d2⟩:=j2s j c1 (by omega) xw (by rw[hlen];exact tT);obtain⟨hh,_,_,ZR,hv,_⟩:=P9 G.ok d1;have hv:(S.next q).v=q:=hv;have ZR:(S.next q).ok:=ZR
  have cn:C7 mm (S,(i:Int))=En (.inl (S.next q,((i+1:Nat):Int))):=by
   unfold C7;dsimp only;rw[kj bg,cond_true,jic.2 G.ok,cond_true,q9 M,qi,jxf c1,qi,d1,qi,zd (by omega)];rfl
  rw[km cn];refine jir Qm hm k (i+1) (S.next q) (En (es.getD []++[x])) I (by omega) (G.next ZR) (by rw[hv];exact d2) ?_;show(es.getD []++[x]).map GEv.er=_;rw[Ij,he,show m+(i+1)=(m+i)+1 by omega,Jv,fV];rfl
end
end Go.Z
namespace Go.Z
open Go Go.Abs Go.W
theorem W4a {O:ak GEv}{J:G3}{b:Bool}(h:f15 O 20=En b)(hb:b=Ix\/(O.getD []).length=0):ae aB (X aB) 4 [sl 5 vev O,.agg [.int .u16 J.x,.int .u16 J.y,.int .u16 J.z]]=En (.bool Il,Ix):=by
 suffices this:∃hh,ai aB (X aB) 4 [sl 5 vev O,.agg [.int .u16 J.x,.int .u16 J.y,.int .u16 J.z]] []=En (.bool Il,Ix,hh) by
  obtain⟨hh,this⟩:=this;exact jr rfl this (by first|rfl|simp only[go_sem,seval]) (by first|rfl|simp only[go_sem,seval])
 have jG:=j1s h;have pz:ae aB (X aB) 5 []=En (.bool Il,Ix):=W5 rfl
 cases b with
 |false=>
  rw[qg (show aB.br 4=En c4 from rfl) (by simp)];simp only[go_sem,seval,c4,jG,pz];exact⟨_,rfl⟩
 |true=>
  have h4:decide (((O.getD []).length:Int)=0)=Il:=by
   rcases hb with hb|hb
   .cases hb
   .rw[hb];rfl
  rw[qg (show aB.br 4=En c4 from rfl) (by simp)];simp only[go_sem,seval,c4,jG,h4,pz];exact⟨_,rfl⟩
theorem jgv {s:aj}{E:List cf}{h:yj}(G:s.length<=90000)(hE:(zo s).1=E)(hz:(zo s).2.2=0\/(zo s).2.2=29)(Q:run (qd .i64) E=.ok h):
  ∃t o,f17 s=En t/\(t.1.getD []).map GEv.er=E/\t.2.2=(zo s).2.2/\f7 s=En (0,En o)/\aag t.1 o h:=by
 obtain⟨t,t1,t2⟩:=PX G;have ht:(t.1.getD []).map GEv.er=E:=t2.1.trans hE
 have bt:∀e∈t.1.getD [],jE e:=fun e he=>by
  have:=jr6 G (jn9 t2 he);exact⟨by have:=this.l1;unfold SM;omega,by have:=this.l2;unfold SM;omega⟩
 obtain⟨d,d1,d2⟩:=jg6 bt;rw[ht,Q]at d2;obtain⟨o,rfl,k1,k2,k3,k4⟩:=d2;obtain⟨q1,q2⟩:=j1d bt d1;refine⟨t,o,t1,ht,t2.2.2,?_,⟨by rw[ht];exact Q,k1,k2,k3,q1,bt,q2⟩⟩;unfold f7
 have hc:(decide (t.2.2=0)||decide (t.2.2=29))=Il:=by
  rw[t2.2.2];rcases hz with hz|hz<;>rw[hz]<;>rfl
 rw[t1,qi,hc,cond_true,d1,qi]
theorem jm1 {α:Type}{o:Option (List α)}{k:Nat}(h:k<=(o.getD []).length):∃q,jB o (En (k:Int)) Np=En q/\q.getD []=(o.getD []).drop k:=by
 have hc:fL (o.getD []) (En (k:Int)) Np=En ((o.getD []).drop k):=by
  unfold fL
  have Y:lm (o.getD []).length 0 (En (k:Int))=En k:=by
   unfold lm;simp only[];rw[if_pos ⟨by omega,by omega⟩,Int.toNat_natCast]
  show(match lm (o.getD []).length 0 (En (k:Int))with
   |some i=>En (((o.getD []).take (o.getD []).length).drop i)
   |none=>Np)=_
  rw[Y,List.take_length]
 unfold jB;rw[hc]
 cases o with
 |none=>exact⟨Np,rfl,by simp⟩|some l=>exact⟨_,rfl,rfl⟩
theorem jzk:∀ t∈ef 44 gy,∃w r q,ef 32 t=w::r/\lW w=En q/\t≠[]/\t.length<=4096:=by
 intro t ht
 have h:ef 44 gy=[[115,104,105,112,112,101,100],[104,101,108,100],[115,116,111,99,107,32,99,111,110,101],[118,101,114,115,105,111,110,32,98,111,120],[108,111,116,115,32,117,49],[109,105,115,115,105,110,103,32,117,49],[117,110,105,116,115,32,99,111,110,101,95,49]]:=by decide
 rw[h]at ht;simp only[Iy,I1,or_false]at ht;rcases ht with rfl|rfl|rfl|rfl|rfl|rfl|rfl<;>exact⟨_,_,_,rfl,rfl,by decide,by decide⟩
theorem j0g:∀ z:Fin 200,qd .u8 (qd .u16 (32+(z.val:Int)))=32+(z.val:Int):=by decide
theorem I4 (O:ak GEv)(J:G3)(M:0<=J.x/\J.x<=65535)(hy:0<=J.y/\J.y<=65535)(hz:0<=J.z/\J.z<=65535):ae aB (X aB) 4 [sl 5 vev O,.agg [.int .u16 J.x,.int .u16 J.y,.int .u16 J.z]]=En (.bool Il,Ix):=by
 obtain⟨b,hb,kb⟩:=j3g (l:=O) (n:=20) (by omega)
 cases b with
 |false=>exact W4a hb (.inl rfl)
 |true=>
 by_cases h0:(O.getD []).length=0
 .exact W4a hb (.inr h0)
 obtain⟨hn,h,jk⟩:=kb rfl
 have hn:(O.getD []).length<=20:=by omega
 have Q:=jk.Q;have Ap:=ZJ Q;have Le:=q70 Q hn (O.getD []).length;rw[H8 (by rw[E6];omega)]at Le;have hA:=jyf Q hn J;have Lf:=Y7 ((O.getD []).map GEv.er);rw[E6]at Lf;generalize jJ:ja ((O.getD []).map GEv.er)=log at *;obtain⟨size,s1,s2⟩:=Ql (x:=J.x) (n:=log.length+1) M.1 (by omega);obtain⟨m,z,m1,m2,m3,m4⟩:=jx4 Ap (n:=size) (by rw[jJ];omega);rw[E6]at m1 m2;rw[jJ]at m3;have ZS:=FF Q m;obtain⟨hm,ZS⟩:=ZS
 have Lg:(log.take size).length<=90000:=by rw[H2];omega
 obtain⟨rc,o1,p1,p2,p3,p4,p5⟩:=jgv (s:=log.take size) (h:=hm) Lg (by rw[m3]) (by rw[m3];exact m4) ZS
 have xy:zo log=((O.getD []).map GEv.er,log.length,0):=by
  have:=qwe Ap;rwa [jJ]at this
 obtain⟨rc',o2,q1,q2,q3,q4,q5⟩:=jgv (s:=log) (h:=h) (by omega) (by rw[xy]) (by rw[xy];exact .inl rfl) Q;obtain⟨pre,c1,c2⟩:=Ww (o:=O) (k:=m) m1;obtain⟨mm,tT,Aq⟩:∃mm,jB O (En (m:Int)) Np=En mm/\mm.getD []=(O.getD []).drop m:=jm1 m1
 have xr:f11 rc.1 pre=En Il:=jle (by rw[p2,c2,List.map_take]) (by
  have:=congrArg I2 p2;rw[E6,H2,E6]at this
  omega) fun e he=>by
   have hc:qz e.er=0:=by
    have:e.er∈((O.getD []).map GEv.er).take m:=by rw[<-p2];exact Ip he
    exact(OP Q).2 _ (Jw this)
   have:=Ak hc;exact⟨by have:=this.n;omega,by have:=this.v;omega⟩
 have oD:=Sep.open o1 o2;generalize hS0:(SS.open [] o1).at (SS.open (SS.open [] o1).H o2).H=S0 at oD
 have ZT:S0.v=o1:=by rw[<-hS0];rfl
 obtain⟨T,es,e1,e2,e3,e4⟩:=jir Q hn (mm:=mm) (m:=m) Aq m1 (mm.getD []).length 0 S0 rc.1 hm (by omega) oD (by rw[ZT];exact p5) (by rw[p2];rfl);obtain⟨k,k1,k2⟩:=Ql (x:=J.y) (n:=log.length) hy.1 (by omega);obtain⟨z1,z2,z3⟩:=Ql (x:=J.z) (n:=200) hz.1 (by omega);have jM:log[k]?=En log[k]:=If k2;generalize Bk:log[k]=b at jM;have dC:=j0g ⟨z1,z3⟩;simp only[]at dC;have hsl:=WK 44 gy;have hql:gy.length=67:=rfl;refine W4t (m:=mm) (n3:=((mm.getD []).length:Int)) (ls:=En (ef 44 gy)) hb (decide_eq_false (by omega)) hA (size:=(size:Int)) ?_ (jzm hn J m1 (fun j hj=>m2 j hj)) (KO (by omega)) p1 (by rw[p3,m3];exact m4) c1 xr p4 q4 tT ?_ e2 (PW (by omega)) (q64 (by simp only[Option.getD_some];omega) (ef 44 gy).length 0 (by simp)) ?_ ?_ (k:=(k:Int)) (z1:=(z1:Int)) (b:=b) ?_ z2 (q9 jM) ?_ ?_
 .rw[yl (by omega) (by omega),zd (by omega)];exact s1
 .rw[hS0];exact e1
 .intro t ht;obtain⟨w,r,q,g1,g2,g3,g4⟩:=jzk t ht;exact⟨_,_,q7e e3 g4 g3 g1 g2,q7e q5 g4 g3 g1 g2⟩
 .have hel:=e3.Da;have hel2:=e3.len.1;rw[jt1 (by omega) e3.ZG,e3.ev,e4,jJ]
 .rw[yl (by omega) (by omega)];exact k1
 .intro g1 g2;rw[dC]at g2 ⊢
  have hd:(UInt8.ofNat (32+(z1:Int)).toNat).toNat=32+z1:=by
   rw[show(32+(z1:Int)).toNat=32+z1 by omega,UInt8.toNat_ofNat'];omega
  generalize UInt8.ofNat (32+(z1:Int)).toNat=d at hd
  have ZU:d≠10:=fun hh=>by rw[hh]at hd;have:(10:UInt8).toNat=10:=rfl;omega
  have hdb:d≠b:=fun hh=>by rw[hh]at hd;omega
  have ZV:b≠10:=fun hh=>by rw[hh]at g1;exact g1 rfl
  have dW:(log.take k++[d]++log.drop (k+1)).length=log.length:=by
   simp only[Ha,H2,I3,H3];omega
  obtain⟨r,r1,r2⟩:=PX (s:=log.take k++[d]++log.drop (k+1)) (by omega);have ZW:=jal Ap (k:=k) (c:=b) (d:=d) (by rw[jJ];exact jM) ZU ZV hdb;rw[jJ]at ZW;rw[show log.take k++[d]++log.drop (k+1)=log.take k++d::log.drop (k+1) by simp]at r2;refine⟨log.take k,log.drop (k+1),log.take k++[d],log.take k++[d]++log.drop (k+1),r,KO (by omega),?_,pB ?_,pB ?_,r1,?_,?_⟩
  .rw[zd (by omega)];exact Ab (by omega)
  .simp only[H2,H3];omega
  .simp only[Ha,H2,I3,H3];omega
  .rw[r2.2.2];exact ZW.1
  .rw[r2.2.1];have:=ZW.2;omega
 .intro g3;obtain⟨r,r1,r2⟩:=Ql (x:=J.z) (n:=(O.getD []).length-1) hz.1 (by omega)
  have pP:∀i,i<=(O.getD []).length->(ja (((O.getD []).map GEv.er).take i)).length<=log.length:=fun i hi=>by
   have:=Qk (l:=(O.getD []).map GEv.er) (i:=i) (m:=(O.getD []).length) hi;rw[H8 (i:=(O.getD []).length) (by rw[E6];omega),jJ]at this;exact this
  have kQ:∀i,log.take (ja (((O.getD []).map GEv.er).take i)).length=ja (((O.getD []).map GEv.er).take i)/\log.drop (ja (((O.getD []).map GEv.er).take i)).length=ja (((O.getD []).map GEv.er).drop i):=fun i=>by
   have:=q4l ((O.getD []).map GEv.er) i;rw[jJ]at this;rw[this];exact⟨List.take_left' rfl,Nk rfl⟩
  have dW:(ja (((O.getD []).map GEv.er).take r)++ja (((O.getD []).map GEv.er).drop (r+1))).length<=log.length:=by
   have e1:=q4l ((O.getD []).map GEv.er) (r+1);have e2:=Qk (l:=(O.getD []).map GEv.er) (i:=r) (m:=r+1) (by omega);have e3:=congrArg I2 e1;rw[Ha,jJ]at e3;rw[Ha];omega
  obtain⟨x,x1,x2⟩:=PX (s:=ja (((O.getD []).map GEv.er).take r)++ja (((O.getD []).map GEv.er).drop (r+1))) (by omega);have hdr:=jay Ap (r:=r) (by rw[E6];omega);refine⟨(r:Int),?_,((ja (((O.getD []).map GEv.er).take r)).length:Int),((ja (((O.getD []).map GEv.er).take (r+1))).length:Int),ja (((O.getD []).map GEv.er).take r),ja (((O.getD []).map GEv.er).drop (r+1)),ja (((O.getD []).map GEv.er).take r)++ja (((O.getD []).map GEv.er).drop (r+1)),x,?_,?_,?_,?_,pB ?_,x1,x2.2.2.trans hdr⟩
  .rw[yl (by omega) (by omega),yl (by omega) (by omega),show((O.getD []).length:Int)-1=(((O.getD []).length-1:Nat):Int) by omega];exact r1
  .by_cases Nu:r=0
   .subst Nu;exact .inl ⟨by omega,rfl⟩
   .refine .inr ⟨by omega,?_⟩;rw[zc,yl (by omega) (by omega),show(r:Int)-1=((r-1:Nat):Int) by omega,q9 (ZQ (by omega)),show r-1+1=r by omega]
  .rw[KO (pP r (by omega)),(kQ r).1]
  .rw[zc,q9 (ZQ (by omega))]
  .rw[Ab (pP (r+1) (by omega)),(kQ (r+1)).2]
  .rw[Ha]at dW;omega
theorem q0w {x:Int}(h:(Lit.int .u16 x).wf=Il):0<=x/\x<=65535:=by
 simp only[Lit.wf,Jz,decide_eq_true_eq]at h
 have e1:IntKind.min .u16=0:=by decide
 have e2:IntKind.max .u16=65535:=by decide
 omega
end Go.Z
end
