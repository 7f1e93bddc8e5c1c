/- Sessions, plain. -/
import Derived.Test.YtlhfdilpecnjeaaGreatDoorSY
set_option linter.all false
set_option maxRecDepth 100000
set_option maxHeartbeats 4000000
noncomputable section
open Option renaming some->En,isSome_some->Ir,getD_some->I7,bind_eq_some_iff->Ja
open List renaming mem_of_getElem?->Ga,length_map->Gb,length_cons->Gd,length_append->Ha,length_filter_le->Hb,length_singleton->Hq,getElem?_eq_some_iff->H2,mem_cons_of_mem->If,mem_cons_self->Ii,mem_map->Ik,map_cons->Io,mem_of_find?_eq_some->Ip,not_mem_nil->Ix,mem_filter->Iy,map_append->Iz,mem_map_of_mem->I0,mem_singleton->I1,mem_cons->I6,map_map->I9,find?_some->Jb,mem_append->Jc,drop_eq_nil_iff->Jg,any_cons->Jj,flatten_cons->Jm,intercalate->Jn,intersperse->Jo,length->Jr,length_nil->Js,filter_map->Ju,head?_drop->Jv,any_nil->Jx
open Bool renaming false->Hc,true->Ij,not_true->I5,or_eq_false_iff->Ji,or_false->Jw
open Nat renaming le_trans->Iu,ble_eq_true_of_le->Jf
namespace Go.Z
open Go Go.Abs Go.W
theorem Rl {e:aC}(h:jj e.er=0):ShE e:=by
 obtain⟨n1,n2,⟨f,f1,f2,nK⟩,n4,n5,_⟩:=Rk h
 have hfm:∀x∈cC,x.1.length<=40/\x.2.1<=6/\x.2.2<=8:=by decide
 have hf:=hfm _ (qru f1);simp only[]at hf;have f2:(e.names.getD []).length=f.1:=f2;have nK:(e.values.getD []).length=f.2:=nK;refine⟨hf.1,by omega,by omega,fun x M=>?_⟩
 .have Y:=n4 x M;unfold Go.W.cu at Y;split at Y
  .cases Y
  .simp only[Bool.and_eq_true,decide_eq_true_eq]at Y;omega
theorem jj0 {e:aC}(h:jj e.er=0):(jZ e.er).length<=20000:=by
 have s:=Rl h;obtain⟨Y,I,_,_,h5,_⟩:=Rk h;have h5:∀v∈e.values.getD [],0<=v/\v<1000000000:=fun v hv=>⟨(h5 v hv).1,by have:=(h5 v hv).2;omega⟩;have Y:1<=e.number:=Y;have I:e.number<=1000:=I;have ha:=s.n;have hb:=s.v;have hk:=s.k
 have hlb:(jA e.er).length<=10000:=by
  rw[qx7];have l1:=L4 (l:=e.names.getD []) s.s
  have l2:=L4 (l:=(e.values.getD []).map Lib.itoa) fun w hw=>by
   obtain⟨v,hv,rfl⟩:=Ik.1 hw;exact Rj (h5 v hv).1 (h5 v hv).2
  have l3:=Rj (v:=e.number) (by omega) (by omega);rw[Gb]at l2;simp only[Ha,Hq];show(Lib.itoa e.number).length+1+e.kind.length+(Lib.joinTail [32] (e.names.getD [])).length+(Lib.joinTail [32] ((e.values.getD []).map Lib.itoa)).length<=10000;omega
 have:=q3k e.er;omega
theorem qtz:∀ {l:List aC},(∀e∈l,jj e.er=0)->(gX (l.map aC.er)).length<=20001*l.length
 | [],_=>Nat.le_refl _
 |e::l,h=>by
  have Y:=jj0 (h e (Ii ..));have I:=qtz (l:=l) fun x M=>h x (If _ M);rw[Io,gX,Ha,Gd,Gd];omega
theorem j0j {o:Option HV}(hl:(ga o).length<=1000000)(hb:∀e∈ga o,iX e):∃r w,evF o=En (r,w)/\(r.getD []).map aC.er=(ga o).map aC.er/\∀e∈r.getD [],iX e:=by
 cases o with
 |none=>exact⟨none,Hc,rfl,rfl,fun e he=>by cases he⟩
 |some s=>
  have hl:s.ev.length<=1000000:=hl;have hb:∀e∈s.ev,iX e:=hb
  have key:=jcn s.ev (HA s.ev) (fun e=>(f46 e).getD e) (by omega) (fun a=>by
    unfold HA;dsimp only;rw[z4];rfl) (fun i x a M hi ha=>by
    obtain⟨e',g1,g2,g3⟩:=KC (hb x (Ga M));unfold HA;dsimp only;rw[yn hi,cond_true,ja M,qe,g1,qe,vM ha];rw[za (by omega)]
    rfl)
  refine⟨jd (s.ev.map fun e=>(f46 e).getD e),fE (s.ev.map fun e=>(f46 e).getD e),?_,?_,?_⟩
  .show HD s.ev=_;unfold HD;rw[key,qe]
  .rw[zb,I9];refine List.map_congr_left fun e he=>?_;obtain⟨e',g1,g2,g3⟩:=KC (hb e he);show((f46 e).getD e).er=e.er;rw[g1];exact g2
  .rw[zb];intro e he;obtain⟨e0,h0,rfl⟩:=Ik.1 he;obtain⟨e',g1,g2,g3⟩:=KC (hb e0 h0);rw[g1];exact g3
theorem q5k {α:Type}:∀l:List (List α),([]:List α).intercalate l=l.flatten
 | []=>rfl
 | [x]=>by simp[Jn,Jo]
 |x::y::l=>by
  have:=q5k (y::l);simp only[Jn,Jo,Jm,List.nil_append]at this ⊢;rw[this]
theorem jam:∀ l:List cQ,(l.map fun e=>jZ e++[10]).flatten=gX l
 | []=>rfl
 |e::l=>by rw[Io,Jm,jam l,gX];simp
theorem ju1 {o:Option HV}(hl:(ga o).length<=1000)(hc:∀e∈ga o,jj e.er=0):jmd o=En (gX ((ga o).map aC.er)):=by
 cases o with
 |none=>rfl
 |some s=>
  have hl:s.ev.length<=1000:=hl;have hc:∀e∈s.ev,jj e.er=0:=hc
  have key:=jcn s.ev (HE s.ev) (fun e=>jZ e.er++[10]) (by omega) (fun a=>by
    unfold HE;dsimp only;rw[z4];rfl) (fun i x a M hi ha=>by
    have hk:=hc x (Ga M);have ho:=(q5f (Rl hk) hk);unfold HE;dsimp only;rw[yn hi,cond_true,ja M,qe,j0k ho.1.num ho.1.vals ho.1.l1 ho.1.l2 (by have:=ho.1.lb;omega),qe,vM ha]
    rw[za (by omega)])
  show f13 s.ev=En (gX (s.ev.map aC.er));unfold f13 Rf;rw[key,qe,qe];have hb:=qtz hc
  have hf:(s.ev.map fun e=>jZ e.er++[10]).flatten=gX (s.ev.map aC.er):=by rw[<-jam,I9];rfl
  cases he:s.ev with
  |nil=>rfl
  |cons e l=>
   rw[he]at hf hb hl;show f47 (En ((jZ e.er++[10])::l.map fun e=>jZ e.er++[10])) []=_
   have Ig:([]:aj).intercalate ((jZ e.er++[10])::l.map fun e=>jZ e.er++[10])=gX ((e::l).map aC.er):=by rw[q5k];exact hf
   show(bif Nat.ble _ 100000&&Nat.ble (([]:aj).intercalate ((jZ e.er++[10])::l.map fun e=>jZ e.er++[10])).length 100000000 then En (([]:aj).intercalate ((jZ e.er++[10])::l.map fun e=>jZ e.er++[10]))else none)=_;rw[Ig,Jf (by simp only[Gd,Gb]at hl ⊢;omega),Jf (by omega)];rfl
theorem jcs {l l':List aC}{e}(h:qZ l l.length e=En l'):l'=l++[e]:=by
 unfold qZ at h;split at h
 .cases h;simp
 .cases h
theorem jsy {s:HV}{e:aC}{q}(h:Cd s e=En q):(q.1=0->q.2.ev=s.ev++[e])/\(q.1≠0->q.2.ev=s.ev):=by
 unfold Cd at h;rcases qc h with⟨Y,h⟩|⟨Y,h⟩
 .rcases qc h with⟨I,h⟩|⟨I,h⟩
  .obtain⟨e1,k1,h⟩:=qb h;rcases qc h with⟨h3,h⟩|⟨h3,h⟩
   .obtain⟨x,k2,h⟩:=qb h;obtain⟨e2,k3,h⟩:=qb h;obtain⟨e3,k4,h⟩:=qb h;rcases qc h with⟨h4,h⟩|⟨h4,h⟩
    .rcases qc h with⟨h5,h⟩|⟨_,h⟩
     .obtain⟨ev,eO,h⟩:=qb h;cases h;exact⟨fun _=>jcs eO,fun h=>absurd rfl h⟩
     .cases h
    .cases h;exact⟨fun h=>absurd h (of_decide_eq_false h4),fun _=>rfl⟩
   .obtain⟨e2,k3,h⟩:=qb h;obtain⟨e3,k4,h⟩:=qb h;rcases qc h with⟨h4,h⟩|⟨h4,h⟩
    .cases h
    .cases h;exact⟨fun h=>absurd h (of_decide_eq_false h4),fun _=>rfl⟩
  .obtain⟨r,k1,h⟩:=qb h;obtain⟨v,k2,h⟩:=qb h;rcases qc h with⟨h3,h⟩|⟨h3,h⟩
   .obtain⟨cs,hcs,h⟩:=qb h;obtain⟨ss,xd,h⟩:=qb h;obtain⟨ev,eO,h⟩:=qb h;cases h;exact⟨fun _=>jcs eO,fun h=>absurd rfl h⟩
   .cases h;exact⟨fun h=>absurd h (of_decide_eq_false h3),fun _=>rfl⟩
 .cases h;exact⟨fun h=>absurd (show(11:Int)=0 from h) (by decide),fun _=>rfl⟩
theorem jq1 {e:aC}{q}(h:Cc e=En q):(q.1=0->ga q.2=[e])/\(q.1≠0->ga q.2=[]):=by
 unfold Cc at h;rcases qc h with⟨Y,h⟩|⟨Y,h⟩
 .rcases qc h with⟨I,h⟩|⟨I,h⟩
  .obtain⟨e1,k1,h⟩:=qb h;obtain⟨e2,k3,h⟩:=qb h;obtain⟨e3,k4,h⟩:=qb h;rcases qc h with⟨h4,h⟩|⟨h4,h⟩
   .cases h
   .cases h;exact⟨fun h=>absurd h (of_decide_eq_false h4),fun _=>rfl⟩
  .obtain⟨v,k2,h⟩:=qb h;rcases qc h with⟨h3,h⟩|⟨h3,h⟩
   .cases h;exact⟨fun _=>rfl,fun h=>absurd rfl h⟩
   .cases h;exact⟨fun h=>absurd h (of_decide_eq_false h3),fun _=>rfl⟩
 .cases h;exact⟨fun h=>absurd (show(11:Int)=0 from h) (by decide),fun _=>rfl⟩
theorem q22 {o:Option HV}{e:aC}{q}(h:sA o e=En q):(q.1=0->ga q.2=ga o++[e])/\(q.1≠0->ga q.2=ga o):=by
 cases o with
 |none=>exact jq1 h
 |some s=>
  obtain⟨x,M,h⟩:=qb h;cases h;exact jsy M
end Go.Z
namespace Go.Z
open Go Go.Abs Go.W
def txt:List aj->aj
 | []=>[110,111,110,101]|x::l=>x++Lib.joinTail [32] l
theorem qrv:∀ {l:List aj},(∀s∈l,Nm s)->(Lib.joinTail [32] l).length<=l.length*25
 | [],_=>by simp[Lib.joinTail]
 |x::l,h=>by
  have Y:=(h x (Ii ..)).1;have I:=qrv fun w hw=>h w (If _ hw);rw[Ho];simp only[Ha,Gd,Js];omega
theorem jdf {m:List aj}{o:ak aj}(ho:o.getD []=m)(hl:m.length<=100000):∀(k i:Nat) (s:aj),i+k=m.length->s.length+(Lib.joinTail [32] (m.drop i)).length<=1000000000->bd (Aw o) (s,(i:Int))=En (s++Lib.joinTail [32] (m.drop i),(m.length:Int))
 |0,i,s,hi,h=>by
  obtain rfl:i=m.length:=by omega
  rw[List.drop_eq_nil_of_le (Nat.le_refl _)];refine ju ?_;unfold Aw;rw[ho,z4];simp[Lib.joinTail]
 |k+1,i,s,hi,h=>by
  have aW:i<m.length:=by omega
  have M:m[i]?=En m[i]:=List.getElem?_eq_getElem aW;rw[qR M,Ho]at h ⊢;simp only[Ha,Hq]at h;rw[z9 (s':=(s++[32]++m[i],((i+1:Nat):Int)))]
  .rw[jdf ho hl k (i+1) _ (by omega) (by simp only[Ha,Hq];omega)];simp
  .unfold Aw;dsimp only;rw[ho,yn aW,cond_true,oo (by simp only[Hq];omega),qe,ja M,qe,oo (by simp only[Ha,Hq];omega),qe,za (by omega)]
theorem L6 {m:List aj}(hl:m.length<=100000)(hm:∀s∈m,Nm s):f76 (jd m)=En (txt m):=by
 cases m with
 |nil=>rfl
 |cons x l=>
  unfold f76;rw[show jd (x::l)=En (x::l)from rfl,decide_eq_false (by simp only[I7,Gd];omega),cond_false];have Y:=(hm x (Ii ..)).1;have I:=qrv fun w hw=>hm w (If x hw);have FR:l.length+1<=100000:=hl;have:=jdf (o:=En (x::l)) rfl hl l.length 1 x (by simp;omega) (by show x.length+(Lib.joinTail [32] l).length<=_;omega);rw[show ql ((En (x::l)).getD []) 0=En x from rfl,qe,show bd (Aw (En (x::l))) (x,1)=_ from this,qe];rfl
theorem js9 {m:List aj}(hl:m.length<=100000)(hm:∀s∈m,Nm s):qa (f47 (jd m) [32]) (fun s=>En (cond (decide (s=[])) ([110,111,110,101]:aj) s,(0:Int)))=En (txt m,0):=by
 cases m with
 |nil=>rfl
 |cons x l=>
  have Y:=hm x (Ii ..);have I:=qrv fun w hw=>hm w (If x hw);have FR:l.length+1<=100000:=hl;have hj:Lib.join (x::l) [32]=x++Lib.joinTail [32] l:=Lib.join_cons x l [32];have h3:=Y.1;rw[show jd (x::l)=En (x::l)from rfl,jaa hl (by rw[hj,Ha];omega),qe,hj,decide_eq_false (by simp[Y.2]),cond_false];rfl
def y5:aj:=[115,104,105,112,112,101,100]
def ph:aj:=[104,101,108,100]
def HS:aj:=[108,111,116,115]
def HT:aj:=[117,110,105,116,115]
def HU:aj:=[109,105,115,115,105,110,103]
def HW:aj:=[115,116,111,99,107]
def qr1:aj:=[118,101,114,115,105,111,110]
def pi (S:z8):List aj:=(S.units.filter (·.ax)).map (·.name)
def wK (S:z8):List aj:=(S.ay.filter (·.held)).map (·.name)
def ot (S:z8)(w n:aj):aj×Int:=
 if w=HS then(match zk S n with
  |none=>([],10)
  |some k=>match S.units[k]? with
   |none=>([],10)
   |some u=>(txt (u.uses.map (·.k)),0))
 else if w=HT then(match zx S n with
  |none=>([],10)
  |some _=>(txt (wc S n),0))
 else if w=HU then(match zk S n with
  |none=>([],10)
  |some k=>match S.units[k]? with
   |none=>([],10)
   |some u=>match gV S u with
    |none=>([],10)
    |some d=>(txt (sk d u),0))
 else if w=HW then(if Go.W.cu n then(Lib.decDigits (Cj S n).toNat,0)else([],8))
 else(match zo S n with
  |none=>([],10)
  |some k=>match S.ah[k]? with
   |none=>([],10)
   |some p=>(Lib.decDigits p.bm.length,0))
def AG (S:z8)(w:aj)(t:List aj):aj×Int:=
 if w=y5\/w=ph then(match t with
  | []=>(txt (if w=y5 then pi S else wK S),0)
  |_=>([],26))
 else match t with
  | [n]=>if n=[]then([],26)else ot S w n
  |_=>([],26)
end Go.Z
namespace Go.Z
open Go Go.Abs Go.W
theorem q0t {k:aj}:∀ {l:List jk} {n:Int},(∀x∈l,0<=x.left/\x.left<=10000)->0<=n->n+10000*(l.length:Int)<=1000000000 ->
  0<=l.foldl (fun n x=>if decide (x.kind=k)&&!x.held then qd .i64 (n+x.left)else n) n/\l.foldl (fun n x=>if decide (x.kind=k)&&!x.held then qd .i64 (n+x.left)else n) n<=n+10000*(l.length:Int)
 | [],n,_,h0,Y=>by simp;omega
 |x::l,n,h,h0,Y=>by
  have M:=h x (Ii ..)
  have qY:n+10000*((l.length:Int)+1)<=1000000000:=by simpa using Y
  rw[List.foldl_cons];have hw:qd .i64 (n+x.left)=n+x.left:=zy (by omega) (by omega)
  have step:∀n',0<=n'->n'<=n+10000->0<=l.foldl (fun n x=>if decide (x.kind=k)&&!x.held then qd .i64 (n+x.left)else n) n'/\l.foldl (fun n x=>if decide (x.kind=k)&&!x.held then qd .i64 (n+x.left)else n) n'<=n+10000*(((x::l).length:Nat):Int):=fun n' a b=>by
   have:=q0t (k:=k) (l:=l) (n:=n') (fun y hy=>h y (If _ hy)) a (by omega);simp only[Gd];omega
  by_cases hc:(decide (x.kind=k)&&!x.held)=Ij
  .rw[if_pos hc,hw];exact step _ (by omega) (by omega)
  .rw[if_neg hc];exact step _ (by omega) (by omega)
structure RG (r:av):Prop where
 b:GB r
 w:WF r.er
 nb:NB r.er
 sb:SB 1000 r.er
theorem jdb {r:av}(R:RG r){k}:0<=Cj r.er k/\Cj r.er k<100000000:=by
 have hl:=R.sb.L;have:=q0t (k:=k) (l:=r.er.ay) (n:=0) (fun x M=>(R.nb.L x M).2) (by omega) (by omega);unfold Cj;omega
section
variable {r:av}(R:RG r)
include R
theorem jap {n}:(wc r.er n).length<=100000/\∀s∈wc r.er n,Nm s:=by
 unfold wc;refine⟨?_,fun s G=>?_⟩
 .rw[Gb];exact Iu (Hb _ _) (by have:=R.sb.U;omega)
 .obtain⟨u,hu,rfl⟩:=Ik.1 G;exact(R.nb.U u ((Iy.1 hu).1)).1
theorem jc3:(pi r.er).length<=100000/\∀s∈pi r.er,Nm s:=by
 unfold pi;refine⟨?_,fun s G=>?_⟩
 .rw[Gb];exact Iu (Hb _ _) (by have:=R.sb.U;omega)
 .obtain⟨u,hu,rfl⟩:=Ik.1 G;exact(R.nb.U u ((Iy.1 hu).1)).1
theorem jdi:(wK r.er).length<=100000/\∀s∈wK r.er,Nm s:=by
 unfold wK;refine⟨?_,fun s G=>?_⟩
 .rw[Gb];exact Iu (Hb _ _) (by have:=R.sb.L;omega)
 .obtain⟨u,hu,rfl⟩:=Ik.1 G;exact(R.nb.L u ((Iy.1 hu).1)).1
theorem jdt {u}(hu:u∈r.er.units):(u.uses.map (·.k)).length<=100000/\∀s∈u.uses.map (·.k),Nm s:=by
 refine⟨?_,fun s G=>?_⟩
 .rw[Gb];have:=(R.sb.N u hu).1;omega
 .obtain⟨x,M,rfl⟩:=Ik.1 G;exact(R.nb.U u hu).2 x M
theorem q48 {u d}(hd:gV r.er u=En d):(sk d u).length<=100000/\∀s∈sk d u,Nm s:=by
 unfold gV at hd;obtain⟨p,hp,hd⟩:=Ja.1 hd;unfold ky at hp;obtain⟨k,_,hp⟩:=Ja.1 hp;have hpm:=Ga hp
 have hdm:d∈p.bm:=by
  unfold BO at hd;split at hd
  .exact Ga hd
  .cases hd
 unfold sk;refine⟨?_,fun s G=>?_⟩
 .rw[Gb];exact Iu (Hb _ _) (by have:=((R.sb.D p hpm).2.2.2 d hdm).2;omega)
 .obtain⟨x,M,rfl⟩:=Ik.1 G;exact(R.nb.P p hpm).2 d hdm x ((Iy.1 M).1)
theorem jpe:∃ w,f77 r y5=En (jd (pi r.er),w):=by
 have Y:bd (wC r y5) (none,0,Hc)=En (jd (((r.units.getD []).filter fun u=>u.ax).map fun u=>u.name),fE (((r.units.getD []).filter fun u=>u.ax).map fun u=>u.name),((r.units.getD []).length:Int)):=
  BR (l:=r.units.getD []) (p:=fun u=>u.ax) (g:=fun u=>u.name) (f:=wC r y5) (jg R.b.U) (fun o w=>by unfold wC;dsimp only;rw[z4];rfl) (fun i x o w M=>by
   have hi:=(H2.1 M).1;have hu:=R.b.U;unfold wC;dsimp only
   rw[yn hi,cond_true,show decide (y5=([115,104,105,112,112,101,100]:aj))=Ij from rfl,cond_true,ja M,qe,za (by unfold BB at hu;omega)])
 have he:((r.units.getD []).filter fun u=>u.ax).map (fun u=>u.name)=pi r.er:=by
  unfold pi;rw[vN,Ju,I9];rfl
 rw[he]at Y;unfold f77;rw[Y,qe];refine⟨fE (pi r.er),?_⟩
 rw[ju (d:=(jd (pi r.er),fE (pi r.er),0)) (by
  unfold x9;dsimp only
  cases decide ((0:Int)<((r.ay.getD []).length:Int))<;>rfl)]
 rfl
theorem jph:∃ w,f77 r ph=En (jd (wK r.er),w):=by
 have Y:bd (x9 r ph) (none,0,Hc)=En (jd (((r.ay.getD []).filter fun u=>u.held).map fun u=>u.name),fE (((r.ay.getD []).filter fun u=>u.held).map fun u=>u.name),((r.ay.getD []).length:Int)):=
  BR (l:=r.ay.getD []) (p:=fun u=>u.held) (g:=fun u=>u.name) (f:=x9 r ph) (jg R.b.L) (fun o w=>by unfold x9;dsimp only;rw[z4];rfl) (fun i x o w M=>by
   have hi:=(H2.1 M).1;have hu:=R.b.L;unfold x9;dsimp only
   rw[yn hi,cond_true,show decide (ph=([104,101,108,100]:aj))=Ij from rfl,cond_true,ja M,qe,za (by unfold BB at hu;omega)])
 unfold f77
 rw[ju (f:=wC r ph) (d:=(none,Hc,0)) (by
  unfold wC;dsimp only
  cases decide ((0:Int)<((r.units.getD []).length:Int))<;>rfl),qe]
 dsimp only;rw[Y,qe];exact⟨_,rfl⟩
end
end Go.Z
namespace Go.Z
open Go Go.Abs Go.W
theorem rI {w:aj}{t:List aj}:ql ((En (w::t)).getD []) 0=En w:=rfl
section
variable {r:av}(R:RG r)
include R
def L7 (r:av)(w n:aj):Option (aj×Int):=
 if w=HS then qa (f83 r n) fun v=>cond (decide (v<0)) (En ([],10)) (qa (ql (r.units.getD []) v) fun u=>qa (f84 u) fun q=>qa (f76 q.1) fun t=>En (t,0))
 else if w=HT then qa (f80 r n) fun v=>cond (decide (v<0)) (En ([],10)) (qa (f81 r n) fun q=>qa (f76 q.1) fun t=>En (t,0))
 else if w=HU then qa (f83 r n) fun v=>cond (decide (v<0)) (En ([],10)) (qa (ql (r.units.getD []) v) fun u=>qa (f85 r u) fun q=>qa (f76 q.1) fun t=>En (t,0))
 else if w=HW then qa (f78 n) fun b=>cond b (qa (f79 r n) fun k=>qa (f34 k) fun t=>En (t,0)) (En ([],8))
 else qa (f82 r n) fun v=>cond (decide (v<0)) (En ([],10)) (qa (ql (r.ah.getD []) v) fun p=>qa (f34 ((p.bm.getD []).length:Int)) fun t=>En (t,0))
theorem jvj {w n}:L7 r w n=En (ot r.er w n):=by
 unfold L7 ot;by_cases Y:w=HS
 .rw[if_pos Y,if_pos Y,Gq (jg R.b.U),qe,Pz]
  cases hk:zk r.er n with
  |none=>rfl
  |some k=>
   obtain⟨u,g1,g2,g3⟩:=oU hk;have hm:=Ga g3;obtain⟨q1,q2⟩:=jdt R hm;have hN:=R.b.N u (Ga g1);obtain⟨w',f84⟩:=j1z (u:=u) (jg hN.1);simp only[Ir,I5,cond_false,ea,g3];rw[ja g1,qe,f84,qe,L6 q1 q2,qe]
 rw[if_neg Y,if_neg Y];by_cases I:w=HT
 .rw[if_pos I,if_pos I,Gn (jg R.b.L),qe,Pz]
  cases hk:zx r.er n with
  |none=>rfl
  |some k=>
   obtain⟨w',g⟩:=j2u (n:=n) R.b;obtain⟨q1,q2⟩:=jap R (n:=n);simp only[Ir,I5,cond_false];rw[g,qe,L6 q1 q2,qe]
 rw[if_neg I,if_neg I];by_cases h3:w=HU
 .rw[if_pos h3,if_pos h3,Gq (jg R.b.U),qe,Pz]
  cases hk:zk r.er n with
  |none=>rfl
  |some k=>
   obtain⟨u,g1,g2,g3⟩:=oU hk;obtain⟨D,v,o⟩:=zY R.b R.w g1;obtain⟨w2,m2⟩:=ji1 o.xC (jg o.results) (jg o.aS);obtain⟨q1,q2⟩:=q48 R o.vS;simp only[Ir,I5,cond_false,ea,g3,o.vS];rw[ja g1,qe,m2,qe,L6 q1 q2,qe]
 rw[if_neg h3,if_neg h3];by_cases h4:w=HW
 .rw[if_pos h4,if_pos h4,jc8,qe]
  cases hn:Go.W.cu n with
  |false=>rfl
  |true=>
   obtain⟨s1,s2⟩:=jdb R (k:=n);obtain⟨m,hm⟩:=Int.eq_ofNat_of_zero_le s1;rw[cond_true,if_pos rfl,jxr R.b,qe,hm,Ln (by omega),qe];rfl
 rw[if_neg h4,if_neg h4,BN (jg R.b.P),qe,Pz]
 cases hk:zo r.er n with
 |none=>rfl
 |some k=>
  obtain⟨p,g1,g2,g3⟩:=zW hk;have hD:=(R.sb.D p.er (Ga g3)).1;have hd:p.er.bm.length=(p.bm.getD []).length:=Gb ..;simp only[Ir,I5,cond_false,ea,g3];rw[ja g1,qe,Ln (by omega),qe,hd]
theorem jj6 {line w t}(hl:line.length<=90000)(G:ej 32 line=w::t):f31 r line=En (if(jS w).isSome then AG r.er w t else([],13)):=by
 have pj:f30 line 32=En (En (w::t)):=by rw[<-G];exact QJ (c:=32) (by omega)
 have len:∀k:Nat,decide (((((En (w::t)).getD []).length:Nat):Int)=((k+1:Nat):Int))=decide (t.length=k):=fun k=>decide_eq_decide.2 (by simp only[I7,Gd];omega);have gy:decide (((((En (w::t)).getD []).length:Nat):Int)=1)=decide (t.length=0):=len 0;have fM:decide (((((En (w::t)).getD []).length:Nat):Int)=2)=decide (t.length=1):=len 1
 have two:∀ {k:aj} (hk:(jS k).isSome=Ij) (Q:¬(k=y5\/k=ph)),w=k->(∀n,t=[n]->f31 r line=cond (decide (n=[])) (En ([],26)) (L7 r k n))->(t.length≠1->f31 r line=En ([],26))->f31 r line=En (if(jS w).isSome then AG r.er w t else([],13)):=by
  intro k hk Q hw Y I;subst hw;rw[if_pos hk];unfold AG;rw[if_neg Q];rcases t with _|⟨n,_|⟨n2,t⟩⟩
  .exact I (by simp)
  .rw[Y n rfl];show _=En (if n=[]then([],26)else ot r.er w n);by_cases hn:n=[]
   .rw[decide_eq_true hn,cond_true,if_pos hn]
   .rw[decide_eq_false hn,cond_false,if_neg hn,jvj R]
  .exact I (by simp)
 by_cases k1:w=y5
 .subst k1
  have e:f31 r line=cond (decide (t.length=0)) (qa (f77 r y5) fun q=>qa (f76 q.1) fun t=>En (t,0)) (En ([],26)):=by
   unfold f31;rw[pj,qe,rI,qe,gy];rfl
  rw[e,if_pos (show(jS y5).isSome=Ij from rfl)];unfold AG;rw[if_pos (.inl rfl)];obtain⟨w',g⟩:=jpe R;obtain⟨q1,q2⟩:=jc3 R
  cases t with
  |nil=>
   show qa (f77 r y5) (fun q=>qa (f76 q.1) fun t=>En (t,(0:Int)))=En (txt (pi r.er),0);rw[g,qe,L6 q1 q2,qe]
  |cons n t=>rfl
 by_cases k2:w=ph
 .subst k2
  have e:f31 r line=cond (decide (t.length=0)) (qa (f77 r ph) fun q=>qa (f76 q.1) fun t=>En (t,0)) (En ([],26)):=by
   unfold f31;rw[pj,qe,rI,qe,gy];rfl
  rw[e,if_pos (show(jS ph).isSome=Ij from rfl)];unfold AG;rw[if_pos (.inr rfl)];obtain⟨w',g⟩:=jph R;obtain⟨q1,q2⟩:=jdi R
  cases t with
  |nil=>
   show qa (f77 r ph) (fun q=>qa (f76 q.1) fun t=>En (t,(0:Int)))=En (txt (wK r.er),0);rw[g,qe,L6 q1 q2,qe]
  |cons n t=>rfl
 have one:∀ {k:aj},w=k->(∀n,cond (decide (n=([]:aj))) (En (([]:aj),(26:Int))) (L7 r k n)=cond (decide (n=[])) (En ([],26)) (L7 r k n)):=fun _ _=>rfl;by_cases k3:w=HS
 .refine two (k:=HS) rfl (by decide) k3 (fun n hn=>?_) fun hn=>?_
  .subst k3;subst hn;unfold f31;rw[pj,qe,rI,qe];rfl
  .subst k3;unfold f31;rw[pj,qe,rI,qe,gy,fM,decide_eq_false hn];rfl
 by_cases k4:w=HT
 .refine two (k:=HT) rfl (by decide) k4 (fun n hn=>?_) fun hn=>?_
  .subst k4;subst hn;unfold f31;rw[pj,qe,rI,qe];rfl
  .subst k4;unfold f31;rw[pj,qe,rI,qe,gy,fM,decide_eq_false hn];rfl
 by_cases k5:w=HU
 .refine two (k:=HU) rfl (by decide) k5 (fun n hn=>?_) fun hn=>?_
  .subst k5;subst hn;unfold f31;rw[pj,qe,rI,qe];rfl
  .subst k5;unfold f31;rw[pj,qe,rI,qe,gy,fM,decide_eq_false hn];rfl
 by_cases k6:w=HW
 .refine two (k:=HW) rfl (by decide) k6 (fun n hn=>?_) fun hn=>?_
  .subst k6;subst hn;unfold f31;rw[pj,qe,rI,qe];rfl
  .subst k6;unfold f31;rw[pj,qe,rI,qe,gy,fM,decide_eq_false hn];rfl
 by_cases k7:w=qr1
 .refine two (k:=qr1) rfl (by decide) k7 (fun n hn=>?_) fun hn=>?_
  .subst k7;subst hn;unfold f31;rw[pj,qe,rI,qe];rfl
  .subst k7;unfold f31;rw[pj,qe,rI,qe,gy,fM,decide_eq_false hn];rfl
 have hq:jS w=none:=by
  unfold jS eW;rw[List.find?_eq_none];intro x M;simp only[I6,Ix,or_false]at M;rcases M with rfl|rfl|rfl|rfl|rfl|rfl|rfl<;>simp only[decide_eq_true_eq]<;>assumption
 rw[hq];unfold f31;rw[pj,qe,rI,qe];simp only[show decide (w=([115,104,105,112,112,101,100]:aj))=Hc from decide_eq_false k1,show decide (w=([104,101,108,100]:aj))=Hc from decide_eq_false k2,show decide (w=([108,111,116,115]:aj))=Hc from decide_eq_false k3,show decide (w=([117,110,105,116,115]:aj))=Hc from decide_eq_false k4,show decide (w=([109,105,115,115,105,110,103]:aj))=Hc from decide_eq_false k5,show decide (w=([115,116,111,99,107]:aj))=Hc from decide_eq_false k6,show decide (w=([118,101,114,115,105,111,110]:aj))=Hc from decide_eq_false k7,cond_false,Option.isSome_none];rfl
end
end Go.Z
namespace Go.Z
open Go Go.Abs Go.W
def qE (r:av)(role:Int)(k:Nat)(n:aj):Option (aj×Int):=
 qa (f104 r role n) fun kn=>
 qa (f36 (!kn) 10) fun e1=>
 qa (cond (decide (role=107)) (qa (f105 n) fun i=>En (!i)) (En Hc)) fun b2=>
 qa (f36 b2 8) fun e2=>
 qa (f35 (En [e1,e2])) fun e3=>
 cond (decide (e3=0))
  (qa (AB k r n) fun q=>
  qa (f47 q.1 [32]) fun s=>
  En (cond (decide (s=[])) [110,111,110,101] s,0))
  (En ([],e3))
theorem jia (m:Nat):Lib.decDigits m≠[]:=by
 unfold Lib.decDigits;split<;>simp
theorem jgp {m:Nat}(h:m<1000000000):(Lib.decDigits m).length<=1000:=by
 have:=Hn 8 m (by omega);omega
theorem jjv {l:List bz}(hl:l.length<=SM):∃w,f65 (jd l)=En (jd (l.map (·.name)),w):=by
 unfold f65;have:=BS (f:=GN (jd l)) (l:=(jd l).getD []) (g:=fun u:bz=>u.name) (q:=f67) (by rw[zb];exact hl) (fun x M=>rfl) (fun s=>rfl);rw[zb]at this;rw[this];exact⟨_,rfl⟩
theorem jf3 {l:List jk}(hl:l.length<=SM):∃w,f167 (jd l)=En (jd (l.map (·.name)),w):=by
 unfold f167;have:=BS (f:=LL (jd l)) (l:=(jd l).getD []) (g:=fun u:jk=>u.name) (q:=f168) (by rw[zb];exact hl) (fun x M=>rfl) (fun s=>rfl);rw[zb]at this;rw[this];exact⟨_,rfl⟩
theorem jj3 {r:av}{w t role k}(ht:t.length<=100000):Dn r role k (En (w::t))=cond (decide (((t.length+1:Nat):Int)=(if role=0 then 1 else 2))) (cond ((w::t).any fun x=>decide (([]:aj)=x)) (En ([],26)) (qa (ql (w::t) (qd .i64 (if role=0 then 0 else 1))) fun n=>qE r role k n)) (En ([],26)):=by
 unfold Dn;rw[XG (a:=En (w::t)) (n:=[]) (by unfold SM;simp;omega),qe];rfl
section
variable {r:av}(R:RG r)
include R
theorem L8 {role k n m w'}(Y:oV r.er role n=Ij)(I:role≠107)(h3:AB k r n=En (jd m,w'))(hl:m.length<=100000)(hm:∀s∈m,Nm s):qE r role k n=En (txt m,0):=by
 unfold qE;rw[B4 R.b,qe,Y,ym,qe,decide_eq_false I,cond_false,qe,ym,qe,vY,qe];show cond (decide ((0:Int)=0)) _ _=_;rw[decide_eq_true rfl,cond_true,h3,qe];exact js9 hl hm
theorem Rm {role k n}(Y:oV r.er role n=Hc)(I:role≠107):qE r role k n=En ([],10):=by
 unfold qE;rw[B4 R.b,qe,Y,ym,qe,decide_eq_false I,cond_false,qe,ym,qe,vY,qe];rfl
theorem jaq {role k n s w'}(Y:oV r.er role n=Ij)(I:role≠107\/Go.W.cu n=Ij)(h3:AB k r n=En (En [s],w'))(G:s≠[])(hl:s.length<=1000):qE r role k n=En (s,0):=by
 have hb:(cond (decide (role=107)) (qa (f105 n) fun i=>En (!i)) (En Hc):Option Bool)=En Hc:=by
  by_cases h:role=107
  .rw[decide_eq_true h,cond_true,Xr,Ps,qe];rcases I with I|I
   .exact absurd h I
   .rw[I];rfl
  .rw[decide_eq_false h];rfl
 unfold qE;rw[B4 R.b,qe,Y,ym,qe,hb,qe,ym,qe,vY,qe];show cond (decide ((0:Int)=0)) _ _=_
 have hj:Lib.join [s] [32]=s:=by rw[Lib.join_cons];simp[Lib.joinTail]
 rw[decide_eq_true rfl,cond_true,h3,qe,jaa (by simp) (by rw[hj];omega),qe,hj,decide_eq_false G];rfl
theorem jl4 {w n q}(hq:jS w=En q)(h0:q.2.1≠0):qE r q.2.1 q.2.2 n=En (ot r.er w n):=by
 have hw:w=q.1:=by
  have:=Jb hq;simpa using this
 have hm:q∈eW:=Ip hq;clear hq;subst hw;simp only[eW,I6,Ix,or_false]at hm;rcases hm with rfl|rfl|rfl|rfl|rfl|rfl|rfl
 .show qE r 117 87 n=En (ot r.er HS n);have hk:oV r.er 117 n=(zk r.er n).isSome:=rfl;unfold ot;rw[if_pos rfl]
  cases hu:zk r.er n with
  |none=>rw[hu]at hk;exact Rm R hk (by decide)
  |some k=>
   rw[hu]at hk;obtain⟨u,g1,g2,g3⟩:=oU hu;obtain⟨q1,q2⟩:=jdt R (Ga g3);obtain⟨w',g⟩:=ji8 (u:=u) (jg (R.b.N u (Ga g1)).1);simp only[g3];refine L8 R hk (by decide) (w':=w') ?_ q1 q2;show f87 r n=_;unfold f87;rw[vO (jg R.b.U),qe,hu,show ea (En k)=(k:Int)from rfl,ja g1,qe,g]
 .show qE r 108 88 n=En (ot r.er HT n);have hk:oV r.er 108 n=(zx r.er n).isSome:=rfl;unfold ot;rw[if_neg (by decide),if_pos rfl]
  cases hu:zx r.er n with
  |none=>rw[hu]at hk;exact Rm R hk (by decide)
  |some k=>
   rw[hu]at hk;obtain⟨q1,q2⟩:=jap R (n:=n);obtain⟨w',g⟩:=jyd (n:=n) R.b;exact L8 R hk (by decide) (w':=w') g q1 q2
 .show qE r 117 90 n=En (ot r.er HU n);have hk:oV r.er 117 n=(zk r.er n).isSome:=rfl;unfold ot;rw[if_neg (by decide),if_neg (by decide),if_pos rfl]
  cases hu:zk r.er n with
  |none=>rw[hu]at hk;exact Rm R hk (by decide)
  |some k=>
   rw[hu]at hk;obtain⟨u,g1,g2,g3⟩:=oU hu;obtain⟨D,v,o⟩:=zY R.b R.w g1;obtain⟨w1,m1⟩:=jj1 o.doc (jg o.results) (jg o.aS) o.bS;obtain⟨q1,q2⟩:=q48 R o.vS;simp only[g3,o.vS];refine L8 R hk (by decide) (w':=w1) ?_ q1 q2;show f90 r n=_;unfold f90;rw[vO (jg R.b.U),qe,hu,show ea (En k)=(k:Int)from rfl,ja g1,qe,m1]
 .show qE r 107 92 n=En (ot r.er HW n);have hk:oV r.er 107 n=Ij:=rfl;unfold ot;rw[if_neg (by decide),if_neg (by decide),if_neg (by decide),if_pos rfl]
  cases hn:Go.W.cu n with
  |false=>
   unfold qE;rw[B4 R.b,qe,hk,ym,qe,decide_eq_true rfl,cond_true,Xr,Ps,hn,qe,qe,ym,qe,vY,qe];rfl
  |true=>
   obtain⟨s1,s2⟩:=jdb R (k:=n);obtain⟨m,hm⟩:=Int.eq_ofNat_of_zero_le s1;rw[if_pos rfl];refine jaq R hk (.inr hn) (w':=true) ?_ (jia _) (jgp (by omega));show f92 r n=_;unfold f92;rw[jks R.b,qe,hm,Lp (by omega),qe];rfl
 .show qE r 112 94 n=En (ot r.er qr1 n);have hk:oV r.er 112 n=(zo r.er n).isSome:=rfl;unfold ot;rw[if_neg (by decide),if_neg (by decide),if_neg (by decide),if_neg (by decide)]
  cases hu:zo r.er n with
  |none=>rw[hu]at hk;exact Rm R hk (by decide)
  |some k=>
   rw[hu]at hk;obtain⟨p,g1,g2,g3⟩:=zW hu;have hD:=(R.sb.D p.er (Ga g3)).1;have hd:p.er.bm.length=(p.bm.getD []).length:=Gb ..;simp only[g3];refine jaq R hk (.inl (by decide)) (w':=true) ?_ (jia _) (jgp (by omega));show f94 r n=_;unfold f94 f96;rw[tM (jg R.b.P),qe,hu,show ea (En k)=(k:Int)from rfl,ja g1,qe,qe,Lp (by omega),qe,hd]
 .exact absurd rfl h0
 .exact absurd rfl h0
theorem jtt:∃ w,LJ r.units=En (jd ((r.units.getD []).filter fun u=>u.ax),w):=by
 unfold LJ;rw[Gs (f:=LI r.units) (l:=r.units.getD []) (p:=fun u=>u.ax) (q:=f98) (jg R.b.U) (fun x M=>rfl) (fun s=>rfl)];exact⟨_,rfl⟩
theorem jin:∃ w,f101 r.ay=En (jd ((r.ay.getD []).filter fun u=>u.held),w):=by
 unfold f101;rw[Gs (f:=Gw r.ay) (l:=r.ay.getD []) (p:=fun u=>u.held) (q:=f102) (jg R.b.L) (fun x M=>rfl) (fun s=>rfl)];exact⟨_,rfl⟩
theorem ziq {n}:∃w,AB 97 r n=En (jd (pi r.er),w):=by
 obtain⟨w1,g1⟩:=jtt R;have hl:((r.units.getD []).filter fun u=>u.ax).length<=SM:=Iu (Hb _ _) (jg R.b.U);obtain⟨w2,g2⟩:=jjv hl;refine⟨w2,?_⟩;show f97 r n=_;unfold f97 pi;rw[g1,qe,g2,vN,Ju,I9];rfl
theorem zhh {n}:∃w,AB 99 r n=En (jd (wK r.er),w):=by
 obtain⟨w1,g1⟩:=jin R;have hl:((r.ay.getD []).filter fun u=>u.held).length<=SM:=Iu (Hb _ _) (jg R.b.L);obtain⟨w2,g2⟩:=jf3 hl;refine⟨w2,?_⟩;show f99 r n=_;unfold f99 wK;rw[g1,qe,g2];rfl
theorem jui {w t q}(hw:w≠[])(ht:t.length<=100000)(hq:jS w=En q):Dn r q.2.1 q.2.2 (En (w::t))=En (AG r.er w t):=by
 have hwq:w=q.1:=by
  have:=Jb hq;simpa using this
 have hm:q∈eW:=Ip hq;have FP:decide (([]:aj)=w)=Hc:=decide_eq_false fun h=>hw h.symm;rw[jj3 ht];by_cases h0:q.2.1=0
 .rw[if_pos h0,if_pos h0]
  have G:w=y5\/w=ph:=by
   simp only[eW,I6,Ix,or_false]at hm;rcases hm with rfl|rfl|rfl|rfl|rfl|rfl|rfl
   .exact absurd h0 (by decide)
   .exact absurd h0 (by decide)
   .exact absurd h0 (by decide)
   .exact absurd h0 (by decide)
   .exact absurd h0 (by decide)
   .exact .inl hwq
   .exact .inr hwq
  unfold AG;rw[if_pos G]
  cases t with
  |cons n t=>
   rw[decide_eq_false (by simp only[Gd];omega)];rfl
  |nil=>
   rw[show decide ((((([]:List aj).length+1:Nat)):Int)=1)=Ij from rfl,cond_true,Jj,FP,Jx,Jw,cond_false,show ql [w] (qd .i64 0)=En w from rfl,qe]
   have hk:oV r.er q.2.1 w=Ij:=by rw[h0];rfl
   rcases G with G|G
   .have:q=(y5,0,97):=by
     rw[G]at hq;exact(En.inj hq).symm
    obtain⟨w',g⟩:=ziq R (n:=w);obtain⟨q1,q2⟩:=jc3 R;show _=En (txt (if w=y5 then pi r.er else wK r.er),0);rw[if_pos G];exact L8 R hk (by rw[h0];decide) (by rw[this];exact g) q1 q2
   .have:q=(ph,0,99):=by
     rw[G]at hq;exact(En.inj hq).symm
    obtain⟨w',g⟩:=zhh R (n:=w);obtain⟨q1,q2⟩:=jdi R;show _=En (txt (if w=y5 then pi r.er else wK r.er),0);rw[if_neg (by rw[G];decide)];exact L8 R hk (by rw[h0];decide) (by rw[this];exact g) q1 q2
 .rw[if_neg h0,if_neg h0]
  have G:¬(w=y5\/w=ph):=by
   rintro (G|G)
   .rw[G]at hq;exact h0 (by rw[<-En.inj (show En (y5,(0:Int),97)=En q from hq)])
   .rw[G]at hq;exact h0 (by rw[<-En.inj (show En (ph,(0:Int),99)=En q from hq)])
  unfold AG;rw[if_neg G];rcases t with _|⟨n,_|⟨n2,t⟩⟩
  .rfl
  .rw[show decide (((([n]:List aj).length+1:Nat):Int)=2)=Ij from rfl,cond_true,Jj,FP,Jj,Jx,Bool.false_or,Jw,show ql [w,n] (qd .i64 1)=En n from rfl,qe];show _=En (if n=[]then([],26)else ot r.er w n);by_cases hn:n=[]
   .rw[decide_eq_true hn.symm,cond_true,if_pos hn]
   .rw[decide_eq_false fun h=>hn h.symm,cond_false,if_neg hn,jl4 R hq h0]
  .rw[decide_eq_false (by simp only[Gd];omega)];rfl
end
end Go.Z
namespace Go.Z
open Go Go.Abs Go.W
structure aag (es:ak aC)(o:Option HV)(h:y6):Prop where
 run:run (qd .i64) ((es.getD []).map aC.er)=.ok h
 rel:sx (es.getD []).length h o
 ok:iW (qd .i64) h
 hb:HB h
 ev:(ga o).map aC.er=(es.getD []).map aC.er
 b1:∀e∈es.getD [],iX e
 b2:∀e∈ga o,iX e
section
variable {es:ak aC}{o:Option HV}{h:y6}(j:aag es o h)
include j
theorem aag.len:(es.getD []).length<=1000/\∀e∈es.getD [],jj e.er=0:=by
 obtain⟨Y,I⟩:=q3r j.run;rw[Gb]at Y;exact⟨Y,fun e he=>I _ (I0 he)⟩
theorem aag.Ds:(ga o).length=(es.getD []).length:=by
 have:=congrArg Jr j.ev;simpa using this
theorem aag.chk2:∀ e∈ga o,jj e.er=0:=fun e he=>by
 have:e.er∈(es.getD []).map aC.er:=by rw[<-j.ev];exact I0 he
 exact(q3r j.run).2 _ this
theorem aag.rg {r:av}(Q:r.er=now h):RG r:=by
 have G:h.1.length<=1000:=by
  have Y:=jkj j.run;have I:=j.len.1;rw[Gb]at Y;omega
 have Ce:SB h.1.length (now h):=j.hb _ _ j.ok.now;rw[<-Q]at Ce;refine⟨Ce.gb (by unfold BB;omega),by rw[Q];exact j.ok.tU,by rw[Q];exact(j2w j.run).now,Ce.mono G⟩
theorem aag.next {e E:aC}{c:Int}{s':Option HV}{h':y6}(he:iX e)(hE:iX E)(rJ:e.er=E.er)(hc:jj e.er=0)(hn:(es.getD []).length<1000)(G:sA o e=En (c,s'))(h0:c=0)(Q:sx ((es.getD []).length+1) h' s')
  (ha:Go.W.accept (qd .i64) h (((es.getD []).length:Int)+1) e.er=.ok h'):aag (En (es.getD []++[E])) s' h':=by
 have eO:ga s'=ga o++[e]:=(q22 G).1 h0;refine⟨?_,?_,j.ok.accept hc ha,j.hb.accept j.ok ha,?_,?_,?_⟩
 .show Go.W.run (qd .i64) ((es.getD []++[E]).map aC.er)=.ok h';rw[Iz];exact q7z j.run (by rw[Gb];exact hn) (by rw[<-rJ];exact hc) (by rw[Gb,<-rJ];exact ha)
 .show sx (es.getD []++[E]).length h' s';rw[Ha];exact Q
 .show(ga s').map aC.er=(es.getD []++[E]).map aC.er;rw[eO,Iz,Iz,j.ev,Io,Io,rJ]
  try rfl
 .intro x M;rcases Jc.1 (show x∈es.getD []++[E]from M)with M|M
  .exact j.b1 x M
  .rw[I1.1 M];exact hE
 .intro x M;rw[eO]at M;rcases Jc.1 M with M|M
  .exact j.b2 x M
  .rw[I1.1 M];exact he
theorem aag.same {e:aC}{c:Int}{s':Option HV}(G:sA o e=En (c,s'))(h0:c≠0)(Q:sx (es.getD []).length h s'):aag es s' h:=by
 have eO:ga s'=ga o:=(q22 G).2 h0;exact⟨j.run,Q,j.ok,j.hb,by rw[eO];exact j.ev,j.b1,by rw[eO];exact j.b2⟩
end
theorem j1l (w:aj):f29 w=En (lY w):=by
 unfold f29;rcases Xu w with⟨Y,I⟩|⟨a,b,Y,I⟩
 .rcases Pt w with⟨g1,g2⟩|⟨f,g1,g2,_⟩
  .rw[Y,qe];unfold lY;rw[g1];rfl
  .rw[I]at g2;cases g2
 .rcases Pt w with⟨g1,g2⟩|⟨f,g1,g2,_⟩
  .rw[I]at g2;cases g2
  .rw[Y,qe];unfold lY;rw[g1];rfl
theorem jj4 {w q}(hq:jS w=En q):lY w=Hc:=by
 have hw:w=q.1:=by
  have:=Jb hq;simpa using this
 have hm:q∈eW:=Ip hq;subst hw;simp only[eW,I6,Ix,or_false]at hm;rcases hm with rfl|rfl|rfl|rfl|rfl|rfl|rfl<;>decide
def jkh (es:ak aC)(o:Option HV)(h:y6)(line:aj):Prop:=
 ∃e new want c q,f9 es line=En (e,new,want,c)/\HM o line=En (want,c,q)/\((new=Ij/\(es.getD []).length<1000/\∃h',aag (En (es.getD []++[e])) q h')\/(new=Hc/\aag es q h))
theorem jvr {es o h}(j:aag es o h){line:aj}(hl:line.length<=4097):jkh es o h line:=by
 unfold jkh f9 HM;rw[ym,qe,ym,qe,vY,qe];by_cases hA:4096<(line.length:Int)
 .rw[decide_eq_true hA,cond_true];exact⟨_,_,_,_,_,rfl,rfl,.inr ⟨rfl,j⟩⟩
 rw[decide_eq_false hA,cond_false];by_cases hB:line=[]
 .rw[decide_eq_true hB,cond_true];exact⟨_,_,_,_,_,rfl,rfl,.inr ⟨rfl,j⟩⟩
 rw[decide_eq_false hB,cond_false];obtain⟨r1,g1,g2⟩:=Py j.b1;rw[j.run]at g2;have ij:r1.1.er=now h:=congrArg Prod.fst g2;have R1:=j.rg ij;rw[g1,qe];have pj:f30 line 32=En (En (ej 32 line)):=QJ (c:=32) (by omega);rw[pj,qe,show f19 line [32]=En (En (ej 32 line))from jh5 (by omega)];rw[show decide (iV [if Hc=Ij then(27:Int)else 0,if Hc=Ij then 26 else 0]=0)=Ij from rfl,cond_true,qe];have hsl:=XS 32 line
 cases G:ej 32 line with
 |nil=>exact absurd G (Ag 32 line)
 |cons w t=>
 rw[G,Gd]at hsl;rw[show ql ((En (w::t)).getD []) 0=En w from rfl,qe,qe,j1l,qe]
 cases hq:jS w with
 |some q=>
  rw[jj4 hq,cond_false];obtain⟨r2,k1,k2⟩:=jsp j.rel j.ok j.len.1;have R2:=j.rg k2
  have hw:w≠[]:=by
   intro hw;rw[hw]at hq;cases hq
  simp only[];rw[k1,qe,jj6 R1 (by omega) G,hq,jui R2 hw (by omega) hq,qe,qe];rw[show r2.er=r1.1.er by rw[k2,ij]];exact⟨_,_,_,_,_,rfl,rfl,.inr ⟨rfl,j⟩⟩
 |none=>
 cases hf:lY w with
 |false=>
  rw[cond_false,jj6 R1 (by omega) G,hq,qe];exact⟨_,_,_,_,_,rfl,rfl,.inr ⟨rfl,j⟩⟩
 |true=>
  rw[cond_true];obtain⟨e,b,p1,p2⟩:=jhu (s:=line) (by omega)
  have hN:qd .i64 (((ga o).length:Int)+1)=(((es.getD []).length+1:Nat):Int):=by
   have:=j.len.1;rw[j.Ds,za (by omega)]
  have sw:qd .i64 (((es.getD []).length:Int)+1)=(((es.getD []).length+1:Nat):Int):=by
   have:=j.len.1;rw[za (by omega)]
  obtain⟨e',b',p3,p4⟩:=jk6 (O:=En (w::t)) (n:=(((es.getD []).length+1:Nat):Int)) rfl (by omega);rw[G]at p2;rw[q0o]at p4;simp only[hN,sw,j.Ds,p1,qe,cond_true];rw[p3,qe]
  cases M:nF (w::t) 0 with
  |none=>
   rw[M]at p2 p4;simp only[Option.map_none]at p2 p4;subst p2 p4;rw[ym,qe,ym,qe,vY,qe];exact⟨_,_,_,_,_,rfl,rfl,.inr ⟨rfl,j⟩⟩
  |some x=>
   rw[M]at p2 p4;simp only[Option.map_some]at p2 p4;obtain⟨rfl,p2⟩:=p2;obtain⟨rfl,p4⟩:=p4;subst p2;obtain⟨_,_,_,⟨f,q1,q2,q3⟩,_⟩:=QL M;have hfs:=Hp q1
   have Rn:iX (⟨(((es.getD []).length+1:Nat):Int),e.kind,e.names,e.values,e.text⟩:aC):=by
    have q2:(e.names.getD []).length=f.1:=q2;have q3:(e.values.getD []).length=f.2:=q3;exact⟨by show(e.names.getD []).length<=SM;unfold SM;omega,by show(e.values.getD []).length<=SM;unfold SM;omega⟩
   have rJ:e'.er=(⟨(((es.getD []).length+1:Nat):Int),e.kind,e.names,e.values,e.text⟩:aC).er:=p4
   have hB2:iX e':=by
    have Y:e'.names.getD []=e.names.getD []:=congrArg cQ.names rJ;have I:e'.values.getD []=e.values.getD []:=congrArg cQ.values rJ;exact⟨by rw[Y];exact Rn.1,by rw[I];exact Rn.2⟩
   have x6:e'.number=(((es.getD []).length+1:Nat):Int):=congrArg cQ.number rJ;generalize hE:(⟨(((es.getD []).length+1:Nat):Int),e.kind,e.names,e.values,e.text⟩:aC)=E at *;rw[cond_true,ym,qe,ym,qe,vY,qe];by_cases hk:1000<=((es.getD []).length:Int)
   .rw[decide_eq_true hk,cond_true];exact⟨_,_,_,_,_,rfl,rfl,.inr ⟨rfl,j⟩⟩
   have aW:(es.getD []).length<1000:=by omega
   have k14:f33 es E=En (GM (.ok h) (es.getD []).length E.er):=by rw[jw5 j.b1 Rn,j.run]
   rw[decide_eq_false hk,cond_false,Pu hB2.1 hB2.2,rJ];show ∃e new want c q,_/\cond (decide ((0:Int)=0)) (qa (En (jj E.er)) _) _=_/\_;rw[decide_eq_true rfl,cond_true,qe];by_cases hc:jj E.er=0
   case neg=>
    have ur:f33 es E=En (jj E.er):=by
     rw[k14];unfold GM;simp only[];rw[if_pos hc]
    rw[ur,qe,decide_eq_false hc,cond_false,cond_false];exact⟨_,_,_,_,_,rfl,rfl,.inr ⟨rfl,j⟩⟩
   rw[decide_eq_true hc,cond_true];obtain⟨c,s',J,a2⟩:=jci j.rel j.ok j.hb (by unfold BB;omega) (e:=e') (by rw[rJ];exact hc);rw[J,qe];rw[rJ]at a2
   cases ha:Go.W.accept (qd .i64) h (((es.getD []).length:Int)+1) E.er with
   |error y=>
    rw[ha]at a2;obtain⟨rfl,a3,a4⟩:=a2
    have ur:f33 es E=En c:=by
     rw[k14];unfold GM;simp only[];rw[if_neg (fun h=>h hc),if_neg (by omega),ha]
    rw[ur,qe,decide_eq_false a3,cond_false,cond_false];exact⟨_,_,_,_,_,rfl,rfl,.inr ⟨rfl,j.same J a3 a4⟩⟩
   |ok h'=>
    rw[ha]at a2;obtain⟨rfl,a4⟩:=a2
    have ur:f33 es E=En 0:=by
     rw[k14];unfold GM;simp only[];rw[if_neg (fun h=>h hc),if_neg (by omega),ha]
    have hd:=jgp (m:=(es.getD []).length+1) (by omega);rw[ur,qe,decide_eq_true rfl,cond_true,cond_true,x6,Ln (by omega),qe,Lp (by omega),qe,oo (by simp only[Gd,Js];omega),qe,qe];exact⟨_,_,_,_,_,rfl,rfl,.inl ⟨rfl,aW,h',j.next hB2 Rn rJ (by rw[rJ];exact hc) aW J rfl a4 (by rw[rJ];exact ha)⟩⟩
end Go.Z
namespace Go.Z
open Go Go.Abs Go.W
theorem jpb {σ δ:Type}{f:σ->Option (σ⊕δ)}{s:σ}{d:δ}(h:bd f s=En d):(∃s',f s=En (.inl s')/\bd f s'=En d)\/f s=En (.inr d):=by
 obtain⟨n,hn⟩:=GO.1 h
 cases n with
 |zero=>cases hn
 |succ n=>
  rw[oX]at hn
  cases hf:f s with
  |none=>rw[hf]at hn;cases hn
  |some x=>
   rw[hf]at hn
   cases x with
   |inl s'=>exact .inl ⟨s',rfl,GO.2 ⟨n,hn⟩⟩|inr d'=>cases hn;exact .inr rfl
theorem q42 {l:ak aC}(hl:(l.getD []).length<=1000)(hb:∀e∈l.getD [],iX e){d:Int×Option HV}:∀(m:List aC) (i:Nat) (s:Option HV),(l.getD []).drop i=m->i<=(l.getD []).length->bd (sB l) ((i:Int),s)=En (.inr d)->(∀e∈ga s,iX e) ->
  (ga d.2).map aC.er=(ga s).map aC.er++m.map aC.er/\∀e∈ga d.2,iX e
 | [],i,s,hm,hi,h,G=>by
  have he:i=(l.getD []).length:=by
   have:=Jg.1 hm;omega
  subst he;have I:bd (sB l) (((l.getD []).length:Int),s)=En (.inr (((l.getD []).length:Int),s)):=ju (by unfold sB;rw[z4];rfl);rw[I]at h;cases h;exact⟨by simp,G⟩
 |e::m,i,s,hm,hi,h,G=>by
  have M:(l.getD [])[i]?=En e:=by
   have:=congrArg List.head? hm;rwa [Jv]at this
  have aW:i<(l.getD []).length:=(H2.1 M).1
  have tQ:(l.getD []).drop (i+1)=m:=by rw[qR M]at hm;exact(List.cons.inj hm).2
  have vZ:=hb e (Ga M);obtain⟨e2,g1,g2,g3⟩:=KC vZ;have hw:qd .i64 ((i:Int)+1)=((i+1:Nat):Int):=za (by omega)
  have cm:sB l ((i:Int),s)=cond (decide (jj e.er=0)) (qa (sA s e2) fun q=>cond (decide (q.1=0)) (En (.inl (((i+1:Nat):Int),q.2))) (En (.inr (.inl (((i+1:Nat):Int),q.1,q.2))))) (En (.inr (.inl (((i+1:Nat):Int),jj e.er,s)))):=by
   unfold sB;simp only[yn aW,cond_true,ja M,qa,Pu vZ.1 vZ.2,hw,g1]
  rcases jpb h with⟨s',Y,I⟩|Y
  .rw[cm]at Y;rcases qc Y with⟨_,Y⟩|⟨_,Y⟩
   .obtain⟨q,h3,Y⟩:=qb Y;rcases qc Y with⟨h4,Y⟩|⟨_,Y⟩
    .cases Y;have eO:=(q22 h3).1 (of_decide_eq_true h4)
     obtain⟨k1,k2⟩:=q42 hl hb m (i+1) q.2 tQ (by omega) I (fun x M=>by
      rw[eO]at M;rcases Jc.1 M with M|M
      ·exact G x M
      ·rw[I1.1 M];exact g3)
     refine⟨?_,k2⟩;rw[k1,eO,Iz,Io,Io,g2];simp
    .cases Y
   .cases Y
  .rw[cm]at Y;rcases qc Y with⟨_,Y⟩|⟨_,Y⟩
   .obtain⟨q,h3,Y⟩:=qb Y;rcases qc Y with⟨h4,Y⟩|⟨_,Y⟩
    .cases Y
    .cases Y
   .cases Y
theorem j3f {l:ak aC}(hb:∀e∈l.getD [],iX e){o}(h:f27 l=En (.inr o)):(ga o).map aC.er=(l.getD []).map aC.er/\∀e∈ga o,iX e:=by
 unfold f27 at h;rcases qc h with⟨Y,h⟩|⟨Y,h⟩
 .cases h
 .obtain⟨d,I,h⟩:=qb h
  cases d with
  |inl d=>cases h
  |inr d=>
   cases h;have hl:=of_decide_eq_false Y;obtain⟨k1,k2⟩:=q42 (by omega) hb (l.getD []) 0 none rfl (Nat.zero_le _) I (fun e he=>by cases he);exact⟨by simpa[ga]using k1,k2⟩
theorem jgr {ls:ak aj}(hl:(ls.getD []).length<=8):∀(m:List aj) (i:Nat) (es:ak aC) (w:Bool) (S:SS) (h:y6),(ls.getD []).drop i=m->i<=(ls.getD []).length->S.ok->aag es S.v h ->
  ∃d,bd (sK ls) (es,w,S,(i:Int))=En d/\(match d with | .inl b=>b.1=Ij | .inr x=>∃h,aag x.1 x.2.2.1.v h/\x.2.2.1.ok)
 | [],i,es,w,S,h,hm,hi,hS,j=>by
  have he:i=(ls.getD []).length:=by
   have:=Jg.1 hm;omega
  subst he;refine⟨.inr (es,w,S,((ls.getD []).length:Int)),ju (by unfold sK;dsimp only;rw[z4];rfl),h,j,hS⟩
 |line::m,i,es,w,S,h,hm,hi,hS,j=>by
  have M:(ls.getD [])[i]?=En line:=by
   have:=congrArg List.head? hm;rwa [Jv]at this
  have aW:i<(ls.getD []).length:=(H2.1 M).1
  have tQ:(ls.getD []).drop (i+1)=m:=by rw[qR M]at hm;exact(List.cons.inj hm).2
  have hw:qd .i64 ((i:Int)+1)=((i+1:Nat):Int):=za (by omega)
  cases nL:(decide (300<(line.length:Int))&&!decide ((line.length:Int)=4097))with
  |true=>
   refine⟨.inl (Ij,S),ju ?_,rfl⟩;unfold sK;dsimp only;rw[yn aW,cond_true,HR.2 hS,cond_true,ja M,qe,nL,cond_true];rfl
  |false=>
   have WY:line.length<=4097:=by
    by_cases a:300<(line.length:Int)
    .by_cases b:(line.length:Int)=4097
     .omega
     .rw[decide_eq_true a,decide_eq_false b]at nL;cases nL
    .omega
   obtain⟨e,new,want,c,q,r1,r2,r3⟩:=jvr j WY;obtain⟨hh,_,_,hS',hv,_⟩:=DoS hS r2;rcases r3 with⟨rfl,hn,h',j'⟩|⟨rfl,j'⟩
   .have cm:sK ls (es,w,S,(i:Int))=En (.inl (En (es.getD []++[e]),Ij,S.next q,((i+1:Nat):Int))):=by
     unfold sK;dsimp only;rw[yn aW,cond_true,HR.2 hS,cond_true,ja M,qe,nL,cond_false,r1,qe,r2,qe,decide_eq_true rfl,cond_true,decide_eq_true rfl,cond_true,cond_true,xw (by unfold SM;omega),qe,x4 (o:=En (es.getD [])) (by simp only[I7];omega),qe,hw];rfl
    rw[z9 cm];exact jgr hl m (i+1) _ Ij (S.next q) h' tQ (by omega) hS' (by rw[hv];exact j')
   .have cm:sK ls (es,w,S,(i:Int))=En (.inl (es,w,S.next q,((i+1:Nat):Int))):=by
     unfold sK;dsimp only;rw[yn aW,cond_true,HR.2 hS,cond_true,ja M,qe,nL,cond_false,r1,qe,r2,qe,decide_eq_true rfl,cond_true,decide_eq_true rfl,cond_true,cond_false,hw]
    rw[z9 cm];exact jgr hl m (i+1) _ w (S.next q) h tQ (by omega) hS' (by rw[hv];exact j')
theorem jza {x:ak aC×Bool×SS×Int}{h:y6}(j:aag x.1 x.2.2.1.v h)(hS:x.2.2.1.ok):Ri x=En Ij:=by
 obtain⟨l1,l2⟩:=j.len;have le:=j.Ds;obtain⟨r,w,e1,e2,e3⟩:=j0j (o:=x.2.2.1.v) (by omega) j.b2;have er:(r.getD []).map aC.er=(x.1.getD []).map aC.er:=e2.trans j.ev
 have hrl:(r.getD []).length=(x.1.getD []).length:=by
  have:=congrArg Jr er;simpa using this
 have uc:f11 r x.1=En Ij:=joc er (by omega) fun e he=>by
  have hc:jj e.er=0:=by
   have:e.er∈(x.1.getD []).map aC.er:=by rw[<-er];exact I0 he
   exact(q3r j.run).2 _ this
  have:=Rl hc;exact⟨by have:=this.n;omega,by have:=this.v;omega⟩
 have hlog:=qtz l2;unfold Ri;rw[HR.2 hS,cond_true,e1,qe,uc,qe,cond_true,ju1 (by omega) j.chk2,qe,j2c (by omega) (fun e he=>(q5f (Rl (l2 e he)) (l2 e he)).1) (by omega),qe,j.ev,decide_eq_true rfl,cond_true];rfl
theorem jty (O:aj)(J:ak aj):f3 O J=En Ij:=by
 unfold f3
 cases oJ:(decide (1500<(O.length:Int))||decide (8<((J.getD []).length:Int)))with
 |true=>rfl
 |false=>
 rw[Ji]at oJ
 have G:O.length<=1500:=by have:=of_decide_eq_false oJ.1;omega
 have GL:(J.getD []).length<=8:=by have:=of_decide_eq_false oJ.2;omega
 have fK:O.length<=90000:=by omega
 obtain⟨t,t1,t2⟩:=j2a fK;obtain⟨u,u1,u2⟩:=j80 fK;have htu:(t.1.getD []).map aC.er=(u.1.getD []).map aC.er:=t2.1.trans u2.1.symm;have hc:t.2.2=u.2.2:=t2.2.2.trans u2.2.2.symm
 have hlen:(t.1.getD []).length=(u.1.getD []).length:=by
  have:=congrArg Jr htu;simpa using this
 have bt:∀e∈t.1.getD [],iX e:=fun e he=>by
  have:=jcy fK (q88 t2 he);exact⟨by have:=this.l1;unfold SM;omega,by have:=this.l2;unfold SM;omega⟩
 have bu:∀e∈u.1.getD [],iX e:=fun e he=>by
  have:=jcy fK (q88 u2 he);exact⟨by have:=this.l1;unfold SM;omega,by have:=this.l2;unfold SM;omega⟩
 rw[cond_false,u1,qe];unfold f7;rw[t1,qe,hc,Bool.or_comm (decide (u.2.2=0))]
 cases hk:(decide (u.2.2=29)||decide (u.2.2=0))with
 |false=>
  have h0:decide (u.2.2=0)=Hc:=(Ji.1 hk).2;rw[cond_false,qe,cond_false,qe,h0,cond_false];show cond (decide (u.2.2=u.2.2)) (E5) (En Hc)=En Ij;rw[decide_eq_true rfl];rfl
 |true=>
  rw[cond_true,cond_true];obtain⟨d,d1,d2⟩:=j21 bt;obtain⟨v,v1,v2⟩:=Py bu;rw[htu]at d2;rw[d1,qe,v1,qe]
  cases Q:run (qd .i64) ((u.1.getD []).map aC.er)with
  |error x=>
   rw[Q]at d2 v2;obtain⟨rfl,M⟩:=d2;have hv:v.2.2=x.2:=congrArg (fun p=>p.2.2) v2;simp only[];rw[decide_eq_false M,cond_false,qe,qe,hv,decide_eq_false M,cond_false];show cond (decide (x.2=x.2)) (E5) (En Hc)=En Ij;rw[decide_eq_true rfl];rfl
  |ok h=>
   rw[Q]at d2 v2;obtain⟨o,rfl,k1,k2,k3,k4⟩:=d2;have hv:v.2.2=0:=congrArg (fun p=>p.2.2) v2;obtain⟨q1,q2⟩:=j3f bt d1;have j:aag u.1 o h:=⟨Q,by rw[<-hlen];exact k1,k2,k3,q1.trans htu,bu,q2⟩;obtain⟨d,e1,e2⟩:=jgr GL (J.getD []) 0 u.1 Hc (SS.open [] o) h rfl (Nat.zero_le _) (SS.qD rfl o) j;simp only[];rw[qe,qe,hv,decide_eq_true rfl,cond_true];show cond (decide ((0:Int)=0)) (qa (bd (sK J) (u.1,Hc,SS.open [] o,0)) _) (En Hc)=En Ij;rw[decide_eq_true rfl,cond_true,show bd (sK J) (u.1,Hc,SS.open [] o,0)=En d from e1,qe]
   cases d with
   |inl b=>simp only[]at e2 ⊢;rw[e2]
   |inr x=>
    obtain⟨I,j2,hS2⟩:=e2;exact jza j2 hS2
theorem I3 (O:aj)(J:ak aj):ae aB (X aB) 3 [.str O,sl 1 qx J]=En (.bool Ij,Hc):=W3 (jty O J)
end Go.Z
end
