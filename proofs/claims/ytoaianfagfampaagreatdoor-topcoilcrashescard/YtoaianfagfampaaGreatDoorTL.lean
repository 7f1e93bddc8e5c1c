/- Sessions, plain. -/
import Derived.Test.YtoaianfagfampaaGreatDoorSY
set_option linter.all false
set_option maxRecDepth 100000
set_option maxHeartbeats 4000000
noncomputable section
open Option renaming some->Eb,bind_eq_some_iff->Hf
open List renaming length_map->Eg,length_append->Eh,length_cons->En,mem_cons_of_mem->Ep,mem_of_getElem?->E3,length_filter_le->E4,mem_cons_self->E8,mem_map->E9,map_cons->G0,mem_of_find?_eq_some->G1,take_append_drop->G5,mem_filter->G7,map_append->G8,mem_map_of_mem->Ha,mem_singleton->Hb,getElem?_eq_some_iff->Hc,not_mem_nil->Hd,length_take->He,find?_some->Hg,mem_append->Hk,length_singleton->Ho,mem_cons->Hr,any_cons->Hs,map_map->Hu,flatten_cons->Hy,intercalate->Hz,intersperse->H0,any_nil->H3
open Nat renaming le_trans->G4,ble_eq_true_of_le->Hp,zero_add->Hx,min_eq_left->H2
namespace Go.Z
open Go Go.Abs Go.W
theorem Gt {e:GEv}(h:jb e.er=0):ShE e:=by
 obtain⟨n1,n2,⟨f,f1,f2,mT⟩,n4,n5,_⟩:=tj h
 have hfm:∀x∈cz,x.1.length<=40/\x.2.1<=6/\x.2.2<=8:=by decide
 have hf:=hfm _ (NU f1);simp only[]at hf;have f2:(e.names.getD []).length=f.1:=f2;have mT:(e.values.getD []).length=f.2:=mT;refine⟨hf.1,by omega,by omega,fun x M=>?_⟩
 .have Y:=n4 x M;unfold Go.W.b6 at Y;split at Y
  .cases Y
  .simp only[Bool.and_eq_true,decide_eq_true_eq]at Y;omega
theorem jf5 {e:GEv}(h:jb e.er=0):(yo e.er).length<=20000:=by
 have s:=Gt h;obtain⟨Y,I,_,_,h5,_⟩:=tj h;have h5:∀v∈e.values.getD [],0<=v/\v<1000000000:=fun v hv=>⟨(h5 v hv).1,by have:=(h5 v hv).2;omega⟩;have Y:1<=e.number:=Y;have I:e.number<=1000:=I;have ha:=s.n;have hb:=s.v;have hk:=s.k
 have hlb:(kj e.er).length<=10000:=by
  rw[NZ];have l1:=Ct (l:=e.names.getD []) s.s
  have l2:=Ct (l:=(e.values.getD []).map Lib.itoa) fun w hw=>by
   obtain⟨v,hv,rfl⟩:=E9.1 hw;exact Gs (h5 v hv).1 (h5 v hv).2
  have l3:=Gs (v:=e.number) (by omega) (by omega);rw[Eg]at l2;simp only[Eh,Ho];show(Lib.itoa e.number).length+1+e.kind.length+(Lib.joinTail [32] (e.names.getD [])).length+(Lib.joinTail [32] ((e.values.getD []).map Lib.itoa)).length<=10000;omega
 have:=JM e.er;omega
theorem q21:∀ {l:List GEv},(∀e∈l,jb e.er=0)->(zj (l.map GEv.er)).length<=20001*l.length
 | [],_=>Nat.le_refl _
 |e::l,h=>by
  have Y:=jf5 (h e (E8 ..));have I:=q21 (l:=l) fun x M=>h x (Ep _ M);rw[G0,zj,Eh,En,En];omega
theorem jrx {o:Option HV}(hl:(fK o).length<=1000000)(hb:∀e∈fK o,gB e):∃r w,evF o=Eb (r,w)/\(r.getD []).map GEv.er=(fK o).map GEv.er/\∀e∈r.getD [],gB e:=by
 cases o with
 |none=>exact⟨none,false,rfl,rfl,fun e he=>by cases he⟩
 |some s=>
  have hl:s.ev.length<=1000000:=hl;have hb:∀e∈s.ev,gB e:=hb
  have key:=ja8 s.ev (Gb s.ev) (fun e=>(f35 e).getD e) (by omega) (fun a=>by
    unfold Gb;dsimp only;rw[z4];rfl) (fun i x a M hi ha=>by
    obtain⟨e',g1,g2,g3⟩:=Jw (hb x (E3 M));unfold Gb;dsimp only;rw[yp hi,cond_true,ja M,qk,g1,qk,sO ha];rw[zc (by omega)]
    rfl)
  refine⟨jj (s.ev.map fun e=>(f35 e).getD e),fR (s.ev.map fun e=>(f35 e).getD e),?_,?_,?_⟩
  .show Gd s.ev=_;unfold Gd;rw[key,qk]
  .rw[j6,Hu];refine List.map_congr_left fun e he=>?_;obtain⟨e',g1,g2,g3⟩:=Jw (hb e he);show((f35 e).getD e).er=e.er;rw[g1];exact g2
  .rw[j6];intro e he;obtain⟨e0,h0,rfl⟩:=E9.1 he;obtain⟨e',g1,g2,g3⟩:=Jw (hb e0 h0);rw[g1];exact g3
theorem q25 {α:Type}:∀l:List (List α),([]:List α).intercalate l=l.flatten
 | []=>rfl
 | [x]=>by simp[Hz,H0]
 |x::y::l=>by
  have:=q25 (y::l);simp only[Hz,H0,Hy,List.nil_append]at this ⊢;rw[this]
theorem q7k:∀ l:List cf,(l.map fun e=>yo e++[10]).flatten=zj l
 | []=>rfl
 |e::l=>by rw[G0,Hy,q7k l,zj];simp
theorem jpl {o:Option HV}(hl:(fK o).length<=1000)(hc:∀e∈fK o,jb e.er=0):Cs o=Eb (zj ((fK o).map GEv.er)):=by
 cases o with
 |none=>rfl
 |some s=>
  have hl:s.ev.length<=1000:=hl;have hc:∀e∈s.ev,jb e.er=0:=hc
  have key:=ja8 s.ev (Ge s.ev) (fun e=>yo e.er++[10]) (by omega) (fun a=>by
    unfold Ge;dsimp only;rw[z4];rfl) (fun i x a M hi ha=>by
    have hk:=hc x (E3 M);have ho:=(jhq (Gt hk) hk);unfold Ge;dsimp only;rw[yp hi,cond_true,ja M,qk,jri ho.1.num ho.1.vals ho.1.l1 ho.1.l2 (by have:=ho.1.lb;omega),qk,sO ha]
    rw[zc (by omega)])
  show f10 s.ev=Eb (zj (s.ev.map GEv.er));unfold f10 Oi;rw[key,qk,qk];have hb:=q21 hc
  have hf:(s.ev.map fun e=>yo e.er++[10]).flatten=zj (s.ev.map GEv.er):=by rw[<-q7k,Hu];rfl
  cases he:s.ev with
  |nil=>rfl
  |cons e l=>
   rw[he]at hf hb hl;show f29 (Eb ((yo e.er++[10])::l.map fun e=>yo e.er++[10])) []=_
   have GX:([]:aj).intercalate ((yo e.er++[10])::l.map fun e=>yo e.er++[10])=zj ((e::l).map GEv.er):=by rw[q25];exact hf
   show(bif Nat.ble _ 100000&&Nat.ble (([]:aj).intercalate ((yo e.er++[10])::l.map fun e=>yo e.er++[10])).length 100000000 then Eb (([]:aj).intercalate ((yo e.er++[10])::l.map fun e=>yo e.er++[10]))else none)=_;rw[GX,Hp (by simp only[En,Eg]at hl ⊢;omega),Hp (by omega)];rfl
theorem jat {l l':List GEv}{e}(h:pJ l l.length e=Eb l'):l'=l++[e]:=by
 unfold pJ at h;split at h
 .cases h;simp
 .cases h
theorem jqn {s:HV}{e:GEv}{q}(h:wF s e=Eb q):(q.1=0->q.2.ev=s.ev++[e])/\(q.1≠0->q.2.ev=s.ev):=by
 unfold wF at h;rcases qe h with⟨Y,h⟩|⟨Y,h⟩
 .rcases qe h with⟨I,h⟩|⟨I,h⟩
  .obtain⟨e1,k1,h⟩:=qd h;rcases qe h with⟨h3,h⟩|⟨h3,h⟩
   .obtain⟨x,k2,h⟩:=qd h;obtain⟨e2,k3,h⟩:=qd h;obtain⟨e3,k4,h⟩:=qd h;rcases qe h with⟨h4,h⟩|⟨h4,h⟩
    .rcases qe h with⟨h5,h⟩|⟨_,h⟩
     .obtain⟨ev,dY,h⟩:=qd h;cases h;exact⟨fun _=>jat dY,fun h=>absurd rfl h⟩
     .cases h
    .cases h;exact⟨fun h=>absurd h (of_decide_eq_false h4),fun _=>rfl⟩
   .obtain⟨e2,k3,h⟩:=qd h;obtain⟨e3,k4,h⟩:=qd h;rcases qe h with⟨h4,h⟩|⟨h4,h⟩
    .cases h
    .cases h;exact⟨fun h=>absurd h (of_decide_eq_false h4),fun _=>rfl⟩
  .obtain⟨r,k1,h⟩:=qd h;obtain⟨v,k2,h⟩:=qd h;rcases qe h with⟨h3,h⟩|⟨h3,h⟩
   .obtain⟨cs,hcs,h⟩:=qd h;obtain⟨ss,rZ,h⟩:=qd h;obtain⟨ev,dY,h⟩:=qd h;cases h;exact⟨fun _=>jat dY,fun h=>absurd rfl h⟩
   .cases h;exact⟨fun h=>absurd h (of_decide_eq_false h3),fun _=>rfl⟩
 .cases h;exact⟨fun h=>absurd (show(11:Int)=0 from h) (by decide),fun _=>rfl⟩
theorem jjn {e:GEv}{q}(h:wE e=Eb q):(q.1=0->fK q.2=[e])/\(q.1≠0->fK q.2=[]):=by
 unfold wE at h;rcases qe h with⟨Y,h⟩|⟨Y,h⟩
 .rcases qe h with⟨I,h⟩|⟨I,h⟩
  .obtain⟨e1,k1,h⟩:=qd h;obtain⟨e2,k3,h⟩:=qd h;obtain⟨e3,k4,h⟩:=qd h;rcases qe h with⟨h4,h⟩|⟨h4,h⟩
   .cases h
   .cases h;exact⟨fun h=>absurd h (of_decide_eq_false h4),fun _=>rfl⟩
  .obtain⟨v,k2,h⟩:=qd h;rcases qe h with⟨h3,h⟩|⟨h3,h⟩
   .cases h;exact⟨fun _=>rfl,fun h=>absurd rfl h⟩
   .cases h;exact⟨fun h=>absurd h (of_decide_eq_false h3),fun _=>rfl⟩
 .cases h;exact⟨fun h=>absurd (show(11:Int)=0 from h) (by decide),fun _=>rfl⟩
theorem Wu {o:Option HV}{e:GEv}{q}(h:qZ o e=Eb q):(q.1=0->fK q.2=fK o++[e])/\(q.1≠0->fK q.2=fK o):=by
 cases o with
 |none=>exact jjn h
 |some s=>
  obtain⟨x,M,h⟩:=qd h;cases h;exact jqn M
end Go.Z
namespace Go.Z
open Go Go.Abs Go.W
def txt:List aj->aj
 | []=>[110,111,110,101]|x::l=>x++Lib.joinTail [32] l
theorem qys:∀ {l:List aj},(∀s∈l,Nm s)->(Lib.joinTail [32] l).length<=l.length*25
 | [],_=>by simp[Lib.joinTail]
 |x::l,h=>by
  have Y:=(h x (E8 ..)).1;have I:=qys fun w hw=>h w (Ep _ hw);rw[F3];simp only[Eh,En,List.length_nil];omega
theorem jpn {m:List aj}(hl:m.length<=100000)(hm:∀s∈m,Nm s):qc (f29 (jj m) [32]) (fun s=>Eb (cond (decide (s=[])) ([110,111,110,101]:aj) s,(0:Int)))=Eb (txt m,0):=by
 cases m with
 |nil=>rfl
 |cons x l=>
  have Y:=hm x (E8 ..);have I:=qys fun w hw=>hm w (Ep x hw);have Hq:l.length+1<=100000:=hl;have hj:Lib.join (x::l) [32]=x++Lib.joinTail [32] l:=Lib.join_cons x l [32];have h3:=Y.1;rw[show jj (x::l)=Eb (x::l)from rfl,VA hl (by rw[hj,Eh];omega),qk,hj,decide_eq_false (by simp[Y.2]),cond_false];rfl
def vn:aj:=[115,104,105,112,112,101,100]
def Cw:aj:=[104,101,108,100]
def jap:aj:=[108,111,116,115]
def Ke:aj:=[117,110,105,116,115]
def qzg:aj:=[109,105,115,115,105,110,103]
def Cv:aj:=[115,116,111,99,107]
def jct:aj:=[118,101,114,115,105,111,110]
def zT (S:bX):List aj:=(S.units.filter (·.ax)).map (·.name)
def zU (S:bX):List aj:=(S.ay.filter (·.held)).map (·.name)
def mU (S:bX)(w n:aj):aj×Int:=
 if w=jap then(match zk S n with
  |none=>([],10)
  |some k=>match S.units[k]? with
   |none=>([],10)
   |some u=>(txt (u.uses.map (·.k)),0))
 else if w=Ke then(match zx S n with
  |none=>([],10)
  |some _=>(txt (wI S n),0))
 else if w=qzg then(match zk S n with
  |none=>([],10)
  |some k=>match S.units[k]? with
   |none=>([],10)
   |some u=>match gp S u with
    |none=>([],10)
    |some d=>(txt (qT d u),0))
 else if w=Cv then(if Go.W.b6 n then(Lib.decDigits (BH S n).toNat,0)else([],8))
 else(match zr S n with
  |none=>([],10)
  |some k=>match S.ah[k]? with
   |none=>([],10)
   |some p=>(Lib.decDigits p.bg.length,0))
def vm (S:bX)(w:aj)(t:List aj):aj×Int:=
 if w=vn\/w=Cw then(match t with
  | []=>(txt (if w=vn then zT S else zU S),0)
  |_=>([],26))
 else match t with
  | [n]=>if n=[]then([],26)else mU S w n
  |_=>([],26)
end Go.Z
namespace Go.Z
open Go Go.Abs Go.W
theorem qy4 {k:aj}:∀ {l:List ji} {n:Int},(∀x∈l,0<=x.left/\x.left<=10000)->0<=n->n+10000*(l.length:Int)<=1000000000 ->
  0<=l.foldl (fun n x=>if decide (x.kind=k)&&!x.held then qf .i64 (n+x.left)else n) n/\l.foldl (fun n x=>if decide (x.kind=k)&&!x.held then qf .i64 (n+x.left)else n) n<=n+10000*(l.length:Int)
 | [],n,_,h0,Y=>by simp;omega
 |x::l,n,h,h0,Y=>by
  have M:=h x (E8 ..)
  have yP:n+10000*((l.length:Int)+1)<=1000000000:=by simpa using Y
  rw[List.foldl_cons];have hw:qf .i64 (n+x.left)=n+x.left:=yw (by omega) (by omega)
  have step:∀n',0<=n'->n'<=n+10000->0<=l.foldl (fun n x=>if decide (x.kind=k)&&!x.held then qf .i64 (n+x.left)else n) n'/\l.foldl (fun n x=>if decide (x.kind=k)&&!x.held then qf .i64 (n+x.left)else n) n'<=n+10000*(((x::l).length:Nat):Int):=fun n' a b=>by
   have:=qy4 (k:=k) (l:=l) (n:=n') (fun y hy=>h y (Ep _ hy)) a (by omega);simp only[En];omega
  by_cases hc:(decide (x.kind=k)&&!x.held)=true
  .rw[if_pos hc,hw];exact step _ (by omega) (by omega)
  .rw[if_neg hc];exact step _ (by omega) (by omega)
structure RG (r:av):Prop where
 b:GB r
 w:WF r.er
 nb:NB r.er
 sb:SB 1000 r.er
theorem jn6 {r:av}(R:RG r){k}:0<=BH r.er k/\BH r.er k<100000000:=by
 have hl:=R.sb.L;have:=qy4 (k:=k) (l:=r.er.ay) (n:=0) (fun x M=>(R.nb.L x M).2) (by omega) (by omega);unfold BH;omega
section
variable {r:av}(R:RG r)
include R
theorem jiy {n}:(wI r.er n).length<=100000/\∀s∈wI r.er n,Nm s:=by
 unfold wI;refine⟨?_,fun s G=>?_⟩
 .rw[Eg];exact G4 (E4 _ _) (by have:=R.sb.U;omega)
 .obtain⟨u,hu,rfl⟩:=E9.1 G;exact(R.nb.U u ((G7.1 hu).1)).1
theorem jn0:(zT r.er).length<=100000/\∀s∈zT r.er,Nm s:=by
 unfold zT;refine⟨?_,fun s G=>?_⟩
 .rw[Eg];exact G4 (E4 _ _) (by have:=R.sb.U;omega)
 .obtain⟨u,hu,rfl⟩:=E9.1 G;exact(R.nb.U u ((G7.1 hu).1)).1
theorem jp6:(zU r.er).length<=100000/\∀s∈zU r.er,Nm s:=by
 unfold zU;refine⟨?_,fun s G=>?_⟩
 .rw[Eg];exact G4 (E4 _ _) (by have:=R.sb.L;omega)
 .obtain⟨u,hu,rfl⟩:=E9.1 G;exact(R.nb.L u ((G7.1 hu).1)).1
theorem jqo {u}(hu:u∈r.er.units):(u.uses.map (·.k)).length<=100000/\∀s∈u.uses.map (·.k),Nm s:=by
 refine⟨?_,fun s G=>?_⟩
 .rw[Eg];have:=(R.sb.N u hu).1;omega
 .obtain⟨x,M,rfl⟩:=E9.1 G;exact(R.nb.U u hu).2 x M
theorem jfa {u d}(hd:gp r.er u=Eb d):(qT d u).length<=100000/\∀s∈qT d u,Nm s:=by
 unfold gp at hd;obtain⟨p,hp,hd⟩:=Hf.1 hd;unfold kx at hp;obtain⟨k,_,hp⟩:=Hf.1 hp;have hpm:=E3 hp
 have hdm:d∈p.bg:=by
  unfold Bd at hd;split at hd
  .exact E3 hd
  .cases hd
 unfold qT;refine⟨?_,fun s G=>?_⟩
 .rw[Eg];exact G4 (E4 _ _) (by have:=((R.sb.D p hpm).2.2.2 d hdm).2;omega)
 .obtain⟨x,M,rfl⟩:=E9.1 G;exact(R.nb.P p hpm).2 d hdm x ((G7.1 M).1)
end
end Go.Z
namespace Go.Z
open Go Go.Abs Go.W
def pn (r:av)(role:Int)(k:Nat)(n:aj):Option (aj×Int):=
 qc (f70 r role n) fun kn=>
 qc (f18 (!kn) 10) fun e1=>
 qc (cond (decide (role=107)) (qc (f71 n) fun i=>Eb (!i)) (Eb false)) fun b2=>
 qc (f18 b2 8) fun e2=>
 qc (f17 (Eb [e1,e2])) fun e3=>
 cond (decide (e3=0))
  (qc (zM k r n) fun q=>
  qc (f29 q.1 [32]) fun s=>
  Eb (cond (decide (s=[])) [110,111,110,101] s,0))
  (Eb ([],e3))
theorem jhb (m:Nat):Lib.decDigits m≠[]:=by
 unfold Lib.decDigits;split<;>simp
theorem Wb {m:Nat}(h:m<1000000000):(Lib.decDigits m).length<=1000:=by
 have:=F1 8 m (by omega);omega
theorem jhn {l:List bp}(hl:l.length<=SM):∃w,f61 (jj l)=Eb (jj (l.map (·.name)),w):=by
 unfold f61;have:=Bg (f:=FF (jj l)) (l:=(jj l).getD []) (g:=fun u:bp=>u.name) (q:=f64) (by rw[j6];exact hl) (fun x M=>rfl) (fun s=>rfl);rw[j6]at this;rw[this];exact⟨_,rfl⟩
theorem jbu {l:List ji}(hl:l.length<=SM):∃w,f129 (jj l)=Eb (jj (l.map (·.name)),w):=by
 unfold f129;have:=Bg (f:=JR (jj l)) (l:=(jj l).getD []) (g:=fun u:ji=>u.name) (q:=f130) (by rw[j6];exact hl) (fun x M=>rfl) (fun s=>rfl);rw[j6]at this;rw[this];exact⟨_,rfl⟩
theorem jft {r:av}{w t role k}(ht:t.length<=100000):Cp r role k (Eb (w::t))=cond (decide (((t.length+1:Nat):Int)=(if role=0 then 1 else 2))) (cond ((w::t).any fun x=>decide (([]:aj)=x)) (Eb ([],26)) (qc (qo (w::t) (qf .i64 (if role=0 then 0 else 1))) fun n=>pn r role k n)) (Eb ([],26)):=by
 unfold Cp;rw[UL (a:=Eb (w::t)) (n:=[]) (by unfold SM;simp;omega),qk];rfl
section
variable {r:av}(R:RG r)
include R
theorem Ky {role k n m w'}(Y:oi r.er role n=true)(I:role≠107)(h3:zM k r n=Eb (jj m,w'))(hl:m.length<=100000)(hm:∀s∈m,Nm s):pn r role k n=Eb (txt m,0):=by
 unfold pn;rw[Bu R.b,qk,Y,yh,qk,decide_eq_false I,cond_false,qk,yh,qk,uZ,qk];show cond (decide ((0:Int)=0)) _ _=_;rw[decide_eq_true rfl,cond_true,h3,qk];exact jpn hl hm
theorem Ox {role k n}(Y:oi r.er role n=false)(I:role≠107):pn r role k n=Eb ([],10):=by
 unfold pn;rw[Bu R.b,qk,Y,yh,qk,decide_eq_false I,cond_false,qk,yh,qk,uZ,qk];rfl
theorem q6z {role k n s w'}(Y:oi r.er role n=true)(I:role≠107\/Go.W.b6 n=true)(h3:zM k r n=Eb (Eb [s],w'))(G:s≠[])(hl:s.length<=1000):pn r role k n=Eb (s,0):=by
 have hb:(cond (decide (role=107)) (qc (f71 n) fun i=>Eb (!i)) (Eb false):Option Bool)=Eb false:=by
  by_cases h:role=107
  .rw[decide_eq_true h,cond_true,UB,Nq,qk];rcases I with I|I
   .exact absurd h I
   .rw[I];rfl
  .rw[decide_eq_false h];rfl
 unfold pn;rw[Bu R.b,qk,Y,yh,qk,hb,qk,yh,qk,uZ,qk];show cond (decide ((0:Int)=0)) _ _=_
 have hj:Lib.join [s] [32]=s:=by rw[Lib.join_cons];simp[Lib.joinTail]
 rw[decide_eq_true rfl,cond_true,h3,qk,VA (by simp) (by rw[hj];omega),qk,hj,decide_eq_false G];rfl
theorem jij {w n q}(hq:lA w=Eb q)(h0:q.2.1≠0):pn r q.2.1 q.2.2 n=Eb (mU r.er w n):=by
 have hw:w=q.1:=by
  have:=Hg hq;simpa using this
 have hm:q∈fk:=G1 hq;clear hq;subst hw;simp only[fk,Hr,Hd,or_false]at hm;rcases hm with rfl|rfl|rfl|rfl|rfl|rfl|rfl
 .show pn r 117 48 n=Eb (mU r.er jap n);have hk:oi r.er 117 n=(zk r.er n).isSome:=rfl;unfold mU;rw[if_pos rfl]
  cases hu:zk r.er n with
  |none=>rw[hu]at hk;exact Ox R hk (by decide)
  |some k=>
   rw[hu]at hk;obtain⟨u,g1,g2,g3⟩:=pH hu;obtain⟨q1,q2⟩:=jqo R (E3 g3);obtain⟨w',g⟩:=je3 (u:=u) (jl (R.b.N u (E3 g1)).1);simp only[g3];refine Ky R hk (by decide) (w':=w') ?_ q1 q2;show f48 r n=_;unfold f48;rw[ux (jl R.b.U),qk,hu,show ei (Eb k)=(k:Int)from rfl,ja g1,qk,g]
 .show pn r 108 51 n=Eb (mU r.er Ke n);have hk:oi r.er 108 n=(zx r.er n).isSome:=rfl;unfold mU;rw[if_neg (by decide),if_pos rfl]
  cases hu:zx r.er n with
  |none=>rw[hu]at hk;exact Ox R hk (by decide)
  |some k=>
   rw[hu]at hk;obtain⟨q1,q2⟩:=jiy R (n:=n);obtain⟨w',g⟩:=jv0 (n:=n) R.b;exact Ky R hk (by decide) (w':=w') g q1 q2
 .show pn r 117 53 n=Eb (mU r.er qzg n);have hk:oi r.er 117 n=(zk r.er n).isSome:=rfl;unfold mU;rw[if_neg (by decide),if_neg (by decide),if_pos rfl]
  cases hu:zk r.er n with
  |none=>rw[hu]at hk;exact Ox R hk (by decide)
  |some k=>
   rw[hu]at hk;obtain⟨u,g1,g2,g3⟩:=pH hu;obtain⟨D,v,o⟩:=Bt R.b R.w g1;obtain⟨w1,m1⟩:=jfv o.doc (jl o.results) (jl o.aO) o.bO;obtain⟨q1,q2⟩:=jfa R o.yG;simp only[g3,o.yG];refine Ky R hk (by decide) (w':=w1) ?_ q1 q2;show f53 r n=_;unfold f53;rw[ux (jl R.b.U),qk,hu,show ei (Eb k)=(k:Int)from rfl,ja g1,qk,m1]
 .show pn r 107 55 n=Eb (mU r.er Cv n);have hk:oi r.er 107 n=true:=rfl;unfold mU;rw[if_neg (by decide),if_neg (by decide),if_neg (by decide),if_pos rfl]
  cases hn:Go.W.b6 n with
  |false=>
   unfold pn;rw[Bu R.b,qk,hk,yh,qk,decide_eq_true rfl,cond_true,UB,Nq,hn,qk,qk,yh,qk,uZ,qk];rfl
  |true=>
   obtain⟨s1,s2⟩:=jn6 R (k:=n);obtain⟨m,hm⟩:=Int.eq_ofNat_of_zero_le s1;rw[if_pos rfl];refine q6z R hk (.inr hn) (w':=true) ?_ (jhb _) (Wb (by omega));show f55 r n=_;unfold f55;rw[js8 R.b,qk,hm,JN (by omega),qk];rfl
 .show pn r 112 57 n=Eb (mU r.er jct n);have hk:oi r.er 112 n=(zr r.er n).isSome:=rfl;unfold mU;rw[if_neg (by decide),if_neg (by decide),if_neg (by decide),if_neg (by decide)]
  cases hu:zr r.er n with
  |none=>rw[hu]at hk;exact Ox R hk (by decide)
  |some k=>
   rw[hu]at hk;obtain⟨p,g1,g2,g3⟩:=Bq hu;have hD:=(R.sb.D p.er (E3 g3)).1;have hd:p.er.bg.length=(p.bg.getD []).length:=Eg ..;simp only[g3];refine q6z R hk (.inl (by decide)) (w':=true) ?_ (jhb _) (Wb (by omega));show f57 r n=_;unfold f57 f59;rw[sR (jl R.b.P),qk,hu,show ei (Eb k)=(k:Int)from rfl,ja g1,qk,qk,JN (by omega),qk,hd]
 .exact absurd rfl h0
 .exact absurd rfl h0
theorem jo8:∃ w,JP r.units=Eb (jj ((r.units.getD []).filter fun u=>u.ax),w):=by
 unfold JP;rw[Fq (f:=JO r.units) (l:=r.units.getD []) (p:=fun u=>u.ax) (q:=f63) (jl R.b.U) (fun x M=>rfl) (fun s=>rfl)];exact⟨_,rfl⟩
theorem jig:∃ w,f67 r.ay=Eb (jj ((r.ay.getD []).filter fun u=>u.held),w):=by
 unfold f67;rw[Fq (f:=Fv r.ay) (l:=r.ay.getD []) (p:=fun u=>u.held) (q:=f68) (jl R.b.L) (fun x M=>rfl) (fun s=>rfl)];exact⟨_,rfl⟩
theorem j40 {n}:∃w,zM 60 r n=Eb (jj (zT r.er),w):=by
 obtain⟨w1,g1⟩:=jo8 R;have hl:((r.units.getD []).filter fun u=>u.ax).length<=SM:=G4 (E4 _ _) (jl R.b.U);obtain⟨w2,g2⟩:=jhn hl;refine⟨w2,?_⟩;show f60 r n=_;unfold f60 zT;rw[g1,qk,g2,wm,List.filter_map,Hu];rfl
theorem zar {n}:∃w,zM 65 r n=Eb (jj (zU r.er),w):=by
 obtain⟨w1,g1⟩:=jig R;have hl:((r.ay.getD []).filter fun u=>u.held).length<=SM:=G4 (E4 _ _) (jl R.b.L);obtain⟨w2,g2⟩:=jbu hl;refine⟨w2,?_⟩;show f65 r n=_;unfold f65 zU;rw[g1,qk,g2];rfl
theorem jp8 {w t q}(hw:w≠[])(ht:t.length<=100000)(hq:lA w=Eb q):Cp r q.2.1 q.2.2 (Eb (w::t))=Eb (vm r.er w t):=by
 have hwq:w=q.1:=by
  have:=Hg hq;simpa using this
 have hm:q∈fk:=G1 hq;have EP:decide (([]:aj)=w)=false:=decide_eq_false fun h=>hw h.symm;rw[jft ht];by_cases h0:q.2.1=0
 .rw[if_pos h0,if_pos h0]
  have G:w=vn\/w=Cw:=by
   simp only[fk,Hr,Hd,or_false]at hm;rcases hm with rfl|rfl|rfl|rfl|rfl|rfl|rfl
   .exact absurd h0 (by decide)
   .exact absurd h0 (by decide)
   .exact absurd h0 (by decide)
   .exact absurd h0 (by decide)
   .exact absurd h0 (by decide)
   .exact .inl hwq
   .exact .inr hwq
  unfold vm;rw[if_pos G]
  cases t with
  |cons n t=>
   rw[decide_eq_false (by simp only[En];omega)];rfl
  |nil=>
   rw[show decide ((((([]:List aj).length+1:Nat)):Int)=1)=true from rfl,cond_true,Hs,EP,H3,Bool.or_false,cond_false,show qo [w] (qf .i64 0)=Eb w from rfl,qk]
   have hk:oi r.er q.2.1 w=true:=by rw[h0];rfl
   rcases G with G|G
   .have:q=(vn,0,60):=by
     rw[G]at hq;exact(Eb.inj hq).symm
    obtain⟨w',g⟩:=j40 R (n:=w);obtain⟨q1,q2⟩:=jn0 R;show _=Eb (txt (if w=vn then zT r.er else zU r.er),0);rw[if_pos G];exact Ky R hk (by rw[h0];decide) (by rw[this];exact g) q1 q2
   .have:q=(Cw,0,65):=by
     rw[G]at hq;exact(Eb.inj hq).symm
    obtain⟨w',g⟩:=zar R (n:=w);obtain⟨q1,q2⟩:=jp6 R;show _=Eb (txt (if w=vn then zT r.er else zU r.er),0);rw[if_neg (by rw[G];decide)];exact Ky R hk (by rw[h0];decide) (by rw[this];exact g) q1 q2
 .rw[if_neg h0,if_neg h0]
  have G:¬(w=vn\/w=Cw):=by
   rintro (G|G)
   .rw[G]at hq;exact h0 (by rw[<-Eb.inj (show Eb (vn,(0:Int),60)=Eb q from hq)])
   .rw[G]at hq;exact h0 (by rw[<-Eb.inj (show Eb (Cw,(0:Int),65)=Eb q from hq)])
  unfold vm;rw[if_neg G];rcases t with _|⟨n,_|⟨n2,t⟩⟩
  .rfl
  .rw[show decide (((([n]:List aj).length+1:Nat):Int)=2)=true from rfl,cond_true,Hs,EP,Hs,H3,Bool.false_or,Bool.or_false,show qo [w,n] (qf .i64 1)=Eb n from rfl,qk];show _=Eb (if n=[]then([],26)else mU r.er w n);by_cases hn:n=[]
   .rw[decide_eq_true hn.symm,cond_true,if_pos hn]
   .rw[decide_eq_false fun h=>hn h.symm,cond_false,if_neg hn,jij R hq h0]
  .rw[decide_eq_false (by simp only[En];omega)];rfl
end
end Go.Z
namespace Go.Z
open Go Go.Abs Go.W
structure aag (es:ak GEv)(o:Option HV)(h:zz):Prop where
 run:run (qf .i64) ((es.getD []).map GEv.er)=.ok h
 rel:qY (es.getD []).length h o
 ok:ic (qf .i64) h
 hb:HB h
 ev:(fK o).map GEv.er=(es.getD []).map GEv.er
 b1:∀e∈es.getD [],gB e
 b2:∀e∈fK o,gB e
section
variable {es:ak GEv}{o:Option HV}{h:zz}(j:aag es o h)
include j
theorem aag.len:(es.getD []).length<=1000/\∀e∈es.getD [],jb e.er=0:=by
 obtain⟨Y,I⟩:=N0 j.run;rw[Eg]at Y;exact⟨Y,fun e he=>I _ (Ha he)⟩
theorem aag.xa:(fK o).length=(es.getD []).length:=by
 have:=congrArg List.length j.ev;simpa using this
theorem aag.Wk:∀ e∈fK o,jb e.er=0:=fun e he=>by
 have:e.er∈(es.getD []).map GEv.er:=by rw[<-j.ev];exact Ha he
 exact(N0 j.run).2 _ this
theorem aag.rg {r:av}(Q:r.er=now h):RG r:=by
 have G:h.1.length<=1000:=by
  have Y:=jhv j.run;have I:=j.len.1;rw[Eg]at Y;omega
 have BE:SB h.1.length (now h):=j.hb _ _ j.ok.now;rw[<-Q]at BE;refine⟨BE.gb (by unfold BB;omega),by rw[Q];exact j.ok.sY,by rw[Q];exact(js2 j.run).now,BE.mono G⟩
theorem aag.next {e E:GEv}{c:Int}{s':Option HV}{h':zz}(he:gB e)(hE:gB E)(Wv:e.er=E.er)(hc:jb e.er=0)(hn:(es.getD []).length<1000)(G:qZ o e=Eb (c,s'))(h0:c=0)(Q:qY ((es.getD []).length+1) h' s')
  (ha:Go.W.accept (qf .i64) h (((es.getD []).length:Int)+1) e.er=.ok h'):aag (Eb (es.getD []++[E])) s' h':=by
 have dY:fK s'=fK o++[e]:=(Wu G).1 h0;refine⟨?_,?_,j.ok.accept hc ha,j.hb.accept j.ok ha,?_,?_,?_⟩
 .show Go.W.run (qf .i64) ((es.getD []++[E]).map GEv.er)=.ok h';rw[G8];exact q5t j.run (by rw[Eg];exact hn) (by rw[<-Wv];exact hc) (by rw[Eg,<-Wv];exact ha)
 .show qY (es.getD []++[E]).length h' s';rw[Eh];exact Q
 .show(fK s').map GEv.er=(es.getD []++[E]).map GEv.er;rw[dY,G8,G8,j.ev,G0,G0,Wv]
  try rfl
 .intro x M;rcases Hk.1 (show x∈es.getD []++[E]from M)with M|M
  .exact j.b1 x M
  .rw[Hb.1 M];exact hE
 .intro x M;rw[dY]at M;rcases Hk.1 M with M|M
  .exact j.b2 x M
  .rw[Hb.1 M];exact he
theorem aag.same {e:GEv}{c:Int}{s':Option HV}(G:qZ o e=Eb (c,s'))(h0:c≠0)(Q:qY (es.getD []).length h s'):aag es s' h:=by
 have dY:fK s'=fK o:=(Wu G).2 h0;exact⟨j.run,Q,j.ok,j.hb,by rw[dY];exact j.ev,j.b1,by rw[dY];exact j.b2⟩
end
theorem jem {w q}(hq:lA w=Eb q):lP w=false:=by
 have hw:w=q.1:=by
  have:=Hg hq;simpa using this
 have hm:q∈fk:=G1 hq;subst hw;simp only[fk,Hr,Hd,or_false]at hm;rcases hm with rfl|rfl|rfl|rfl|rfl|rfl|rfl<;>decide
end Go.Z
namespace Go.Z
open Go Go.Abs Go.W
theorem jkb {σ δ:Type}{f:σ->Option (σ⊕δ)}{s:σ}{d:δ}(h:bu f s=Eb d):(∃s',f s=Eb (.inl s')/\bu f s'=Eb d)\/f s=Eb (.inr d):=by
 obtain⟨n,hn⟩:=FG.1 h
 cases n with
 |zero=>cases hn
 |succ n=>
  rw[oj]at hn
  cases hf:f s with
  |none=>rw[hf]at hn;cases hn
  |some x=>
   rw[hf]at hn
   cases x with
   |inl s'=>exact .inl ⟨s',rfl,FG.2 ⟨n,hn⟩⟩|inr d'=>cases hn;exact .inr rfl
theorem q3l {l:ak GEv}(hl:(l.getD []).length<=1000)(hb:∀e∈l.getD [],gB e){d:Int×Option HV}:∀(m:List GEv) (i:Nat) (s:Option HV),(l.getD []).drop i=m->i<=(l.getD []).length->bu (pf l) ((i:Int),s)=Eb (.inr d)->(∀e∈fK s,gB e) ->
  (fK d.2).map GEv.er=(fK s).map GEv.er++m.map GEv.er/\∀e∈fK d.2,gB e
 | [],i,s,hm,hi,h,G=>by
  have he:i=(l.getD []).length:=by
   have:=List.drop_eq_nil_iff.1 hm;omega
  subst he;have I:bu (pf l) (((l.getD []).length:Int),s)=Eb (.inr (((l.getD []).length:Int),s)):=zf (by unfold pf;rw[z4];rfl);rw[I]at h;cases h;exact⟨by simp,G⟩
 |e::m,i,s,hm,hi,h,G=>by
  have M:(l.getD [])[i]?=Eb e:=by
   have:=congrArg List.head? hm;rwa [List.head?_drop]at this
  have bh:i<(l.getD []).length:=(Hc.1 M).1
  have yK:(l.getD []).drop (i+1)=m:=by rw[sN M]at hm;exact(List.cons.inj hm).2
  have u0:=hb e (E3 M);obtain⟨e2,g1,g2,g3⟩:=Jw u0;have hw:qf .i64 ((i:Int)+1)=((i+1:Nat):Int):=zc (by omega)
  have cr:pf l ((i:Int),s)=cond (decide (jb e.er=0)) (qc (qZ s e2) fun q=>cond (decide (q.1=0)) (Eb (.inl (((i+1:Nat):Int),q.2))) (Eb (.inr (.inl (((i+1:Nat):Int),q.1,q.2))))) (Eb (.inr (.inl (((i+1:Nat):Int),jb e.er,s)))):=by
   unfold pf;simp only[yp bh,cond_true,ja M,qc,Nr u0.1 u0.2,hw,g1]
  rcases jkb h with⟨s',Y,I⟩|Y
  .rw[cr]at Y;rcases qe Y with⟨_,Y⟩|⟨_,Y⟩
   .obtain⟨q,h3,Y⟩:=qd Y;rcases qe Y with⟨h4,Y⟩|⟨_,Y⟩
    .cases Y;have dY:=(Wu h3).1 (of_decide_eq_true h4)
     obtain⟨k1,k2⟩:=q3l hl hb m (i+1) q.2 yK (by omega) I (fun x M=>by
      rw[dY]at M;rcases Hk.1 M with M|M
      ·exact G x M
      ·rw[Hb.1 M];exact g3)
     refine⟨?_,k2⟩;rw[k1,dY,G8,G0,G0,g2];simp
    .cases Y
   .cases Y
  .rw[cr]at Y;rcases qe Y with⟨_,Y⟩|⟨_,Y⟩
   .obtain⟨q,h3,Y⟩:=qd Y;rcases qe Y with⟨h4,Y⟩|⟨_,Y⟩
    .cases Y
    .cases Y
   .cases Y
theorem jr6 {l:ak GEv}(hb:∀e∈l.getD [],gB e){o}(h:f33 l=Eb (.inr o)):(fK o).map GEv.er=(l.getD []).map GEv.er/\∀e∈fK o,gB e:=by
 unfold f33 at h;rcases qe h with⟨Y,h⟩|⟨Y,h⟩
 .cases h
 .obtain⟨d,I,h⟩:=qd h
  cases d with
  |inl d=>cases h
  |inr d=>
   cases h;have hl:=of_decide_eq_false Y;obtain⟨k1,k2⟩:=q3l (by omega) hb (l.getD []) 0 none rfl (Nat.zero_le _) I (fun e he=>by cases he);exact⟨by simpa[fK]using k1,k2⟩
end Go.Z
namespace Go.Z
open Go Go.Abs Go.W
theorem V8 {e:GEv}(h:jb e.er=0):(kj e.er).length<=900:=by
 have s:=Gt h;obtain⟨Y,I,_,_,h5,_⟩:=tj h;have h5:∀v∈e.values.getD [],0<=v/\v<1000000000:=fun v hv=>⟨(h5 v hv).1,by have:=(h5 v hv).2;omega⟩;have Y:1<=e.number:=Y;have I:e.number<=1000:=I;have ha:=s.n;have hb:=s.v;have hk:=s.k;rw[NZ];have l1:=Ct (l:=e.names.getD []) s.s
 have l2:=Ct (l:=(e.values.getD []).map Lib.itoa) fun w hw=>by
  obtain⟨v,hv,rfl⟩:=E9.1 hw;exact Gs (h5 v hv).1 (h5 v hv).2
 have l3:=Gs (v:=e.number) (by omega) (by omega);rw[Eg]at l2;simp only[Eh,Ho];show(Lib.itoa e.number).length+1+e.kind.length+(Lib.joinTail [32] (e.names.getD [])).length+(Lib.joinTail [32] ((e.values.getD []).map Lib.itoa)).length<=900;omega
theorem ji9 {e:GEv}(h:jb e.er=0):(yo e.er).length<=1000:=by
 have Y:=V8 h;have I:=JM e.er;omega
theorem q7z:∀ {l:List GEv},(∀e∈l,jb e.er=0)->(zj (l.map GEv.er)).length<=1001*l.length
 | [],_=>Nat.le_refl _
 |e::l,h=>by
  have Y:=ji9 (h e (E8 ..));have I:=q7z (l:=l) fun x M=>h x (Ep _ M);rw[G0,zj,Eh,En,En];omega
theorem qq6 {w:Int->Int}:∀ {l:List cf} {i:Nat} {h h':zz},zy w i h l=.ok h'->kJ i l
 | [],i,h,h',Q=>trivial
 |e::l,i,h,h',Q=>by
  simp only[zy]at Q;split at Q
  .cases Q
  rename_i hc;split at Q
  .cases Q
  .rename_i Y ha;refine⟨by simpa using hc,?_,qq6 Q⟩;unfold Go.W.accept at ha;split at ha
   .cases ha
   .rename_i hn;simpa using hn
theorem q3b {w:Int->Int}{l:List cf}{h:zz}(Q:run w l=.ok h):kJ 0 l:=by
 unfold run at Q;split at Q
 .cases Q
 .exact qq6 Q
theorem EU {w:Int->Int}{l:List cf}{h:zz}(Q:run w l=.ok h)(i:Nat):∃Y,run w (l.take i)=.ok Y:=by
 unfold run at Q ⊢;split at Q
 .cases Q
 rename_i hn;rw[if_neg (by rw[He];omega)];rw[<-G5 i l,Oy]at Q
 cases hq:zy w 0 ([],[ku]) (l.take i)with
 |error x=>rw[hq]at Q;cases Q|ok Y=>exact⟨Y,rfl⟩
theorem HC {w:Int->Int}{l:List cf}{h:zz}(Q:run w l=.ok h){i:Nat}{e:cf}{Y:zz}(M:l[i]?=Eb e)(Oz:run w (l.take i)=.ok Y):jb e=0/\e.number=(i:Int)+1/\∃I,Go.W.accept w Y ((i:Int)+1) e=.ok I/\run w (l.take (i+1))=.ok I:=by
 obtain⟨I,k⟩:=EU Q (i+1)
 have hlen:(l.take i).length=i:=by
  rw[He];have:=(Hc.1 M).1;omega
 have ht:l.take (i+1)=l.take i++[e]:=by rw[List.take_add_one,M];rfl
 have k0:=k;rw[ht]at k;have Kt:=(Vt.1 (q3b k)).2;rw[hlen,Hx]at Kt;unfold run at k Oz;split at k
 .cases k
 split at Oz
 .cases Oz
 rw[Oy,Oz]at k;simp only[zy,hlen,Hx]at k;split at k
 .cases k
 rename_i hc;split at k
 .cases k
 .rename_i h3 ha;cases k;exact⟨Kt.1,Kt.2.1,_,ha,k0⟩
def nE (e:cf):aj:=Lib.join (pg e) [32]
theorem q6q (e:cf):kj e=Lib.itoa e.number++32::nE e:=by
 unfold kj nE;rw[Lib.join_cons];unfold pg;rw[F3,Lib.join_cons];simp
theorem jou {e:cf}(h:jb e=0):eR 32 (nE e)=pg e:=
 UW 32 _ _ (NV (B7 h _ (Ep _ (E8 ..))).2 (by decide)) fun w hw=>NV (B7 h w (Ep _ (Ep _ hw))).2 (by decide)
theorem jv6 {e:cf}(h:jb e=0):nE e≠[]:=by
 unfold nE pg;rw[Lib.join_cons];have:=(B7 h e.kind (Ep _ (E8 ..))).1;simp[this]
theorem q44 {e:cf}(h:jb e=0):lP e.kind=true:=by
 obtain⟨_,_,⟨f,h3,_⟩,_⟩:=tj h;unfold lP;rcases UD e.kind with⟨g1,g2⟩|⟨f',g1,g2,_⟩
 .rw[g2]at h3;cases h3
 .rw[g1];rfl
theorem jga {w}(h:lP w=true):lA w=none:=by
 cases hq:lA w with
 |none=>rfl|some q=>rw[jem hq]at h;cases h
theorem jg5 {e:GEv}(h:jb e.er=0):(e.er.names++e.er.values.map Lib.itoa).length<=100:=by
 have s:=Gt h;have ha:=s.n;have hb:=s.v;rw[Eh,Eg];show(e.names.getD []).length+(e.values.getD []).length<=100;omega
section
variable {es:ak GEv}{o:Option HV}{h:zz}(j:aag es o h)
include j
theorem Wj {line w t q}(hl:line.length<=4096)(bI:line≠[])(G:eR 32 line=w::t)(hq:lA w=Eb q):mR o line=Eb ((vm (now h) w t).1,(vm (now h) w t).2,o):=by
 have hsl:=q97 32 line;rw[G,En]at hsl;unfold mR
 rw[yh,qk,yh,qk,uZ,qk,decide_eq_false (show ¬4096<(line.length:Int) by omega),decide_eq_false bI,show f19 line [32]=Eb (Eb (eR 32 line))from VC (by omega),G,
  show decide (hZ [if false=true then(27:Int)else 0,if false=true then 26 else 0]=0)=true from rfl,cond_true,qk,
  show qo ((Eb (w::t)).getD []) 0=Eb w from rfl,qk,hq]
 obtain⟨r2,k1,k2⟩:=q9r j.rel j.ok j.len.1;have R2:=j.rg k2
 have hw:w≠[]:=by
  intro hw;rw[hw]at hq;cases hq
 simp only[];rw[k1,qk,jp8 R2 hw (by omega) hq,qk,k2]
end
end Go.Z
namespace Go.Z
open Go Go.Abs Go.W
theorem jie (e:cf)(l:List cf):(zj (e::l)).length=(yo e).length+1+(zj l).length:=by
 rw[zj,Eh,En];omega
theorem jb1 {l:List cf}(h:kJ 0 l){r:Nat}(Q:r<=l.length):kJ 0 (l.take r)/\kJ r (l.drop r):=by
 have:=Vt.1 (show kJ 0 (l.take r++l.drop r) by rw[G5];exact h);rw[He,Hx,H2 Q]at this;exact this
theorem q7f {l:List cf}{i m:Nat}(h:i<=m):(zj (l.take i)).length<=(zj (l.take m)).length:=by
 have:l.take m=l.take i++(l.take m).drop i:=by
  have:=(G5 i (l.take m)).symm;rwa [List.take_take,H2 h]at this
 rw[this,qvy,Eh];omega
theorem ju9 {l:List cf}(h:kJ 0 l){n:Nat}(hn:n<=(zj l).length):∃m z,m<=l.length/\(∀j,j<=l.length->((zj (l.take j)).length<=n↔j<=m))/\mP ((zj l).take n)=(l.take m,(zj (l.take m)).length,z)/\(z=0\/z=29):=by
 obtain⟨m,t,Y,I,h3,h4,h5⟩:=jao h hn;refine⟨m,if t=[]then 0 else 29,Y,fun j hj=>⟨fun hle=>?_,fun hle=>?_⟩,?_,?_⟩
 .rcases Nat.lt_or_ge m j with bh|oJ
  .have:=h5 j bh hj;omega
  .exact oJ
 .have:=q7f (l:=l) hle;omega
 .rw[I,q64 (jb1 h Y).1 h3]
 .split
  .exact .inl rfl
  .exact .inr rfl
end Go.Z
namespace Go.Z
open Go Go.Abs Go.W
theorem jnv {x:Int}{n:Nat}(h0:0<=x)(hn:0<n):∃k:Nat,ol x (n:Int)=Eb (k:Int)/\k<n:=by
 obtain⟨m,rfl⟩:∃m:Nat,x=m:=⟨x.toNat,by omega⟩;refine⟨m % n,?_,Nat.mod_lt _ hn⟩;unfold ol;rw[if_neg (by omega),Int.ofNat_tmod]
theorem j1p {e:GEv}(hc:jb e.er=0):f9 e=Eb (nE e.er):=by
 have hsh:=Gt hc;have hb:=V8 hc;obtain⟨n1,n2,_,_,n5,_⟩:=tj hc;have n1:1<=e.number:=n1;have n2:e.number<=1000:=n2;have ha:=hsh.n;have hv:=hsh.v;unfold f9;rw[jr2 ⟨by omega,by omega⟩ (fun v hv=>⟨(n5 v hv).1,by have:=(n5 v hv).2;omega⟩) (by omega) (by omega) (by omega),qk,Vz (by omega) (by omega),qk];have iU:=q6q e.er;have hlen:=congrArg List.length iU;rw[Eh,En]at hlen;have hn:e.er.number=e.number:=rfl;rw[hn]at iU hlen;rw[zc (by omega),F2 (by omega),qk,iU,<-List.drop_drop,List.drop_left' rfl];rfl
theorem jjv {O:ak GEv}{h:zz}(Q:run (qf .i64) ((O.getD []).map GEv.er)=.ok h):∀e∈O.getD [],jb e.er=0:=fun e he=>(N0 Q).2 _ (Ha he)
section
variable {O:ak GEv}{h:zz}(Q:run (qf .i64) ((O.getD []).map GEv.er)=.ok h)(hn:(O.getD []).length<=20)
include Q hn
theorem jkx (i:Nat):(zj (((O.getD []).map GEv.er).take i)).length<=20020:=by
 have Y:=q7z (jjv Q);have I:=q7f (l:=(O.getD []).map GEv.er) (i:=i) (m:=max i (O.getD []).length) (by omega);rw[List.take_of_length_le (i:=max i _) (by rw[Eg];omega)]at I;omega
end
end Go.Z
namespace Go.Z
open Go Go.Abs Go.W
theorem jrs {s:aj}{E:List cf}{h:zz}(G:s.length<=90000)(hE:(mP s).1=E)(hz:(mP s).2.2=0\/(mP s).2.2=29)(Q:run (qf .i64) E=.ok h):
  ∃t o,f32 s=Eb t/\(t.1.getD []).map GEv.er=E/\t.2.2=(mP s).2.2/\f11 s=Eb (0,Eb o)/\aag t.1 o h:=by
 obtain⟨t,t1,t2⟩:=jrv G;have ht:(t.1.getD []).map GEv.er=E:=t2.1.trans hE
 have bt:∀e∈t.1.getD [],gB e:=fun e he=>by
  have:=jog G (jk7 t2 he);exact⟨by have:=this.l1;unfold SM;omega,by have:=this.l2;unfold SM;omega⟩
 obtain⟨d,d1,d2⟩:=jf3 bt;rw[ht,Q]at d2;obtain⟨o,rfl,k1,k2,k3,k4⟩:=d2;obtain⟨q1,q2⟩:=jr6 bt d1;refine⟨t,o,t1,ht,t2.2.2,?_,⟨by rw[ht];exact Q,k1,k2,k3,q1,bt,q2⟩⟩;unfold f11
 have hc:(decide (t.2.2=0)||decide (t.2.2=29))=true:=by
  rw[t2.2.2];rcases hz with hz|hz<;>rw[hz]<;>rfl
 rw[t1,qk,hc,cond_true,d1,qk]
theorem jgs {x:Int}(h:(Lit.int .u16 x).wf=true):0<=x/\x<=65535:=by
 simp only[Lit.wf,Bool.and_eq_true,decide_eq_true_eq]at h
 have e1:IntKind.min .u16=0:=by decide
 have e2:IntKind.max .u16=65535:=by decide
 omega
end Go.Z
end
