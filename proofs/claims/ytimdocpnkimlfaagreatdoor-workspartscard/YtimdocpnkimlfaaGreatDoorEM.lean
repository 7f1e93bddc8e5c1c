/- Chapter 10, plain. -/
import Derived.Test.YtimdocpnkimlfaaGreatDoorEJ
import Derived.Test.YtimdocpnkimlfaaGreatDoorW18
import Derived.Test.YtimdocpnkimlfaaGreatDoorWSJ
import Derived.Test.YtimdocpnkimlfaaGreatDoorW22
set_option linter.unusedVariables false
set_option linter.unusedSimpArgs false
set_option maxRecDepth 100000
set_option maxHeartbeats 4000000
open Option renaming some→I
open List renaming getElem?_eq_some_iff→En,getElem?_map→Ey,length_map→Gn,getElem?_eq_getElem→Gp,mem_of_getElem?→Gq
namespace Go.Z
open Go Go.Abs Go.W
variable {r:aj}{u:ay}
theorem jhc (hl:(u.uses.getD []).length≤SM):∃w,f67 u=I (jl (u.er.uses.map (·.k)),w):=by
 unfold f67 NL
 rw[Iy (f:=JD u.uses) (l:=u.uses.getD []) (g:=fun x:bq=>x.k) (q:=NM) hl (fun x _=>rfl) (fun s=>rfl)]
 exact⟨_,rfl⟩
theorem jt0 {a:Option (List (List UInt8))}{n:List UInt8}(hl:(a.getD []).length≤SM):f69 a n=I ((a.getD []).any fun x=>decide (n=x)):=by
 have h:NN a n=I (eG ((a.getD []).findIdx? fun x=>decide (n=x))):=mW (p:=fun x=>decide (n=x)) hl fun i=>rfl
 unfold f69
 rw[h,ob,xa,cA]
theorem jse {n:List UInt8}(hl:(u.uses.getD []).length≤SM):FE u n=I (oK u.er n):=by
 obtain⟨w,h⟩:=jhc hl
 unfold FE
 rw[h,ob,jt0 (by rw[j8,Gn];exact hl),ob,j8,List.any_map]
 unfold oK
 congr 2
 funext x
 by_cases e:x.k=n<;>simp[e,Ne.symm,eq_comm]
def sx (S:ju)(n:List UInt8):List (List UInt8):=(S.units.filter fun u=>oK u n).map (·.name)
theorem jjm {n}:sx r.er n=((r.units.getD []).filter fun u=>oK u.er n).map (·.name):=by
 unfold sx
 rw[mX,List.filter_map,List.map_map]
 rfl
theorem jus {n:List UInt8}(b:GB r):∃w,f80 r n=I (jl (sx r.er n),w):=by
 have h1:f70 r.units n=I (jl ((r.units.getD []).filter fun u=>oK u.er n),ic ((r.units.getD []).filter fun u=>oK u.er n)):=by
  unfold f70
  rw[Nk (f:=JE r.units n) (l:=r.units.getD []) (p:=fun u=>oK u.er n) (q:=fun u=>FE u n) (jh b.U) (fun x hx=>jse (jh (b.N x hx).1)) (fun s=>rfl)]
  rfl
 have h2:f71 (jl ((r.units.getD []).filter fun u=>oK u.er n))=I (jl (sx r.er n),ic (sx r.er n)):=by
  unfold f71
  rw[Iy (f:=JF (jl ((r.units.getD []).filter fun u=>oK u.er n))) (l:=((jl ((r.units.getD []).filter fun u=>oK u.er n)).getD [])) (g:=fun u:ay=>u.name) (q:=f73) (by rw[j8];exact qv8 (jh b.U)) (fun x _=>rfl) (fun s=>rfl),j8,jjm]
  rfl
 unfold f80
 rw[h1,ob,h2]
 exact⟨_,rfl⟩
def JG (S:ju)(k:List UInt8):Int:=S.lots.foldl (fun n x=>if decide (x.kind=k)&&!x.held then qe .i64 (n+x.left)else n) 0
theorem jt2 {k}(b:GB r):f82 r k=I (JG r.er k):=by
 unfold f82 JG
 have hl:=jh b.L
 have:=Fg (r.lots.getD []) (Ak r k) (fun i (c:Int)=>(c,(i:Int))) (fun n x=>if decide (x.kind=k)&&!x.held then qe .i64 (n+x.left)else n) (fun c=>(c,((r.lots.getD []).length:Int))) 0 (fun c=>by unfold Ak;simp only[zr];rfl)
  (fun i c x hx hi=>by
   unfold Ak
   simp only[ye hi,cond_true,qa,jb hx]
   rw[yh (by unfold SM at hl;omega)]
   cases decide (x.kind=k)<;>cases x.held<;>rfl)
 have h:bm (Ak r k) (0,0)=_:=this
 rw[h];rfl
theorem q9e {o}:decide (eG o<0)=!o.isSome:=by
 cases o with
 |none=>rfl
 |some k=>exact decide_eq_false (show ¬(k:Int)<0 by omega)
structure jpw (g g':aj)(S:ju)(n:List UInt8)(k:Nat)(pu JH:ay)(m:List (List UInt8))(e:Int):Prop where
 Yl:qr (g.units.getD []) (k:Int)=I pu
 at2:qr (g'.units.getD []) (k:Int)=I JH
 er:pu.er=JH.er
 u1:(pu.uses.getD []).length≤SM
 u2:(JH.uses.getD []).length≤SM
 m1:∃w,f78 g pu=I (jl m,w)
 m2:∃w,Fh g' JH=I (jl m,w)
 ml:m.length≤SM
 r1:f79 g pu=I e
 r2:f266 g' JH=I e
theorem jf1 {D:bL}{u}(h:(D.az.getD []).length≤SM):(mY D.er u).length≤SM:=by
 unfold mY
 rw[Gn]
 exact Nat.le_trans (List.length_filter_le _ _) h
end Go.Z
namespace Go.Z
open Go Go.Abs Go.W
structure fp (l:Option (List GEv))(h:kl):Prop where
 hb:∀e∈l.getD [],qF e
 hr:run (qe .i64) ((l.getD []).map GEv.er)=.ok h
theorem fp.ok {l h}(j:fp l h):eH (qe .i64) h:=js2 j.hr
theorem fp.sb {l h}(j:fp l h):SB h.1.length (now h)∧h.1.length≤BB:=by
 obtain⟨d,d1,d2⟩:=Yk j.hb
 rw[j.hr]at d2
 obtain⟨s,q,rfl,k1,k2,k3,k4,k5⟩:=d2
 exact⟨k4 _ _ k3.now,by unfold BB;omega⟩
theorem fp.hbs {l h}(j:fp l h):HB h∧h.1.length≤1000:=by
 obtain⟨d,d1,d2⟩:=Yk j.hb
 rw[j.hr]at d2
 obtain⟨s,q,rfl,k1,k2,k3,k4,k5⟩:=d2
 exact⟨k4,k5⟩
theorem fp.gb {l h}(j:fp l h){g:aj}(he:g.er=now h):GB g:=SB.gb (by rw[he];exact j.sb.1) j.sb.2
theorem fp.wf {l h}(j:fp l h):WF (now h):=j.ok.su
theorem fp.xj {l h}(j:fp l h):eX (now h):=j.ok.Cy
theorem fp.cq {l h}(j:fp l h):∃g,f16 l=I (g,0,0)∧g.er=now h∧GB g:=by
 obtain⟨⟨g,i,bad⟩,p1,p2⟩:=jt4 j.hb
 rw[j.hr]at p2
 have h1:g.er=now h:=congrArg Prod.fst p2
 have h2:i=0:=congrArg (fun x=>x.2.1) p2
 have h3:bad=0:=congrArg (fun x=>x.2.2) p2
 subst h2 h3
 exact⟨g,p1,h1,j.gb h1⟩
theorem jgb {y:Int}:ie [0,y]=y:=by by_cases h:y=0<;>simp[ie,h]
theorem q84 {a b:Int}:f46 (I [a,b])=I (ie [a,b]):=jH (by simp[SM])
theorem jre {l h}(j:fp l h){n:List UInt8}{k:Nat}(hk:zp (now h) n=I k):∃g pu m e,f74 l n=I (g,(k:Int),0)∧jpw g g (now h) n k pu pu m e∧(now h).units[k]?=I pu.er∧g.er=now h∧GB g∧e=lE (qe .i64) (now h) pu.er∧∃d,ky (now h) pu.er=I d∧m=mY d pu.er:=by
 obtain⟨g,p9,he,b⟩:=j.cq
 have w:WF g.er:=by rw[he];exact j.wf
 rw[←he]at hk
 obtain⟨pu,h1,_,h3⟩:=qB hk
 obtain⟨D,v,o⟩:=Co b w h1
 obtain⟨w1,m1⟩:=jfg o.doc (jh o.results) (jh o.az) o.bG
 obtain⟨w2,m2⟩:=q9k o.sd (jh o.results) (jh o.az)
 rw[←he]
 refine⟨g,pu,mY D.er pu.er,lE (qe .i64) g.er pu.er,?_,⟨jb h1,jb h1,rfl,jh o.uses,jh o.uses,⟨w1,m1⟩,⟨w2,m2⟩,jf1 (jh o.az),?_,?_⟩,h3,rfl,b,rfl,D.er,o.xe,rfl⟩
 ·unfold f74
  rw[p9,ob,decide_eq_true rfl,cond_true,wY (jh b.U),ob,hk,q9e,kI];rfl
 ·exact jha (jh b.P) o.new (jh b.L) (jh o.uses) o.lots o.doc o.xe (jh o.aK) (jh o.results) (jh o.az) o.bG
 ·exact q8z (jh b.P) o.new (jh b.L) (jh o.uses) o.lots o.sd o.xe (jh o.aK) (jh o.results) (jh o.az)
theorem fp.made {l h}(j:fp l h){n:List UInt8}{k:Nat}{u:aW}(hk:zp (now h) n=I k)(hu:(now h).units[k]?=I u):
  f21 l n=I (jl (u.uses.map (·.k)),0)∧f25 l n=I (lE (qe .i64) (now h) u)∧(∃d,ky (now h) u=I d∧f24 l n=I (jl (mY d u),0))∧u.uses.length≤SM:=by
 obtain⟨g,pu,m,e,AY,U,h3,he,b,rfl,d,hd,rfl⟩:=jre j hk
 rw[hu]at h3
 cases h3
 obtain⟨w1,m1⟩:=U.m1
 obtain⟨w3,d1⟩:=jhc U.u1
 refine⟨?_,?_,⟨d,hd,?_⟩,by simpa[ay.er]using U.u1⟩
 ·unfold f21;rw[AY,ob,decide_eq_true rfl,cond_true,U.Yl,ob,d1];rfl
 ·unfold f25;rw[AY,ob,decide_eq_true rfl,cond_true,U.Yl,ob,U.r1];rfl
 ·unfold f24;rw[AY,ob,decide_eq_true rfl,cond_true,U.Yl,ob,m1];rfl
theorem fp.used {l h}(j:fp l h){n:List UInt8}(hk:(zt (now h) n).isSome=true):f27 l n=I (jl (sx (now h) n),0):=by
 obtain⟨g,p9,he,b⟩:=j.cq
 unfold f27
 obtain⟨w,Em⟩:=jus (n:=n) b
 rw[p9,ob,B6 (jh b.L),ob,kI,ob,q84,ob,jgb,q9e,he,hk]
 rw[he]at Em
 rw[Em];rfl
theorem fp.JI {l h}(j:fp l h){n:List UInt8}(hk:Go.W.cG n=true):f28 l n=I (JG (now h) n,0):=by
 obtain⟨g,p9,he,b⟩:=j.cq
 unfold f28
 rw[p9,ob,jfk,Ya,ob,kI,ob,q84,ob,jgb,hk,←he]
 show cond (decide ((0:Int)=0)) _ _=_
 rw[decide_eq_true rfl,cond_true,jt2 b];rfl
theorem fp.take {l:List GEv}{h}(j:fp (I l) h)(m:Nat)(hm:m≤l.length):∃q,fp (I (l.take m)) q:=by
 have hr:=j.hr
 simp only[Option.getD_some]at hr
 rw[←List.take_append_drop m l,List.map_append]at hr
 obtain⟨q,q1,_⟩:=Ym hr
 exact⟨q,fun e he=>j.hb e (List.mem_of_mem_take he),q1⟩
end Go.Z
namespace Go.Z
open Go Go.Abs Go.W
theorem sA {σ δ:Type}{f:σ→Option (σ⊕δ)}(st:Nat→σ){n:Nat}{d:δ}(hs:∀i,i<n→f (st i)=I (.inl (st (i+1))))(he:f (st n)=I (.inr d)):bm f (st 0)=I d:=by
 have key:∀(k i:Nat),i+k=n→bm f (st i)=I d:=by
  intro k
  induction k with
  |zero=>intro i hi;rw[show i=n by omega];exact ki he
  |succ k ih=>intro i hi;rw[oA (hs i (by omega))];exact ih (i+1) (by omega)
 exact key n 0 (by omega)
theorem q0r {α ε:Type}{l:List α}{p:α→Bool}{f:Int→Option (Int⊕(ε⊕Int))}{e:ε}(dD:f (l.length:Int)=I (.inr (.inr (l.length:Int))))
  (hs:∀(i:Nat) x,l[i]?=I x→f (i:Int)=I (if p x then .inr (.inl e)else .inl ((i+1:Nat):Int))):bm f 0=I (if l.any p then .inl e else .inr (l.length:Int)):=by
 have key:∀(m:List α) (i:Nat),l.drop i=m→i≤l.length→bm f (i:Int)=I (if m.any p then .inl e else .inr (l.length:Int)):=by
  intro m
  induction m with
  |nil=>
   intro i hm hi
   have:i=l.length:=by have:=List.drop_eq_nil_iff.1 hm;omega
   subst this
   exact ki dD
  |cons x m ih=>
   intro i hm hi
   have hx:l[i]?=I x:=by
    have:=congrArg List.head? hm
    rwa [List.head?_drop]at this
   have Af:l.drop (i+1)=m:=by rw[rW hx]at hm;exact(List.cons.inj hm).2
   have fC:=(En.1 hx).1
   have h:=hs i x hx
   rw[List.any_cons]
   cases hp:p x with
   |true=>rw[hp]at h;exact ki h
   |false=>
    rw[hp]at h
    rw[oA h,Bool.false_or]
    exact ih (i+1) Af fC
 exact key l 0 rfl (Nat.zero_le _)
theorem oL {i n:Nat}(h:i<n)(hn:n≤SM):qe .i64 ((i:Int)+1)=((i+1:Nat):Int):=yh (by unfold SM at hn;omega)
theorem Yn {L:Option (List (List UInt8))}{w:List UInt8}(hl:(L.getD []).length≤SM):f22 L w=I ((L.getD []).any fun n=>decide (n=w)):=by
 unfold f22
 rw[q0r (l:=L.getD []) (p:=fun n=>decide (n=w)) (e:=()) (by unfold FF;rw[zr];rfl) (fun i x hx=>by
  have hi:=(En.1 hx).1
  unfold FF
  simp only[ye hi,cond_true,jb hx,ob,oL hi hl]
  cases decide (x=w)<;>rfl),ob]
 cases (L.getD []).any fun n=>decide (n=w)<;>rfl
theorem jfr {l n}(hn:n≤1000):∃b,f11 l (n:Int)=I b∧(b=true→(l.getD []).length≤n∧∃h,fp l h):=by
 obtain⟨b1,h1,k1⟩:=juz (l:=l) hn
 unfold f11
 rw[h1,ob]
 cases b1 with
 |false=>exact⟨false,rfl,fun h=>by cases h⟩
 |true=>
  obtain⟨l1,hb⟩:=k1 rfl
  obtain⟨⟨g,i,bad⟩,p1,p2⟩:=jyx hb
  rw[p1,cond_true,ob]
  refine⟨_,rfl,fun h=>⟨l1,?_⟩⟩
  have h:bad=0:=by simpa using h
  subst h
  cases hr:run (qe .i64) ((l.getD []).map GEv.er)with
  |ok q=>exact⟨q,hb,hr⟩
  |error x=>
   exfalso
   rw[hr]at p2
   obtain⟨d,d1,d2⟩:=je5 hb
   rw[hr]at d2
   exact d2.2 (congrArg (fun x=>x.2.2) p2).symm
theorem fp.short {l h}(j:fp l h):h.1.length≤(l.getD []).length:=by
 have:=je3 j.hr
 rwa [Gn]at this
theorem q8a {u:ay}{v:bL}{s1:Int}{t:je}(hl:(u.results.getD []).length≤SM):bm (Al u v s1 t) (false,0)=I (iW u.er t,((u.results.getD []).length:Int)):=by
 have:=sA (f:=Al u v s1 t) (fun i=>(((u.results.getD []).take i).foldl (fun is x=>if decide (x.k=t.k)&&decide (x.a=u.version)then decide (t.a≤x.b)&&decide (x.b≤t.b)else is) false,(i:Int))) (n:=(u.results.getD []).length) (d:=(iW u.er t,((u.results.getD []).length:Int))) (fun i hi=>by
  have hx:=Gp hi
  unfold Al
  simp only[ye hi,cond_true,jb hx,ob,oL hi hl]
  rw[IG hx]
  cases h1:decide ((u.results.getD [])[i].k=t.k)with
  |false=>rfl
  |true=>
   cases h2:decide ((u.results.getD [])[i].a=u.version)with
   |false=>rfl
   |true=>
    cases h3:decide (t.a≤(u.results.getD [])[i].b)<;>rfl) (by
  unfold Al
  simp only[zr,cond_false,List.take_length]
  rfl)
 exact this
theorem jj7 {u:ay}{r:aj}(b:GB r)(hr:(u.results.getD []).length≤SM)(hj:wi u.er r.er.ae=true):f26 u r.ae=I true:=by
 have hk:∃k:Nat,∃p:aS,r.er.ae.findIdx? (fun x=>decide (x.name=u.product))=I k∧(r.ae.getD [])[k]?=I p:=by
  cases hk:r.er.ae.findIdx? (fun x=>decide (x.name=u.product))with
  |none=>
   exfalso
   have h0:∀l:List lj,(∀x∈l,x.name≠u.product)→wi u.er l=false:=by
    intro l
    induction l with
    |nil=>intro _;rfl
    |cons x l ih=>
     intro h
     rw[wi,if_pos (show x.name≠u.er.product from h x (List.mem_cons_self ..))]
     exact ih fun y hy=>h y (List.mem_cons_of_mem _ hy)
   rw[h0 _ fun x hx e=>by
    have:=(dk.1 hk) x hx
    simp[e]at this]at hj
   cases hj
  |some k=>
   obtain⟨x,h1,_⟩:=bg hk
   rw[rZ,Ey]at h1
   cases hp:(r.ae.getD [])[k]? with
   |none=>rw[hp]at h1;cases h1
   |some p=>exact⟨k,p,rfl,hp⟩
 obtain⟨k,p,hk,hp⟩:=hk
 obtain⟨x,x1,x2,x3,x4⟩:=bg hk
 have Ac:r.er.ae[k]?=I p.er:=by rw[rZ,Ey,hp];rfl
 rw[Ac]at x1
 cases x1
 have hn:p.name=u.product:=(show p.er.name=u.product by simpa using x2)
 rw[Yo (u:=u.er) hk Ac]at hj
 split at hj
 ·cases hj
 rename_i hv
 have mI:((p.aM.getD []).length:Int)=u.version:=by
  have:(((p.aM.getD []).map bL.er).length:Int)=u.version:=by
   have:=Classical.not_not.1 fun e=>hv (.inl e)
   exact this
  rwa [Gn]at this
 have xk:¬u.version<1:=fun e=>hv (.inr e)
 split at hj
 ·cases hj
 rename_i d hd
 have hd:((p.aM.getD []).map bL.er)[(u.version-1).toNat]?=I d:=hd
 rw[Ey]at hd
 cases hD:(p.aM.getD [])[(u.version-1).toNat]? with
 |none=>rw[hD]at hd;cases hd
 |some D=>
 rw[hD]at hd
 have hd:D.er=d:=I.inj hd
 subst hd
 have cR:=Gq hp
 have hB:=b.D p cR
 have hDm:=hB.2.2.2 D (Gq hD)
 have br:=(En.1 hD).1
 have hix:qr (p.aM.getD []) (qe .i64 (u.version-1))=I D:=by
  rw[MS (by omega) (by have:=hB.1;unfold BB at this;omega),show u.version-1=((u.version-1).toNat:Int) by omega]
  exact jb hD
 have Cz:bm (Am u D) 0=I (.inr ((D.az.getD []).length:Int)):=by
  have:=q0r (l:=D.az.getD []) (p:=fun t=>!iW u.er t) (f:=Am u D) (e:=()) (by unfold Am;rw[zr];rfl) (fun i x hx=>by
   have hi:=(En.1 hx).1
   unfold Am
   simp only[ye hi,cond_true,jb hx,ob,q8a hr,oL hi (jh hDm.2)]
   cases iW u.er x<;>rfl)
  rw[this]
  have ha:((D.az.getD []).any fun t=>!iW u.er t)=false:=by
   rw[List.any_eq_false]
   intro t ht
   have:=List.all_eq_true.1 hj t ht
   simp[this]
  rw[ha];rfl
 unfold f26
 have:bm (Ao u r.ae) 0=I (.inl true):=by
  have hkl:=(En.1 hp).1
  have:=sA (f:=Ao u r.ae) (fun i=>(i:Int)) (n:=k) (d:=.inl true) (fun i hi=>by
   have hx:=Gp (show i<(r.ae.getD []).length by omega)
   have bB:(r.ae.getD [])[i].name≠u.product:=fun e=>by
    have:=x4 i ((r.ae.getD [])[i]).er hi (by rw[rZ,Ey,hx];rfl)
    rw[show((r.ae.getD [])[i]).er.name=(r.ae.getD [])[i].name from rfl,e]at this
    simp at this
   unfold Ao
   simp only[ye (show i<(r.ae.getD []).length by omega),cond_true,jb hx,ob,decide_eq_false bB,cond_false,oL (show i<(r.ae.getD []).length by omega) (jh b.P)]) (by
   unfold Ao
   simp only[ye hkl,cond_true,jb hp,ob,decide_eq_true hn,decide_eq_true mI,decide_eq_false xk,cond_false,hix,Cz])
  exact this
 rw[this];rfl
end Go.Z
