/- Chapter 10, plain. -/
import Derived.Test.YtfopaakmgogpiaaGreatDoorE1
import Derived.Test.YtfopaakmgogpiaaGreatDoorV3
set_option linter.unusedVariables false
set_option linter.unusedSimpArgs false
set_option maxRecDepth 100000
namespace Go.Z
open Go Go.Abs Go.W
variable {r:qc}{u:qe}{D:qq}
theorem q2p {k:List UInt8}{v:Int}:∀l:List (List UInt8×Int),(qfs l k v).length≤l.length+1
 | []=>Nat.le_refl _
 |p::l=>by
  unfold qfs
  split
  ·simp
  ·simp only[List.length_cons];exact Nat.succ_le_succ (q2p l)
theorem q9l {α γ:Type}{l:List α}{i:Nat}{x:α}(hx:l[i]?=some x)(g:γ→α→γ)(c:γ):(l.take (i+1)).foldl g c=g ((l.take i).foldl g c) x:=by
 rw[List.take_add_one,hx,List.foldl_append];rfl
theorem jjb (hL:(r.lots.getD []).length≤SM)(hu:(u.uses.getD []).length≤SM)(hw:∀x∈u.uses.getD [],(qaj r.er x.k).isSome=true):∃M,itO (qjv r u qqn) (0,[])=some (((u.uses.getD []).length:Int),M)∧∀kind,qhd M kind=qpv (j8 .i64) r.er u.er kind:=by
 let g:List (List UInt8×Int)→qm→List (List UInt8×Int):=fun c x=>match qgc r.er x.k with
  |some y=>qfs c y.kind (j8 .i64 (qhd c y.kind+x.n))
  |none=>c
 let I:Nat→List (List UInt8×Int)→Prop:=fun i M=>M.length≤i∧∀kind,qhd M kind=((u.uses.getD []).take i).foldl (qug r.er kind) 0
 have hg:∀i x c,(u.uses.getD [])[i]?=some x→I i c→I (i+1) (g c x)∧∃y,qgc r.er x.k=some y∧qqn c y x.n=some (g c x):=by
  intro i x c hx hI
  obtain⟨y,hy⟩:=qi3 (hw x (List.mem_of_getElem? hx))
  have hi:=(List.getElem?_eq_some_iff.1 hx).1
  have hgc:g c x=qfs c y.kind (j8 .i64 (qhd c y.kind+x.n)):=by simp only[g,hy]
  rw[hgc]
  refine⟨⟨Nat.le_trans (q2p _) (Nat.succ_le_succ hI.1),fun kind=>?_⟩,y,hy,?_⟩
  ·rw[q9l hx,jfr,←hI.2 kind]
   unfold qug
   rw[hy]
   simp only[Option.any_some]
   by_cases hk:kind=y.kind
   ·subst hk;simp
   ·have hk2:¬y.kind=kind:=fun h=>hk h.symm
    simp[hk,hk2]
  ·unfold qqn q9n
   rw[if_pos (by have:=hI.1;unfold SM at hu;omega)]
 have:=q5w (step:=qqn) (g:=g) I hL hu hg [] ⟨Nat.le_refl _,fun kind=>rfl⟩
 have hI:∀(k i:Nat) (c:List (List UInt8×Int)),i+k=(u.uses.getD []).length→I i c→I (u.uses.getD []).length (((u.uses.getD []).drop i).foldl g c):=by
  intro k
  induction k with
  |zero=>
   intro i c hi hc
   have:i=(u.uses.getD []).length:=by omega
   subst this
   rw[List.drop_eq_nil_of_le (Nat.le_refl _)];exact hc
  |succ k ih=>
   intro i c hi hc
   obtain⟨x,hx⟩:∃x,(u.uses.getD [])[i]?=some x:=⟨_,List.getElem?_eq_getElem (by omega)⟩
   rw[qda hx,List.foldl_cons]
   exact ih (i+1) _ (by omega) (hg i x c hx hc).1
 have h2:=hI _ 0 [] (Nat.zero_add _) ⟨Nat.le_refl _,fun kind=>rfl⟩
 rw[List.drop_zero]at h2
 refine⟨_,this,fun kind=>?_⟩
 rw[h2.2 kind,List.take_length]
 rfl
theorem qfk (o:Option Nat):decide (0≤ixI o)=o.isSome:=by
 cases o with
 |none=>rfl
 |some k=>exact dT (by show(0:Int)≤(k:Int);omega)
theorem isSome_findIdx? {α:Type}{p:α→Bool}{l:List α}:(l.findIdx? p).isSome=l.any p:=by rw[any_findIdx]
theorem jdh {l:Option (List qm)}{M:List (List UInt8×Int)}(hl:(l.getD []).length≤SM):qws l M=some ((l.getD []).any fun n=>decide (qhd M n.k<n.n)):=by
 have:qx4 l M=some (ixI ((l.getD []).findIdx? fun n=>decide (qhd M n.k<n.n))):=by
  unfold qx4
  exact qcw (p:=fun n=>decide (qhd M n.k<n.n)) hl fun i=>rfl
 unfold qws
 rw[this]
 simp only[jy,qfk,isSome_findIdx?]
theorem jhl (hL:(r.lots.getD []).length≤SM)(hu:(u.uses.getD []).length≤SM)(hw:∀x∈u.uses.getD [],(qaj r.er x.k).isSome=true)(hd:f134 r u=some D)(hn:(D.needs.getD []).length≤SM):f141 r u=some (qej (j8 .i64) r.er D.er u.er):=by
 obtain⟨M,h1,h2⟩:=jjb hL hu hw
 unfold f141
 rw[h1,hd]
 simp only[jy,jdh hn,Option.some.injEq]
 unfold qej
 rw[show D.er.needs=D.needs.getD []from rfl]
 induction D.needs.getD []with
 |nil=>rfl
 |cons n l ih=>
  rw[List.any_cons,List.all_cons,Bool.not_or,ih,h2]
  congr 1
  by_cases h:qpv (j8 .i64) r.er u.er n.k<n.n
  ·rw[dT h,dF (by omega)];rfl
  ·rw[dF h,dT (by omega)];rfl
theorem jk7 (hL:(r.lots.getD []).length≤SM)(hu:(u.uses.getD []).length≤SM)(hw:∀x∈u.uses.getD [],(qaj r.er x.k).isSome=true)(hd:f78 r u=some D)(hn:(D.needs.getD []).length≤SM):f81 r u=some (qej (j8 .i64) r.er D.er u.er):=by
 unfold f81
 rw[hd]
 simp only[jy]
 obtain⟨d,h1,h2⟩:=qvd (D.needs.getD []) (qrb r u D) (fun n=>decide (n.n≤qpv (j8 .i64) r.er u.er n.k)) (fun d=>match d with | .inl _=>false | .inr _=>true) ⟨.inr ((D.needs.getD []).length:Int),by unfold qrb;simp only[qag];rfl,rfl⟩ (fun i x hx hi=>by
  unfold qrb
  simp only[qaz hi,cT,jy,ye hx,jhz hL hu hw]
  rw[qax (by unfold SM at hn;omega)]
  by_cases h:qpv (j8 .i64) r.er u.er x.k<x.n
  ·exact .inr ⟨dF (by omega),.inl (),by rw[dT h];rfl,rfl⟩
  ·exact .inl ⟨dT (by omega),by rw[dF h];rfl⟩)
 rw[h1]
 unfold qej
 rw[show D.er.needs=D.needs.getD []from rfl,←h2]
 cases d<;>rfl
def qtv (r:qv)(us:List qm):List qj:=us.map fun x=>(qgc r x.k).getD ⟨[],[],0,0,false⟩
theorem jck (hL:(r.lots.getD []).length≤SM)(hu:(u.uses.getD []).length≤SM)(hw:∀x∈u.uses.getD [],(qaj r.er x.k).isSome=true):itO (qjv r u p75) (0,none)=some (((u.uses.getD []).length:Int),y7 (qtv r.er (u.uses.getD []))):=by
 let gx:qm→qj:=fun x=>(qgc r.er x.k).getD ⟨[],[],0,0,false⟩
 let g:Option (List qj)→qm→Option (List qj):=fun c x=>y7 (c.getD []++[gx x])
 have:=q5w (step:=p75) (g:=g) (fun i c=>∃a:List qj,c=y7 a∧a.length=i) hL hu (fun i x c hx hI=>by
  obtain⟨a,rfl,ha⟩:=hI
  have hi:=(List.getElem?_eq_some_iff.1 hx).1
  obtain⟨y,hy⟩:=qi3 (hw x (List.mem_of_getElem? hx))
  have hgx:gx x=y:=by simp only[gx,hy,Option.getD_some]
  refine⟨⟨a++[y],by simp only[g,hgx,qae],by simp[ha]⟩,y,hy,?_⟩
  unfold p75
  rw[qwa (by unfold SM at hu;omega)]
  simp only[g,hgx,qae]) none ⟨[],rfl,rfl⟩
 rw[this]
 congr 2
 have key:∀(l:List qm) (a:List qj),l.foldl g (y7 a)=y7 (a++l.map gx):=by
  intro l
  induction l with
  |nil=>intro a;simp
  |cons x l ih=>
   intro a
   rw[List.foldl_cons,show g (y7 a) x=y7 (a++[gx x]) by simp only[g,qae],ih,List.map_cons,List.append_assoc];rfl
 have:=key (u.uses.getD []) []
 rw[List.nil_append]at this
 exact this
theorem q42 (hw:∀x∈u.uses.getD [],(qaj r.er x.k).isSome=true):qmq r.er u.er=!((qtv r.er (u.uses.getD [])).filter (·.held)).isEmpty:=by
 unfold qmq qtv
 rw[show u.er.uses=u.uses.getD []from rfl]
 revert hw
 generalize u.uses.getD []=us
 intro hw
 induction us with
 |nil=>rfl
 |cons x l ih=>
  obtain⟨y,hy⟩:=qi3 (hw x (List.mem_cons_self ..))
  rw[List.any_cons,ih (fun x hx=>hw x (List.mem_cons_of_mem _ hx)),List.map_cons,List.filter_cons,hy]
  simp only[Option.any_some,Option.getD_some]
  cases y.held<;>rfl
theorem qcu {b:Bool}{e:Int}:f53 b e=some (if b then e else 0):=by unfold f53;cases b<;>rfl
theorem jib {l:List qj}(hl:l.length≤SM):f142 (y7 l)=some (y7 (l.filter (·.held)),qct (l.filter (·.held))):=by
 unfold f142
 rw[qzs (f:=qr2 (y7 l)) (l:=(y7 l).getD []) (p:=fun x:qj=>x.held) (q:=fun x=>f143 x) (by rw[qae];exact hl) (fun x _=>rfl) (fun s=>rfl),qae]
 rfl
def qb7:List Int→Int
 | []=>0
 |e::l=>if e=0 then qb7 l else e
theorem qbz {l:List Int}(hl:l.length≤SM):f51 (some l)=some (qb7 l):=by
 unfold f51
 have:=qsk l.length (fun i=>(i:Int)) (qqi (some l)) (fun d=>match d with | .inl k=>k | .inr _=>(0:Int)) (fun i=>qb7 (l.drop i)) ⟨.inr (l.length:Int),by unfold qqi;simp only[Option.getD_some,qag];rfl,by rw[List.drop_eq_nil_of_le (Nat.le_refl _)];rfl⟩ (fun i hi=>by
  obtain⟨x,hx⟩:∃x,l[i]?=some x:=⟨_,List.getElem?_eq_getElem hi⟩
  unfold qqi
  simp only[Option.getD_some,qaz hi,cT,jy,ye hx,qda hx,qb7]
  by_cases h0:x=0
  ·simp only[h0,decide_true,cT,if_true]
   rw[qax (by unfold SM at hl;omega)]
   left;constructor<;>first|rfl|trivial
  ·simp only[h0,decide_false,cF,if_false]
   exact .inr ⟨_,rfl,rfl⟩)
 obtain⟨d,h1,h2⟩:=this
 rw[show((0:Int))=((0:Nat):Int)from rfl,h1]
 rw[List.drop_zero]at h2
 simp only[jy]
 rw[←h2]
 cases d<;>rfl
theorem qwx {α:Type}{l:List α}:decide (0<(((y7 l).getD []).length:Int))=!l.isEmpty:=by
 rw[qae]
 cases l with
 |nil=>rfl
 |cons x l=>simp
theorem q0n {w:Int→Int}{r:qv}{u:qz}{d:jf}{v:Int}(hd:qdh r u=some d)(hv:qgq r u=some v):qhp w r u=if u.shipped then 21 else if u.version≠v then 32 else if !qej w r d u then 20 else if !(qgm d u).isEmpty then 31 else if qmq r u then 34 else 0:=by
 unfold qhp
 rw[hd,hv]
 cases u.shipped
 ·by_cases h:u.version=v
  ·simp[h]
  ·simp[h,Ne.symm h]
 ·rfl
theorem jj7 {v:Int}(hP:(r.products.getD []).length≤SM)(hv0:qgq r.er u.er=some v)(hL:(r.lots.getD []).length≤SM)(hu:(u.uses.getD []).length≤SM)(hw:∀x∈u.uses.getD [],(qaj r.er x.k).isSome=true)(hd:f134 r u=some D)(hp:qdh r.er u.er=some D.er)(hn:(D.needs.getD []).length≤SM)(hr:(u.results.getD []).length≤SM)(ht:(D.tests.getD []).length≤SM)(hv:u.version≠-1):f75 r u=some (qhp (j8 .i64) r.er u.er):=by
 obtain⟨w,hm⟩:=jnu hd hr ht hv
 have hll:(qtv r.er (u.uses.getD [])).length≤SM:=by unfold qtv;rw[List.length_map];exact hu
 unfold f75
 rw[jck hL hu hw]
 simp only[jy,qcu,(qnk hP hv0).1,jhl hL hu hw hd hn,hm,jib hll,qwx]
 rw[qbz (by simp[SM]),q0n hp hv0,q42 hw]
 congr 1
 show qb7 _=if u.shipped then 21 else if u.version≠v then 32 else _
 cases u.shipped<;>by_cases h1:u.version=v<;>cases qej (j8 .i64) r.er D.er u.er<;>cases (qgm D.er u.er).isEmpty<;>cases ((qtv r.er (u.uses.getD [])).filter (·.held)).isEmpty<;>simp[qb7,h1]
theorem jex (hL:(r.lots.getD []).length≤SM)(hu:(u.uses.getD []).length≤SM)(hw:∀x∈u.uses.getD [],(qaj r.er x.k).isSome=true):(jy (itO (qno r u) 0) fun d=>match d with | .inl _=>some (34:Int) | .inr _=>some 0)=some (if qmq r.er u.er then 34 else 0):=by
 obtain⟨d,h1,h2⟩:=qvd (u.uses.getD []) (qno r u) (fun x=>!(qgc r.er x.k).any (·.held)) (fun d=>match d with | .inl _=>false | .inr _=>true) ⟨.inr ((u.uses.getD []).length:Int),by unfold qno;simp only[qag];rfl,rfl⟩ (fun i x hx hi=>by
  obtain⟨y,hy⟩:=qi3 (hw x (List.mem_of_getElem? hx))
  obtain⟨k,h3,h4⟩:=qzx hy
  unfold qno
  simp only[qaz hi,cT,jy,ye hx,qrx hL,h3,ixI,ye h4,hy,Option.any_some]
  rw[qax (by unfold SM at hu;omega)]
  cases y.held with
  |true=>exact .inr ⟨rfl,.inl (),rfl,rfl⟩
  |false=>exact .inl ⟨rfl,rfl⟩)
 rw[h1]
 have h3:qmq r.er u.er=!((u.uses.getD []).all fun x=>!(qgc r.er x.k).any (·.held)):=by
  unfold qmq
  rw[show u.er.uses=u.uses.getD []from rfl]
  induction u.uses.getD []with
  |nil=>rfl
  |cons x l ih=>rw[List.any_cons,List.all_cons,ih,Bool.not_and,Bool.not_not]
 rw[h3,←h2]
 cases d<;>rfl
theorem jks {v:Int}(hP:(r.products.getD []).length≤SM)(hv0:qgq r.er u.er=some v)(hL:(r.lots.getD []).length≤SM)(hu:(u.uses.getD []).length≤SM)(hw:∀x∈u.uses.getD [],(qaj r.er x.k).isSome=true)(hd:f78 r u=some D)(hp:qdh r.er u.er=some D.er)(hn:(D.needs.getD []).length≤SM)(hr:(u.results.getD []).length≤SM)(ht:(D.tests.getD []).length≤SM):f31 r u=some (qhp (j8 .i64) r.er u.er):=by
 rw[q0n hp hv0]
 unfold f31
 cases hs:u.shipped with
 |true=>rw[show u.er.shipped=true from hs];rfl
 |false=>
  have hu':(⟨u.name,u.product,u.version,u.uses,u.results,u.partner,false,u.complaints⟩:qe)=u:=by cases u;simp only at hs;rw[hs]
  rw[show u.er.shipped=false from hs,hu']
  obtain⟨w,hm⟩:=jl0 (r:=r) (u:=u) hd hr ht
  simp only[cF,jy,(qnk hP hv0).2,jk7 hL hu hw hd hn,hm,qwx,Bool.false_eq_true,if_false]
  have hh:=jex hL hu hw
  simp only[jy]at hh
  by_cases h1:u.version=v
  ·rw[dT h1,if_neg (show ¬u.er.version≠v from fun h=>h h1)]
   simp only[cT]
   cases qej (j8 .i64) r.er D.er u.er
   ·rfl
   ·simp only[cT,Bool.not_true,Bool.false_eq_true,if_false]
    cases (qgm D.er u.er).isEmpty
    ·rfl
    ·simp only[Bool.not_true,cF,Bool.false_eq_true,if_false]
     exact hh
  ·rw[dF h1,if_pos (show u.er.version≠v from h1)]
   rfl
end Go.Z
namespace Go.Z
open Go Go.Abs Go.W
theorem qjb {α:Type}{o:Option (List α)}{ys:List α}(h:(o.getD []).length+ys.length≤SM)(hy:ys≠[]):apO o ys=some (some (o.getD []++ys)):=by
 unfold apO apS
 rw[if_pos h]
 cases o<;>cases ys<;>first|exact absurd rfl hy|rfl
theorem qgk {α:Type}{ys:List α}(h:ys.length≤SM):apO (some []) ys=some (some ys):=by
 unfold apO apS
 rw[if_pos (by simpa using h)]
 cases ys<;>rfl
theorem qgp {α:Type}{o:Option (List α)}{x:α}(h:(o.getD []).length<SM):(jy (cond o.isNone (some (none,false)) (jy (apO (some []) (o.getD [])) fun v=>some (v,true))) fun v1=>cond v1.2 (jy (apO v1.1 [x]) fun v4=>some v4) (cond v1.1.isNone (jy (apO v1.1 [x]) fun v7=>some v7) none))=some (some (o.getD []++[x])):=by
 cases o with
 |none=>rfl
 |some l=>
  have h':l.length<SM:=h
  simp only[Option.isNone_some,cF,Option.getD_some]
  rw[qgk (by omega)]
  simp only[jy,cT]
  rw[qjb (o:=some l) (by simp only[Option.getD_some,List.length_singleton];omega) (by simp)]
  rfl
theorem jg4 {o:Option (List qj)}{x:qj}(h:(o.getD []).length<SM):f164 o x=some (some (o.getD []++[x])):=qgp h
theorem ji7 {o:Option (List qk)}{x:qk}(h:(o.getD []).length<SM):f166 o x=some (some (o.getD []++[x])):=qgp h
theorem jiq {o:Option (List qe)}{x:qe}(h:(o.getD []).length<SM):f183 o x=some (some (o.getD []++[x])):=qgp h
theorem jhw {o:Option (List qq)}{x:qq}(h:(o.getD []).length<SM):f180 o x=some (some (o.getD []++[x])):=qgp h
theorem jix {o:Option (List qm)}{x:qm}(h:(o.getD []).length<SM):f239 o x=some (some (o.getD []++[x])):=qgp h
theorem ji5 {o:Option (List qi)}{x:qi}(h:(o.getD []).length<SM):f243 o x=some (some (o.getD []++[x])):=qgp h
theorem jip {o:Option (List qm)}{x:qm}(h:(o.getD []).length<SM):f250 o x=some (some (o.getD []++[x])):=qgp h
theorem jh5 {o:Option (List qi)}{x:qi}(h:(o.getD []).length<SM):f194 o x=some (some (o.getD []++[x])):=qgp h
theorem qek {α:Type}{o:Option (List α)}{i:Nat}{x y:α}{g:α→Option α}(hl:(o.getD []).length≤SM)(hx:(o.getD [])[i]?=some x)(hg:g x=some y):chO o (i:Int) g=some (some ((o.getD []).set i y)):=by
 unfold chO
 rw[if_pos ⟨hl,by omega⟩,Int.toNat_natCast,hx]
 simp only[hg]
theorem q10 {α:Type}{o:Option (List α)}{i:Nat}{x:α}(hl:(o.getD []).length≤SM)(hx:i<(o.getD []).length):stO o (i:Int) x=some (some ((o.getD []).set i x)):=by
 unfold stO
 rw[if_pos ⟨hl,by omega,by omega⟩,Int.toNat_natCast]
theorem q25 {α:Type}{o:Option (List α)}{x:α}{p:α→Bool}{g:α→Option α}(hl:(o.getD []).length<SM)(hg:∀y,g y=some x):
  ∃v w,(cond (decide (0≤ixI ((o.getD []).findIdx? p))) (jy (chO o (ixI ((o.getD []).findIdx? p)) g) fun v4=>some (v4,false)) (jy (some (some (o.getD []++[x]))) fun v6=>some (v6,true)))=some (v,w)∧v.getD []=qca p x (o.getD []):=by
 unfold qca
 cases h:(o.getD []).findIdx? p with
 |none=>exact⟨_,_,rfl,rfl⟩
 |some k=>
  obtain⟨y,h1,_⟩:=findIdx?_get h
  rw[show decide (0≤ixI (some k))=true from qfk (some k)]
  simp only[cT,ixI]
  rw[qek (Nat.le_of_lt hl) h1 (hg y)]
  exact⟨_,_,rfl,rfl⟩
theorem jhn {o:Option (List qm)}{x:qm}{k:List UInt8}(hl:(o.getD []).length<SM):∃v w,f173 o x k=some (v,w)∧v.getD []=qca (isK k) x (o.getD []):=by
 unfold f173
 have:qxs o k=some (ixI ((o.getD []).findIdx? (isK k))):=by unfold qxs;exact qcw (p:=isK k) (Nat.le_of_lt hl) fun i=>rfl
 rw[this]
 simp only[jy]
 rw[jix hl]
 exact q25 (p:=isK k) (g:=fun _=>some x) hl fun _=>rfl
theorem jif {o:Option (List qi)}{x s:qi}(hl:(o.getD []).length<SM):∃v w,f177 o x s=some (v,w)∧v.getD []=qca (isT s.k) x (o.getD []):=by
 unfold f177
 have:qnh o s=some (ixI ((o.getD []).findIdx? (isT s.k))):=by unfold qnh;exact qcw (p:=isT s.k) (Nat.le_of_lt hl) fun i=>rfl
 rw[this]
 simp only[jy]
 rw[ji5 hl]
 exact q25 (p:=isT s.k) (g:=fun _=>some x) hl fun _=>rfl
theorem jhs {o:Option (List qm)}{x:qm}{t:qj}(hl:(o.getD []).length<SM):∃v w,f191 o x t=some (v,w)∧v.getD []=qca (isK t.name) x (o.getD []):=by
 unfold f191
 have:f188 o t=some (ixI ((o.getD []).findIdx? (isK t.name))):=by unfold f188;exact qcw (p:=isK t.name) (Nat.le_of_lt hl) fun i=>rfl
 rw[this]
 simp only[jy]
 rw[jip hl]
 exact q25 (p:=isK t.name) (g:=fun _=>some x) hl fun _=>rfl
theorem ji9 {o:Option (List qm)}{t:qj}(hl:(o.getD []).length≤SM):f188 o t=some (ixI ((o.getD []).findIdx? (isK t.name))):=by
 unfold f188;exact qcw (p:=isK t.name) hl fun i=>rfl
theorem ji8 {o:Option (List qm)}{k:List UInt8}(hl:(o.getD []).length≤SM):f171 o k=some (y7 ((o.getD []).filter fun x=>!isK k x),qct ((o.getD []).filter fun x=>!isK k x)):=by
 unfold f171
 rw[qzs (f:=qrz o k) (l:=o.getD []) (p:=fun x=>!isK k x) (q:=fun x=>f172 x k) hl (fun x _=>rfl) (fun s=>rfl)]
 rfl
theorem jcs {o:Option (List qm)}{k:List UInt8}(hl:(o.getD []).length≤SM):qxt o k=some ((o.getD []).any (isK k)):=by
 have:qv1 o k=some (ixI ((o.getD []).findIdx? (isK k))):=by unfold qv1;exact qcw (p:=isK k) hl fun i=>rfl
 unfold qxt;rw[this];simp only[jy,qfk,isSome_findIdx?]
theorem jek {o:Option (List qm)}{t:qj}(hl:(o.getD []).length≤SM):qx7 o t=some ((o.getD []).any (isK t.kind)):=by
 have:qwn o t=some (ixI ((o.getD []).findIdx? (isK t.kind))):=by unfold qwn;exact qcw (p:=isK t.kind) hl fun i=>rfl
 unfold qx7;rw[this];simp only[jy,qfk,isSome_findIdx?]
theorem jb7 {o:Option (List qi)}{s:qi}(hl:(o.getD []).length≤SM):qw6 o s=some ((o.getD []).any (isT s.k)):=by
 have:qnh o s=some (ixI ((o.getD []).findIdx? (isT s.k))):=by unfold qnh;exact qcw (p:=isT s.k) hl fun i=>rfl
 unfold qw6;rw[this];simp only[jy,qfk,isSome_findIdx?]
theorem jdq {o:Option (List qi)}{e:ql}{n:List UInt8}(hn:zz (e.names.getD []) 1=some n)(hl:(o.getD []).length≤SM):qye o e=some ((o.getD []).any (isT n)):=by
 have:qyd o e=some (ixI ((o.getD []).findIdx? (isT n))):=by
  unfold qyd
  refine qcw (p:=isT n) hl fun i=>?_
  unfold qo2 f192
  rw[hn]
  rfl
 unfold qye;rw[this];simp only[jy,qfk,isSome_findIdx?]
theorem qvh {α β:Type}{l:List α}{h:α→List β}{q:α→Bool}{f:Option (List β)×Bool×Int×Bool→Option ((Option (List β)×Bool×Int×Bool)⊕(Option (List β)×Bool×Bool×Int))}(hh:∀x,(h x).length≤1)
  (hend:∀o b w,f (o,b,(l.length:Int),w)=some (.inr (o,w,b,(l.length:Int))))
  (hf:∀(i:Nat) x (a:List β) b,l[i]?=some x→i<l.length→a.length≤i→f (y7 a,b,(i:Int),qct a)=some (.inl (y7 (a++h x),b||q x,((i+1:Nat):Int),qct (a++h x)))):
  itO f (none,false,0,false)=some (y7 (l.flatMap h),qct (l.flatMap h),l.any q,(l.length:Int)):=by
 have key:∀(k i:Nat),i+k=l.length→∀a b,a.length≤i→itO f (y7 a,b,(i:Int),qct a)=some (y7 (a++(l.drop i).flatMap h),qct (a++(l.drop i).flatMap h),b||(l.drop i).any q,(l.length:Int)):=by
  intro k
  induction k with
  |zero=>
   intro i hi a b _
   have:i=l.length:=by omega
   subst this
   rw[List.drop_eq_nil_of_le (Nat.le_refl _),List.flatMap_nil,List.append_nil,qbn (hend _ _ _)]
   simp
  |succ k ih=>
   intro i hi a b ha
   obtain⟨x,hx⟩:∃x,l[i]?=some x:=⟨_,List.getElem?_eq_getElem (by omega)⟩
   rw[qfi (hf i x a b hx (by omega) ha),ih (i+1) (by omega) _ _ (by rw[List.length_append];have:=hh x;omega),qda hx,List.flatMap_cons,List.append_assoc,List.any_cons,Bool.or_assoc]
 have:=key l.length 0 (by omega) [] false (Nat.le_refl _)
 rw[List.drop_zero,List.nil_append,Bool.false_or]at this
 exact this
theorem qsu {α:Type}{a:List α}{x:α}(h:a.length<SM):cond (qct a) (jy (apO (y7 a) [x]) fun v=>some (v,true)) (cond (y7 a).isNone (jy (apO (y7 a) [x]) fun v=>some (v,true)) none)=some (y7 (a++[x]),true):=qfu (k:=fun v=>some (v,true)) h
theorem qau {α β:Type}{h:α→List β}(hh:∀x,(h x).length≤1):∀l:List α,(l.flatMap h).length≤l.length
 | []=>Nat.le_refl _
 |x::l=>by rw[List.flatMap_cons,List.length_append,List.length_cons];have:=hh x;have:=qau hh l;omega
theorem jh6 {o:Option (List qm)}{x:qm}(hl:(o.getD []).length<SM)(hk:qcp (·.k) (o.getD []))(h0:0≤x.n):∃v w,f203 o x=some (v,w)∧v.getD []=qb4 (o.getD []) x.k x.n:=by
 let h:qm→List qm:=fun y=>if isK x.k y then(if 0<x.n then [x]else [])else [y]
 have hh:∀y,(h y).length≤1:=by intro y;simp only[h];split<;>(try split)<;>simp
 have L:=qvh (l:=o.getD []) (h:=h) (q:=isK x.k) (f:=qmv o x) hh (fun o b w=>by unfold qmv;simp only[qag];rfl) (fun i y a b hy hi ha=>by
  unfold qmv
  simp only[qaz hi,cT,jy,ye hy]
  rw[qax (by unfold SM at hl;omega)]
  simp only[h,isK]
  by_cases h1:y.k=x.k
  ·by_cases h2:0<x.n
   ·simp only[h1,h2,decide_true,cT,if_true,Bool.or_true]
    rw[qgv]
    exact qfu (x:=x) (k:=fun v=>some (Sum.inl (v,true,((i+1:Nat):Int),true))) (by unfold SM at hl;omega)
   ·simp[h1,h2]
  ·simp only[h1,decide_false,cF,Bool.false_eq_true,if_false,Bool.or_false]
   rw[qgv]
   exact qfu (x:=y) (k:=fun v=>some (Sum.inl (v,b,((i+1:Nat):Int),true))) (by unfold SM at hl;omega))
 unfold f203
 rw[L]
 simp only[jy]
 have hlen:((o.getD []).flatMap h).length<SM:=Nat.lt_of_le_of_lt (qau hh _) hl
 by_cases hn:x.n=0
 ·have hp:decide (0<x.n)=false:=by rw[hn];rfl
  have hf:(o.getD []).flatMap h=(o.getD []).filter fun y=>!isK x.k y:=by
   rw[show h=fun y=>if(!isK x.k y)then [id y]else [] by funext y;simp only[h,hn];cases isK x.k y<;>rfl,qra,List.map_id]
  unfold qb4
  rw[if_pos hn,hp,←hf]
  cases (o.getD []).any (isK x.k)<;>exact⟨_,_,rfl,qae _⟩
 ·have hp:decide (0<x.n)=true:=dT (by omega)
  have hf:(o.getD []).flatMap h=(o.getD []).map fun y=>if isK x.k y then x else y:=by
   rw[←qkc]
   congr 1
   funext y
   have:0<x.n:=by omega
   simp only[h,this,if_true]
   cases isK x.k y<;>rfl
  have hpa:=putAll_eq (key:=fun y:qm=>y.k) (k:=x.k) (x:=x) hk
  unfold qb4
  rw[if_neg hn,hp,show(⟨x.k,x.n⟩:qm)=x from rfl,show qca (isK x.k) x (o.getD [])=qwf (isK x.k) x (o.getD [])from hpa.symm]
  unfold qwf
  rw[←hf]
  cases ha:(o.getD []).any (isK x.k)with
  |true=>exact⟨_,_,rfl,by rw[qae];simp⟩
  |false=>
   simp only[cF,cT,Bool.false_eq_true,if_false]
   have:=qsu (x:=x) hlen
   simp only[jy]at this
   rw[this]
   exact⟨_,_,rfl,qae _⟩
theorem jiu {o:Option (List qi)}{x:qi}(hl:(o.getD []).length<SM)(hk:qcp (·.k) (o.getD [])):∃v w,f204 o x=some (v,w)∧v.getD []=qca (isT x.k) x (o.getD []):=by
 let h:qi→List qi:=fun y=>if isT x.k y then [x]else [y]
 have hh:∀y,(h y).length≤1:=by intro y;simp only[h];split<;>simp
 have L:=qvh (l:=o.getD []) (h:=h) (q:=isT x.k) (f:=qmg o x) hh (fun o b w=>by unfold qmg;simp only[qag];rfl) (fun i y a b hy hi ha=>by
  unfold qmg
  simp only[qaz hi,cT,jy,ye hy]
  rw[qax (by unfold SM at hl;omega)]
  simp only[h,isT]
  by_cases h1:y.k=x.k
  ·simp only[h1,decide_true,cT,if_true,Bool.or_true]
   rw[qgv]
   exact qfu (x:=x) (k:=fun v=>some (Sum.inl (v,true,((i+1:Nat):Int),true))) (by unfold SM at hl;omega)
  ·simp only[h1,decide_false,cF,Bool.false_eq_true,if_false,Bool.or_false]
   rw[qgv]
   exact qfu (x:=y) (k:=fun v=>some (Sum.inl (v,b,((i+1:Nat):Int),true))) (by unfold SM at hl;omega))
 unfold f204
 rw[L]
 simp only[jy]
 have hlen:((o.getD []).flatMap h).length<SM:=Nat.lt_of_le_of_lt (qau hh _) hl
 have hf:(o.getD []).flatMap h=(o.getD []).map fun y=>if isT x.k y then x else y:=by
  rw[←qkc]
  congr 1
  funext y
  simp only[h]
  cases isT x.k y<;>rfl
 have hpa:=putAll_eq (key:=fun y:qi=>y.k) (k:=x.k) (x:=x) hk
 rw[show qca (isT x.k) x (o.getD [])=qwf (isT x.k) x (o.getD [])from hpa.symm]
 unfold qwf
 rw[←hf]
 cases ha:(o.getD []).any (isT x.k)with
 |true=>exact⟨_,_,rfl,by rw[qae];simp⟩
 |false=>
  simp only[cF,Bool.false_eq_true,if_false]
  have:=qsu (x:=x) hlen
  simp only[jy]at this
  rw[this]
  exact⟨_,_,rfl,qae _⟩
theorem q0m {α:Type}{f:α→α}:∀ {l:List α},(∀x∈l,f x=x)→l.map f=l
 | [],_=>rfl
 |x::l,h=>by rw[List.map_cons,h x (List.mem_cons_self ..),q0m fun y hy=>h y (List.mem_cons_of_mem _ hy)]
theorem q6p {k:List UInt8}{F:qm→qm}:∀ {l:List qm},qcp (·.k) l→(l.map fun y=>if isK k y then F y else y)=(match l.findIdx? (isK k)with
  |some i=>(match l[i]? with
   |some x=>l.set i (F x)
   |none=>l)
  |none=>l)
 | [],_=>rfl
 |y::l,h=>by
  have h':qcp (·.k) l:=(List.nodup_cons.1 h).2
  have hn:¬y.k∈l.map (·.k):=(List.nodup_cons.1 h).1
  rw[List.map_cons,List.findIdx?_cons]
  cases hy:isK k y with
  |true=>
   have hk:y.k=k:=of_decide_eq_true hy
   simp only[if_true]
   rw[q0m fun x hx=>by
    have:isK k x=false:=dF fun hxk=>hn (by rw[hk,←hxk];exact List.mem_map_of_mem hx)
    rw[this];rfl]
   rfl
  |false=>
   simp only[Bool.false_eq_true,if_false]
   rw[q6p h']
   cases hi:l.findIdx? (isK k)with
   |none=>rfl
   |some i=>
    obtain⟨x,h1,_⟩:=findIdx?_get hi
    simp[h1]
theorem jin {o:Option (List qm)}{k:List UInt8}{n:Int}(hl:(o.getD []).length<SM)(hk:qcp (·.k) (o.getD [])):∃v w,f252 o k n=some (v,w)∧v.getD []=qhk (j8 .i64) (o.getD []) k n:=by
 let h:qm→List qm:=fun y=>if isK k y then [⟨y.k,j8 .i64 (y.n+n)⟩]else [y]
 have hh:∀y,(h y).length≤1:=by intro y;simp only[h];split<;>simp
 have L:=qvh (l:=o.getD []) (h:=h) (q:=isK k) (f:=qmd o k n) hh (fun o b w=>by unfold qmd;simp only[qag];rfl) (fun i y a b hy hi ha=>by
  unfold qmd
  simp only[qaz hi,cT,jy,ye hy]
  rw[qax (by unfold SM at hl;omega)]
  simp only[h,isK]
  by_cases h1:y.k=k
  ·simp only[h1,decide_true,cT,if_true,Bool.or_true]
   rw[qgv]
   exact qfu (x:=(⟨k,j8 .i64 (y.n+n)⟩:qm)) (k:=fun v=>some (Sum.inl (v,true,((i+1:Nat):Int),true))) (by unfold SM at hl;omega)
  ·simp only[h1,decide_false,cF,Bool.false_eq_true,if_false,Bool.or_false]
   rw[qgv]
   exact qfu (x:=y) (k:=fun v=>some (Sum.inl (v,b,((i+1:Nat):Int),true))) (by unfold SM at hl;omega))
 unfold f252
 rw[L]
 simp only[jy]
 have hlen:((o.getD []).flatMap h).length<SM:=Nat.lt_of_le_of_lt (qau hh _) hl
 have hf:(o.getD []).flatMap h=(o.getD []).map fun y=>if isK k y then(⟨k,j8 .i64 (n+y.n)⟩:qm)else y:=by
  rw[←qkc]
  congr 1
  funext y
  simp only[h]
  cases hy:isK k y with
  |false=>rfl
  |true=>rw[show y.k=k from of_decide_eq_true hy,Int.add_comm];rfl
 rw[q6p hk]at hf
 unfold qhk
 cases hi:(o.getD []).findIdx? (isK k)with
 |some i=>
  obtain⟨x,h1,_⟩:=findIdx?_get hi
  have ha:(o.getD []).any (isK k)=true:=by rw[any_findIdx,hi];rfl
  rw[hi]at hf
  simp only[h1]at hf ⊢
  rw[ha,hf]
  exact⟨_,_,rfl,qae _⟩
 |none=>
  have ha:(o.getD []).any (isK k)=false:=by rw[any_findIdx,hi];rfl
  rw[hi]at hf
  simp only at hf ⊢
  rw[ha]
  have:=qsu (x:=(⟨k,n⟩:qm)) hlen
  simp only[jy]at this
  simp only[cF]
  rw[this,hf]
  exact⟨_,_,rfl,qae _⟩
end Go.Z
