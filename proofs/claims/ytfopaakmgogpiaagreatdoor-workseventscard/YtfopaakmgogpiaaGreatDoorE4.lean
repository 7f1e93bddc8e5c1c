/- Chapter 10, plain. -/
import Derived.Test.YtfopaakmgogpiaaGreatDoorE1
import Derived.Test.YtfopaakmgogpiaaGreatDoorV3
set_option linter.unusedVariables false
set_option linter.unusedSimpArgs false
set_option maxRecDepth 100000
namespace Go.Z
open Go Go.Abs Go.W
variable {r:qc}{u:qf}{D:qr}
theorem q4n {k:List UInt8}{v:Int}:∀l:List (List UInt8×Int),(qeu l k v).length≤l.length+1
 | []=>Nat.le_refl _
 |p::l=>by
  unfold qeu
  split
  ·simp
  ·simp only[List.length_cons];exact Nat.succ_le_succ (q4n l)
theorem q9f {α γ:Type}{l:List α}{i:Nat}{x:α}(hx:l[i]?=some x)(g:γ→α→γ)(c:γ):(l.take (i+1)).foldl g c=g ((l.take i).foldl g c) x:=by
 rw[List.take_add_one,hx,List.foldl_append];rfl
theorem jlt (hL:(r.lots.getD []).length≤SM)(hu:(u.uses.getD []).length≤SM)(hw:∀x∈u.uses.getD [],(kx r.er x.k).isSome=true):∃M,itO (qh5 r u qow) (0,[])=some (((u.uses.getD []).length:Int),M)∧∀kind,qgc M kind=qnc (j6 .i64) r.er u.er kind:=by
 let g:List (List UInt8×Int)→qm→List (List UInt8×Int):=fun c x=>match qfd r.er x.k with
  |some y=>qeu c y.kind (j6 .i64 (qgc c y.kind+x.n))
  |none=>c
 let I:Nat→List (List UInt8×Int)→Prop:=fun i M=>M.length≤i∧∀kind,qgc M kind=((u.uses.getD []).take i).foldl (qs4 r.er kind) 0
 have hg:∀i x c,(u.uses.getD [])[i]?=some x→I i c→I (i+1) (g c x)∧∃y,qfd r.er x.k=some y∧qow c y x.n=some (g c x):=by
  intro i x c hx hI
  obtain⟨y,hy⟩:=qhv (hw x (List.mem_of_getElem? hx))
  have hi:=(List.getElem?_eq_some_iff.1 hx).1
  have hgc:g c x=qeu c y.kind (j6 .i64 (qgc c y.kind+x.n)):=by simp only[g,hy]
  rw[hgc]
  refine⟨⟨Nat.le_trans (q4n _) (Nat.succ_le_succ hI.1),fun kind=>?_⟩,y,hy,?_⟩
  ·rw[q9f hx,ji2,←hI.2 kind]
   unfold qs4
   rw[hy]
   simp only[Option.any_some]
   by_cases hk:kind=y.kind
   ·subst hk;simp
   ·have hk2:¬y.kind=kind:=fun h=>hk h.symm
    simp[hk,hk2]
  ·unfold qow q84
   rw[if_pos (by have:=hI.1;unfold SM at hu;omega)]
 have:=q6a (step:=qow) (g:=g) I hL hu hg [] ⟨Nat.le_refl _,fun kind=>rfl⟩
 have hI:∀(k i:Nat) (c:List (List UInt8×Int)),i+k=(u.uses.getD []).length→I i c→I (u.uses.getD []).length (((u.uses.getD []).drop i).foldl g c):=by
  intro k
  induction k with
  |zero=>
   intro i c hi hc
   have:i=(u.uses.getD []).length:=by omega
   subst this
   rw[List.drop_eq_nil_of_le (Nat.le_refl _)];exact hc
  |succ k ih=>
   intro i c hi hc
   obtain⟨x,hx⟩:∃x,(u.uses.getD [])[i]?=some x:=⟨_,List.getElem?_eq_getElem (by omega)⟩
   rw[qcp hx,List.foldl_cons]
   exact ih (i+1) _ (by omega) (hg i x c hx hc).1
 have h2:=hI _ 0 [] (Nat.zero_add _) ⟨Nat.le_refl _,fun kind=>rfl⟩
 rw[List.drop_zero]at h2
 refine⟨_,this,fun kind=>?_⟩
 rw[h2.2 kind,List.take_length]
 rfl
theorem qeq (o:Option Nat):decide (0≤ixI o)=o.isSome:=by
 cases o with
 |none=>rfl
 |some k=>exact dT (by show(0:Int)≤(k:Int);omega)
theorem isSome_findIdx? {α:Type}{p:α→Bool}{l:List α}:(l.findIdx? p).isSome=l.any p:=by rw[any_findIdx]
theorem jg7 {l:Option (List qm)}{M:List (List UInt8×Int)}(hl:(l.getD []).length≤SM):qxs l M=some ((l.getD []).any fun n=>decide (qgc M n.k<n.n)):=by
 have:qxg l M=some (ixI ((l.getD []).findIdx? fun n=>decide (qgc M n.k<n.n))):=by
  unfold qxg
  exact qce (p:=fun n=>decide (qgc M n.k<n.n)) hl fun i=>rfl
 unfold qxs
 rw[this]
 simp only[jw,qeq,isSome_findIdx?]
theorem jkv (hL:(r.lots.getD []).length≤SM)(hu:(u.uses.getD []).length≤SM)(hw:∀x∈u.uses.getD [],(kx r.er x.k).isSome=true)(hd:f134 r u=some D)(hn:(D.needs.getD []).length≤SM):f141 r u=some (qdm (j6 .i64) r.er D.er u.er):=by
 obtain⟨M,h1,h2⟩:=jlt hL hu hw
 unfold f141
 rw[h1,hd]
 simp only[jw,jg7 hn,Option.some.injEq]
 unfold qdm
 rw[show D.er.needs=D.needs.getD []from rfl]
 induction D.needs.getD []with
 |nil=>rfl
 |cons n l ih=>
  rw[List.any_cons,List.all_cons,Bool.not_or,ih,h2]
  congr 1
  by_cases h:qnc (j6 .i64) r.er u.er n.k<n.n
  ·rw[dT h,dF (by omega)];rfl
  ·rw[dF h,dT (by omega)];rfl
theorem jtq (hL:(r.lots.getD []).length≤SM)(hu:(u.uses.getD []).length≤SM)(hw:∀x∈u.uses.getD [],(kx r.er x.k).isSome=true)(hd:f78 r u=some D)(hn:(D.needs.getD []).length≤SM):f81 r u=some (qdm (j6 .i64) r.er D.er u.er):=by
 unfold f81
 rw[hd]
 simp only[jw]
 obtain⟨d,h1,h2⟩:=qug (D.needs.getD []) (qpr r u D) (fun n=>decide (n.n≤qnc (j6 .i64) r.er u.er n.k)) (fun d=>match d with | .inl _=>false | .inr _=>true) ⟨.inr ((D.needs.getD []).length:Int),by unfold qpr;simp only[ku];rfl,rfl⟩ (fun i x hx hi=>by
  unfold qpr
  simp only[qal hi,cT,jw,z6 hx,jk9 hL hu hw]
  rw[qaj (by unfold SM at hn;omega)]
  by_cases h:qnc (j6 .i64) r.er u.er x.k<x.n
  ·exact .inr ⟨dF (by omega),.inl (),by rw[dT h];rfl,rfl⟩
  ·exact .inl ⟨dT (by omega),by rw[dF h];rfl⟩)
 rw[h1]
 unfold qdm
 rw[show D.er.needs=D.needs.getD []from rfl,←h2]
 cases d<;>rfl
def qs5 (r:qv)(us:List qm):List qj:=us.map fun x=>(qfd r x.k).getD ⟨[],[],0,0,false⟩
theorem jdf (hL:(r.lots.getD []).length≤SM)(hu:(u.uses.getD []).length≤SM)(hw:∀x∈u.uses.getD [],(kx r.er x.k).isSome=true):itO (qh5 r u p75) (0,none)=some (((u.uses.getD []).length:Int),yr (qs5 r.er (u.uses.getD []))):=by
 let gx:qm→qj:=fun x=>(qfd r.er x.k).getD ⟨[],[],0,0,false⟩
 let g:Option (List qj)→qm→Option (List qj):=fun c x=>yr (c.getD []++[gx x])
 have:=q6a (step:=p75) (g:=g) (fun i c=>∃a:List qj,c=yr a∧a.length=i) hL hu (fun i x c hx hI=>by
  obtain⟨a,rfl,ha⟩:=hI
  have hi:=(List.getElem?_eq_some_iff.1 hx).1
  obtain⟨y,hy⟩:=qhv (hw x (List.mem_of_getElem? hx))
  have hgx:gx x=y:=by simp only[gx,hy,Option.getD_some]
  refine⟨⟨a++[y],by simp only[g,hgx,ko],by simp[ha]⟩,y,hy,?_⟩
  unfold p75
  rw[qv7 (by unfold SM at hu;omega)]
  simp only[g,hgx,ko]) none ⟨[],rfl,rfl⟩
 rw[this]
 congr 2
 have key:∀(l:List qm) (a:List qj),l.foldl g (yr a)=yr (a++l.map gx):=by
  intro l
  induction l with
  |nil=>intro a;simp
  |cons x l ih=>
   intro a
   rw[List.foldl_cons,show g (yr a) x=yr (a++[gx x]) by simp only[g,ko],ih,List.map_cons,List.append_assoc];rfl
 have:=key (u.uses.getD []) []
 rw[List.nil_append]at this
 exact this
theorem q5n (hw:∀x∈u.uses.getD [],(kx r.er x.k).isSome=true):qlk r.er u.er=!((qs5 r.er (u.uses.getD [])).filter (·.held)).isEmpty:=by
 unfold qlk qs5
 rw[show u.er.uses=u.uses.getD []from rfl]
 revert hw
 generalize u.uses.getD []=us
 intro hw
 induction us with
 |nil=>rfl
 |cons x l ih=>
  obtain⟨y,hy⟩:=qhv (hw x (List.mem_cons_self ..))
  rw[List.any_cons,ih (fun x hx=>hw x (List.mem_cons_of_mem _ hx)),List.map_cons,List.filter_cons,hy]
  simp only[Option.any_some,Option.getD_some]
  cases y.held<;>rfl
theorem qca {b:Bool}{e:Int}:f53 b e=some (if b then e else 0):=by unfold f53;cases b<;>rfl
theorem jms {l:List qj}(hl:l.length≤SM):f142 (yr l)=some (yr (l.filter (·.held)),qb9 (l.filter (·.held))):=by
 unfold f142
 rw[qzb (f:=qp8 (yr l)) (l:=(yr l).getD []) (p:=fun x:qj=>x.held) (q:=fun x=>f143 x) (by rw[ko];exact hl) (fun x _=>rfl) (fun s=>rfl),ko]
 rfl
def qbr:List Int→Int
 | []=>0
 |e::l=>if e=0 then qbr l else e
theorem qbj {l:List Int}(hl:l.length≤SM):f51 (some l)=some (qbr l):=by
 unfold f51
 have:=qsb l.length (fun i=>(i:Int)) (qoz (some l)) (fun d=>match d with | .inl k=>k | .inr _=>(0:Int)) (fun i=>qbr (l.drop i)) ⟨.inr (l.length:Int),by unfold qoz;simp only[Option.getD_some,ku];rfl,by rw[List.drop_eq_nil_of_le (Nat.le_refl _)];rfl⟩ (fun i hi=>by
  obtain⟨x,hx⟩:∃x,l[i]?=some x:=⟨_,List.getElem?_eq_getElem hi⟩
  unfold qoz
  simp only[Option.getD_some,qal hi,cT,jw,z6 hx,qcp hx,qbr]
  by_cases h0:x=0
  ·simp only[h0,decide_true,cT,if_true]
   rw[qaj (by unfold SM at hl;omega)]
   left;constructor<;>first|rfl|trivial
  ·simp only[h0,decide_false,cond_false,if_false]
   exact .inr ⟨_,rfl,rfl⟩)
 obtain⟨d,h1,h2⟩:=this
 rw[show((0:Int))=((0:Nat):Int)from rfl,h1]
 rw[List.drop_zero]at h2
 simp only[jw]
 rw[←h2]
 cases d<;>rfl
theorem qwi {α:Type}{l:List α}:decide (0<(((yr l).getD []).length:Int))=!l.isEmpty:=by
 rw[ko]
 cases l with
 |nil=>rfl
 |cons x l=>simp
theorem qz4 {w:Int→Int}{r:qv}{u:qz}{d:jf}{v:Int}(hd:qct r u=some d)(hv:qfu r u=some v):qgn w r u=if u.shipped then 21 else if u.version≠v then 32 else if !qdm w r d u then 20 else if !(qft d u).isEmpty then 31 else if qlk r u then 34 else 0:=by
 unfold qgn
 rw[hd,hv]
 cases u.shipped
 ·by_cases h:u.version=v
  ·simp[h]
  ·simp[h,Ne.symm h]
 ·rfl
theorem jpq {v:Int}(hP:(r.products.getD []).length≤SM)(hv0:qfu r.er u.er=some v)(hL:(r.lots.getD []).length≤SM)(hu:(u.uses.getD []).length≤SM)(hw:∀x∈u.uses.getD [],(kx r.er x.k).isSome=true)(hd:f134 r u=some D)(hp:qct r.er u.er=some D.er)(hn:(D.needs.getD []).length≤SM)(hr:(u.results.getD []).length≤SM)(ht:(D.tests.getD []).length≤SM)(hv:u.version≠-1):f75 r u=some (qgn (j6 .i64) r.er u.er):=by
 obtain⟨w,hm⟩:=jt9 hd hr ht hv
 have hll:(qs5 r.er (u.uses.getD [])).length≤SM:=by unfold qs5;rw[List.length_map];exact hu
 unfold f75
 rw[jdf hL hu hw]
 simp only[jw,qca,(qlp hP hv0).1,jkv hL hu hw hd hn,hm,jms hll,qwi]
 rw[qbj (by simp[SM]),qz4 hp hv0,q5n hw]
 congr 1
 show qbr _=if u.shipped then 21 else if u.version≠v then 32 else _
 cases u.shipped<;>by_cases h1:u.version=v<;>cases qdm (j6 .i64) r.er D.er u.er<;>cases (qft D.er u.er).isEmpty<;>cases ((qs5 r.er (u.uses.getD [])).filter (·.held)).isEmpty<;>simp[qbr,h1]
theorem jg1 (hL:(r.lots.getD []).length≤SM)(hu:(u.uses.getD []).length≤SM)(hw:∀x∈u.uses.getD [],(kx r.er x.k).isSome=true):(jw (itO (qlo r u) 0) fun d=>match d with | .inl _=>some (34:Int) | .inr _=>some 0)=some (if qlk r.er u.er then 34 else 0):=by
 obtain⟨d,h1,h2⟩:=qug (u.uses.getD []) (qlo r u) (fun x=>!(qfd r.er x.k).any (·.held)) (fun d=>match d with | .inl _=>false | .inr _=>true) ⟨.inr ((u.uses.getD []).length:Int),by unfold qlo;simp only[ku];rfl,rfl⟩ (fun i x hx hi=>by
  obtain⟨y,hy⟩:=qhv (hw x (List.mem_of_getElem? hx))
  obtain⟨k,h3,h4⟩:=qy9 hy
  unfold qlo
  simp only[qal hi,cT,jw,z6 hx,qqf hL,h3,ixI,z6 h4,hy,Option.any_some]
  rw[qaj (by unfold SM at hu;omega)]
  cases y.held with
  |true=>exact .inr ⟨rfl,.inl (),rfl,rfl⟩
  |false=>exact .inl ⟨rfl,rfl⟩)
 rw[h1]
 have h3:qlk r.er u.er=!((u.uses.getD []).all fun x=>!(qfd r.er x.k).any (·.held)):=by
  unfold qlk
  rw[show u.er.uses=u.uses.getD []from rfl]
  induction u.uses.getD []with
  |nil=>rfl
  |cons x l ih=>rw[List.any_cons,List.all_cons,ih,Bool.not_and,Bool.not_not]
 rw[h3,←h2]
 cases d<;>rfl
theorem jpc {v:Int}(hP:(r.products.getD []).length≤SM)(hv0:qfu r.er u.er=some v)(hL:(r.lots.getD []).length≤SM)(hu:(u.uses.getD []).length≤SM)(hw:∀x∈u.uses.getD [],(kx r.er x.k).isSome=true)(hd:f78 r u=some D)(hp:qct r.er u.er=some D.er)(hn:(D.needs.getD []).length≤SM)(hr:(u.results.getD []).length≤SM)(ht:(D.tests.getD []).length≤SM):f31 r u=some (qgn (j6 .i64) r.er u.er):=by
 rw[qz4 hp hv0]
 unfold f31
 cases hs:u.shipped with
 |true=>rw[show u.er.shipped=true from hs];rfl
 |false=>
  have hu':(⟨u.name,u.product,u.version,u.uses,u.results,u.partner,false,u.complaints⟩:qf)=u:=by cases u;simp only at hs;rw[hs]
  rw[show u.er.shipped=false from hs,hu']
  obtain⟨w,hm⟩:=jnx (r:=r) (u:=u) hd hr ht
  simp only[cond_false,jw,(qlp hP hv0).2,jtq hL hu hw hd hn,hm,qwi,Bool.false_eq_true,if_false]
  have hh:=jg1 hL hu hw
  simp only[jw]at hh
  by_cases h1:u.version=v
  ·rw[dT h1,if_neg (show ¬u.er.version≠v from fun h=>h h1)]
   simp only[cT]
   cases qdm (j6 .i64) r.er D.er u.er
   ·rfl
   ·simp only[cT,Bool.not_true,Bool.false_eq_true,if_false]
    cases (qft D.er u.er).isEmpty
    ·rfl
    ·simp only[Bool.not_true,cond_false,Bool.false_eq_true,if_false]
     exact hh
  ·rw[dF h1,if_pos (show u.er.version≠v from h1)]
   rfl
end Go.Z
namespace Go.Z
open Go Go.Abs Go.W
theorem qie {α:Type}{o:Option (List α)}{ys:List α}(h:(o.getD []).length+ys.length≤SM)(hy:ys≠[]):apO o ys=some (some (o.getD []++ys)):=by
 unfold apO apS
 rw[if_pos h]
 cases o<;>cases ys<;>first|exact absurd rfl hy|rfl
theorem qfr {α:Type}{ys:List α}(h:ys.length≤SM):apO (some []) ys=some (some ys):=by
 unfold apO apS
 rw[if_pos (by simpa using h)]
 cases ys<;>rfl
theorem qfz {α:Type}{o:Option (List α)}{x:α}(h:(o.getD []).length<SM):(jw (cond o.isNone (some (none,false)) (jw (apO (some []) (o.getD [])) fun v=>some (v,true))) fun v1=>cond v1.2 (jw (apO v1.1 [x]) fun v4=>some v4) (cond v1.1.isNone (jw (apO v1.1 [x]) fun v7=>some v7) none))=some (some (o.getD []++[x])):=by
 cases o with
 |none=>rfl
 |some l=>
  have h':l.length<SM:=h
  simp only[Option.isNone_some,cond_false,Option.getD_some]
  rw[qfr (by omega)]
  simp only[jw,cT]
  rw[qie (o:=some l) (by simp only[Option.getD_some,List.length_singleton];omega) (by simp)]
  rfl
theorem jlh {o:Option (List qj)}{x:qj}(h:(o.getD []).length<SM):f164 o x=some (some (o.getD []++[x])):=qfz h
theorem jle {o:Option (List qi)}{x:qi}(h:(o.getD []).length<SM):f166 o x=some (some (o.getD []++[x])):=qfz h
theorem jlr {o:Option (List qf)}{x:qf}(h:(o.getD []).length<SM):f183 o x=some (some (o.getD []++[x])):=qfz h
theorem jkt {o:Option (List qr)}{x:qr}(h:(o.getD []).length<SM):f180 o x=some (some (o.getD []++[x])):=qfz h
theorem jma {o:Option (List qm)}{x:qm}(h:(o.getD []).length<SM):f239 o x=some (some (o.getD []++[x])):=qfz h
theorem jm2 {o:Option (List qk)}{x:qk}(h:(o.getD []).length<SM):f243 o x=some (some (o.getD []++[x])):=qfz h
theorem jla {o:Option (List qm)}{x:qm}(h:(o.getD []).length<SM):f250 o x=some (some (o.getD []++[x])):=qfz h
theorem jly {o:Option (List qk)}{x:qk}(h:(o.getD []).length<SM):f194 o x=some (some (o.getD []++[x])):=qfz h
theorem qdt {α:Type}{o:Option (List α)}{i:Nat}{x y:α}{g:α→Option α}(hl:(o.getD []).length≤SM)(hx:(o.getD [])[i]?=some x)(hg:g x=some y):chO o (i:Int) g=some (some ((o.getD []).set i y)):=by
 unfold chO
 rw[if_pos ⟨hl,by omega⟩,Int.toNat_natCast,hx]
 simp only[hg]
theorem q41 {α:Type}{o:Option (List α)}{i:Nat}{x:α}(hl:(o.getD []).length≤SM)(hx:i<(o.getD []).length):stO o (i:Int) x=some (some ((o.getD []).set i x)):=by
 unfold stO
 rw[if_pos ⟨hl,by omega,by omega⟩,Int.toNat_natCast]
theorem q4h {α:Type}{o:Option (List α)}{x:α}{p:α→Bool}{g:α→Option α}(hl:(o.getD []).length<SM)(hg:∀y,g y=some x):
  ∃v w,(cond (decide (0≤ixI ((o.getD []).findIdx? p))) (jw (chO o (ixI ((o.getD []).findIdx? p)) g) fun v4=>some (v4,false)) (jw (some (some (o.getD []++[x]))) fun v6=>some (v6,true)))=some (v,w)∧v.getD []=qbs p x (o.getD []):=by
 unfold qbs
 cases h:(o.getD []).findIdx? p with
 |none=>exact⟨_,_,rfl,rfl⟩
 |some k=>
  obtain⟨y,h1,_⟩:=findIdx?_get h
  rw[show decide (0≤ixI (some k))=true from qeq (some k)]
  simp only[cT,ixI]
  rw[qdt (Nat.le_of_lt hl) h1 (hg y)]
  exact⟨_,_,rfl,rfl⟩
theorem jl3 {o:Option (List qm)}{x:qm}{k:List UInt8}(hl:(o.getD []).length<SM):∃v w,f173 o x k=some (v,w)∧v.getD []=qbs (isK k) x (o.getD []):=by
 unfold f173
 have:qxr o k=some (ixI ((o.getD []).findIdx? (isK k))):=by unfold qxr;exact qce (p:=isK k) (Nat.le_of_lt hl) fun i=>rfl
 rw[this]
 simp only[jw]
 rw[jma hl]
 exact q4h (p:=isK k) (g:=fun _=>some x) hl fun _=>rfl
theorem jm5 {o:Option (List qk)}{x s:qk}(hl:(o.getD []).length<SM):∃v w,f177 o x s=some (v,w)∧v.getD []=qbs (isT s.k) x (o.getD []):=by
 unfold f177
 have:qlr o s=some (ixI ((o.getD []).findIdx? (isT s.k))):=by unfold qlr;exact qce (p:=isT s.k) (Nat.le_of_lt hl) fun i=>rfl
 rw[this]
 simp only[jw]
 rw[jm2 hl]
 exact q4h (p:=isT s.k) (g:=fun _=>some x) hl fun _=>rfl
theorem jm4 {o:Option (List qm)}{x:qm}{t:qj}(hl:(o.getD []).length<SM):∃v w,f191 o x t=some (v,w)∧v.getD []=qbs (isK t.name) x (o.getD []):=by
 unfold f191
 have:f188 o t=some (ixI ((o.getD []).findIdx? (isK t.name))):=by unfold f188;exact qce (p:=isK t.name) (Nat.le_of_lt hl) fun i=>rfl
 rw[this]
 simp only[jw]
 rw[jla hl]
 exact q4h (p:=isK t.name) (g:=fun _=>some x) hl fun _=>rfl
theorem jmx {o:Option (List qm)}{t:qj}(hl:(o.getD []).length≤SM):f188 o t=some (ixI ((o.getD []).findIdx? (isK t.name))):=by
 unfold f188;exact qce (p:=isK t.name) hl fun i=>rfl
theorem jml {o:Option (List qm)}{k:List UInt8}(hl:(o.getD []).length≤SM):f171 o k=some (yr ((o.getD []).filter fun x=>!isK k x),qb9 ((o.getD []).filter fun x=>!isK k x)):=by
 unfold f171
 rw[qzb (f:=qq4 o k) (l:=o.getD []) (p:=fun x=>!isK k x) (q:=fun x=>f172 x k) hl (fun x _=>rfl) (fun s=>rfl)]
 rfl
theorem jhz {o:Option (List qm)}{k:List UInt8}(hl:(o.getD []).length≤SM):qw7 o k=some ((o.getD []).any (isK k)):=by
 have:qwq o k=some (ixI ((o.getD []).findIdx? (isK k))):=by unfold qwq;exact qce (p:=isK k) hl fun i=>rfl
 unfold qw7;rw[this];simp only[jw,qeq,isSome_findIdx?]
theorem jhu {o:Option (List qm)}{t:qj}(hl:(o.getD []).length≤SM):qya o t=some ((o.getD []).any (isK t.kind)):=by
 have:qx9 o t=some (ixI ((o.getD []).findIdx? (isK t.kind))):=by unfold qx9;exact qce (p:=isK t.kind) hl fun i=>rfl
 unfold qya;rw[this];simp only[jw,qeq,isSome_findIdx?]
theorem jh7 {o:Option (List qk)}{s:qk}(hl:(o.getD []).length≤SM):qws o s=some ((o.getD []).any (isT s.k)):=by
 have:qlr o s=some (ixI ((o.getD []).findIdx? (isT s.k))):=by unfold qlr;exact qce (p:=isT s.k) hl fun i=>rfl
 unfold qws;rw[this];simp only[jw,qeq,isSome_findIdx?]
theorem jet {o:Option (List qk)}{e:ql}{n:List UInt8}(hn:zo (e.names.getD []) 1=some n)(hl:(o.getD []).length≤SM):qwd o e=some ((o.getD []).any (isT n)):=by
 have:qv8 o e=some (ixI ((o.getD []).findIdx? (isT n))):=by
  unfold qv8
  refine qce (p:=isT n) hl fun i=>?_
  unfold qnb f192
  rw[hn]
  rfl
 unfold qwd;rw[this];simp only[jw,qeq,isSome_findIdx?]
theorem quk {α β:Type}{l:List α}{h:α→List β}{q:α→Bool}{f:Option (List β)×Bool×Int×Bool→Option ((Option (List β)×Bool×Int×Bool)⊕(Option (List β)×Bool×Bool×Int))}(hh:∀x,(h x).length≤1)
  (hend:∀o b w,f (o,b,(l.length:Int),w)=some (.inr (o,w,b,(l.length:Int))))
  (hf:∀(i:Nat) x (a:List β) b,l[i]?=some x→i<l.length→a.length≤i→f (yr a,b,(i:Int),qb9 a)=some (.inl (yr (a++h x),b||q x,((i+1:Nat):Int),qb9 (a++h x)))):
  itO f (none,false,0,false)=some (yr (l.flatMap h),qb9 (l.flatMap h),l.any q,(l.length:Int)):=by
 have key:∀(k i:Nat),i+k=l.length→∀a b,a.length≤i→itO f (yr a,b,(i:Int),qb9 a)=some (yr (a++(l.drop i).flatMap h),qb9 (a++(l.drop i).flatMap h),b||(l.drop i).any q,(l.length:Int)):=by
  intro k
  induction k with
  |zero=>
   intro i hi a b _
   have:i=l.length:=by omega
   subst this
   rw[List.drop_eq_nil_of_le (Nat.le_refl _),List.flatMap_nil,List.append_nil,qa6 (hend _ _ _)]
   simp
  |succ k ih=>
   intro i hi a b ha
   obtain⟨x,hx⟩:∃x,l[i]?=some x:=⟨_,List.getElem?_eq_getElem (by omega)⟩
   rw[qec (hf i x a b hx (by omega) ha),ih (i+1) (by omega) _ _ (by rw[List.length_append];have:=hh x;omega),qcp hx,List.flatMap_cons,List.append_assoc,List.any_cons,Bool.or_assoc]
 have:=key l.length 0 (by omega) [] false (Nat.le_refl _)
 rw[List.drop_zero,List.nil_append,Bool.false_or]at this
 exact this
theorem qsg {α:Type}{a:List α}{x:α}(h:a.length<SM):cond (qb9 a) (jw (apO (yr a) [x]) fun v=>some (v,true)) (cond (yr a).isNone (jw (apO (yr a) [x]) fun v=>some (v,true)) none)=some (yr (a++[x]),true):=qet (k:=fun v=>some (v,true)) h
theorem qai {α β:Type}{h:α→List β}(hh:∀x,(h x).length≤1):∀l:List α,(l.flatMap h).length≤l.length
 | []=>Nat.le_refl _
 |x::l=>by rw[List.flatMap_cons,List.length_append,List.length_cons];have:=hh x;have:=qai hh l;omega
theorem jkf {o:Option (List qm)}{x:qm}(hl:(o.getD []).length<SM)(hk:qb5 (·.k) (o.getD []))(h0:0≤x.n):∃v w,f203 o x=some (v,w)∧v.getD []=qbn (o.getD []) x.k x.n:=by
 let h:qm→List qm:=fun y=>if isK x.k y then(if 0<x.n then [x]else [])else [y]
 have hh:∀y,(h y).length≤1:=by intro y;simp only[h];split<;>(try split)<;>simp
 have L:=quk (l:=o.getD []) (h:=h) (q:=isK x.k) (f:=qk6 o x) hh (fun o b w=>by unfold qk6;simp only[ku];rfl) (fun i y a b hy hi ha=>by
  unfold qk6
  simp only[qal hi,cT,jw,z6 hy]
  rw[qaj (by unfold SM at hl;omega)]
  simp only[h,isK]
  by_cases h1:y.k=x.k
  ·by_cases h2:0<x.n
   ·simp only[h1,h2,decide_true,cT,if_true,Bool.or_true]
    rw[qfj]
    exact qet (x:=x) (k:=fun v=>some (Sum.inl (v,true,((i+1:Nat):Int),true))) (by unfold SM at hl;omega)
   ·simp[h1,h2]
  ·simp only[h1,decide_false,cond_false,Bool.false_eq_true,if_false,Bool.or_false]
   rw[qfj]
   exact qet (x:=y) (k:=fun v=>some (Sum.inl (v,b,((i+1:Nat):Int),true))) (by unfold SM at hl;omega))
 unfold f203
 rw[L]
 simp only[jw]
 have hlen:((o.getD []).flatMap h).length<SM:=Nat.lt_of_le_of_lt (qai hh _) hl
 by_cases hn:x.n=0
 ·have hp:decide (0<x.n)=false:=by rw[hn];rfl
  have hf:(o.getD []).flatMap h=(o.getD []).filter fun y=>!isK x.k y:=by
   rw[show h=fun y=>if(!isK x.k y)then [id y]else [] by funext y;simp only[h,hn];cases isK x.k y<;>rfl,qpq,List.map_id]
  unfold qbn
  rw[if_pos hn,hp,←hf]
  cases (o.getD []).any (isK x.k)<;>exact⟨_,_,rfl,ko _⟩
 ·have hp:decide (0<x.n)=true:=dT (by omega)
  have hf:(o.getD []).flatMap h=(o.getD []).map fun y=>if isK x.k y then x else y:=by
   rw[←qii]
   congr 1
   funext y
   have:0<x.n:=by omega
   simp only[h,this,if_true]
   cases isK x.k y<;>rfl
  have hpa:=putAll_eq (key:=fun y:qm=>y.k) (k:=x.k) (x:=x) hk
  unfold qbn
  rw[if_neg hn,hp,show(⟨x.k,x.n⟩:qm)=x from rfl,show qbs (isK x.k) x (o.getD [])=qx1 (isK x.k) x (o.getD [])from hpa.symm]
  unfold qx1
  rw[←hf]
  cases ha:(o.getD []).any (isK x.k)with
  |true=>exact⟨_,_,rfl,by rw[ko];simp⟩
  |false=>
   simp only[cond_false,cT,Bool.false_eq_true,if_false]
   have:=qsg (x:=x) hlen
   simp only[jw]at this
   rw[this]
   exact⟨_,_,rfl,ko _⟩
theorem jmd {o:Option (List qk)}{x:qk}(hl:(o.getD []).length<SM)(hk:qb5 (·.k) (o.getD [])):∃v w,f204 o x=some (v,w)∧v.getD []=qbs (isT x.k) x (o.getD []):=by
 let h:qk→List qk:=fun y=>if isT x.k y then [x]else [y]
 have hh:∀y,(h y).length≤1:=by intro y;simp only[h];split<;>simp
 have L:=quk (l:=o.getD []) (h:=h) (q:=isT x.k) (f:=qkf o x) hh (fun o b w=>by unfold qkf;simp only[ku];rfl) (fun i y a b hy hi ha=>by
  unfold qkf
  simp only[qal hi,cT,jw,z6 hy]
  rw[qaj (by unfold SM at hl;omega)]
  simp only[h,isT]
  by_cases h1:y.k=x.k
  ·simp only[h1,decide_true,cT,if_true,Bool.or_true]
   rw[qfj]
   exact qet (x:=x) (k:=fun v=>some (Sum.inl (v,true,((i+1:Nat):Int),true))) (by unfold SM at hl;omega)
  ·simp only[h1,decide_false,cond_false,Bool.false_eq_true,if_false,Bool.or_false]
   rw[qfj]
   exact qet (x:=y) (k:=fun v=>some (Sum.inl (v,b,((i+1:Nat):Int),true))) (by unfold SM at hl;omega))
 unfold f204
 rw[L]
 simp only[jw]
 have hlen:((o.getD []).flatMap h).length<SM:=Nat.lt_of_le_of_lt (qai hh _) hl
 have hf:(o.getD []).flatMap h=(o.getD []).map fun y=>if isT x.k y then x else y:=by
  rw[←qii]
  congr 1
  funext y
  simp only[h]
  cases isT x.k y<;>rfl
 have hpa:=putAll_eq (key:=fun y:qk=>y.k) (k:=x.k) (x:=x) hk
 rw[show qbs (isT x.k) x (o.getD [])=qx1 (isT x.k) x (o.getD [])from hpa.symm]
 unfold qx1
 rw[←hf]
 cases ha:(o.getD []).any (isT x.k)with
 |true=>exact⟨_,_,rfl,by rw[ko];simp⟩
 |false=>
  simp only[cond_false,Bool.false_eq_true,if_false]
  have:=qsg (x:=x) hlen
  simp only[jw]at this
  rw[this]
  exact⟨_,_,rfl,ko _⟩
theorem q0d {α:Type}{f:α→α}:∀ {l:List α},(∀x∈l,f x=x)→l.map f=l
 | [],_=>rfl
 |x::l,h=>by rw[List.map_cons,h x (List.mem_cons_self ..),q0d fun y hy=>h y (List.mem_cons_of_mem _ hy)]
theorem q54 {k:List UInt8}{F:qm→qm}:∀ {l:List qm},qb5 (·.k) l→(l.map fun y=>if isK k y then F y else y)=(match l.findIdx? (isK k)with
  |some i=>(match l[i]? with
   |some x=>l.set i (F x)
   |none=>l)
  |none=>l)
 | [],_=>rfl
 |y::l,h=>by
  have h':qb5 (·.k) l:=(List.nodup_cons.1 h).2
  have hn:¬y.k∈l.map (·.k):=(List.nodup_cons.1 h).1
  rw[List.map_cons,List.findIdx?_cons]
  cases hy:isK k y with
  |true=>
   have hk:y.k=k:=of_decide_eq_true hy
   simp only[if_true]
   rw[q0d fun x hx=>by
    have:isK k x=false:=dF fun hxk=>hn (by rw[hk,←hxk];exact List.mem_map_of_mem hx)
    rw[this];rfl]
   rfl
  |false=>
   simp only[Bool.false_eq_true,if_false]
   rw[q54 h']
   cases hi:l.findIdx? (isK k)with
   |none=>rfl
   |some i=>
    obtain⟨x,h1,_⟩:=findIdx?_get hi
    simp[h1]
theorem jlx {o:Option (List qm)}{k:List UInt8}{n:Int}(hl:(o.getD []).length<SM)(hk:qb5 (·.k) (o.getD [])):∃v w,f252 o k n=some (v,w)∧v.getD []=qgg (j6 .i64) (o.getD []) k n:=by
 let h:qm→List qm:=fun y=>if isK k y then [⟨y.k,j6 .i64 (y.n+n)⟩]else [y]
 have hh:∀y,(h y).length≤1:=by intro y;simp only[h];split<;>simp
 have L:=quk (l:=o.getD []) (h:=h) (q:=isK k) (f:=qk4 o k n) hh (fun o b w=>by unfold qk4;simp only[ku];rfl) (fun i y a b hy hi ha=>by
  unfold qk4
  simp only[qal hi,cT,jw,z6 hy]
  rw[qaj (by unfold SM at hl;omega)]
  simp only[h,isK]
  by_cases h1:y.k=k
  ·simp only[h1,decide_true,cT,if_true,Bool.or_true]
   rw[qfj]
   exact qet (x:=(⟨k,j6 .i64 (y.n+n)⟩:qm)) (k:=fun v=>some (Sum.inl (v,true,((i+1:Nat):Int),true))) (by unfold SM at hl;omega)
  ·simp only[h1,decide_false,cond_false,Bool.false_eq_true,if_false,Bool.or_false]
   rw[qfj]
   exact qet (x:=y) (k:=fun v=>some (Sum.inl (v,b,((i+1:Nat):Int),true))) (by unfold SM at hl;omega))
 unfold f252
 rw[L]
 simp only[jw]
 have hlen:((o.getD []).flatMap h).length<SM:=Nat.lt_of_le_of_lt (qai hh _) hl
 have hf:(o.getD []).flatMap h=(o.getD []).map fun y=>if isK k y then(⟨k,j6 .i64 (n+y.n)⟩:qm)else y:=by
  rw[←qii]
  congr 1
  funext y
  simp only[h]
  cases hy:isK k y with
  |false=>rfl
  |true=>rw[show y.k=k from of_decide_eq_true hy,Int.add_comm];rfl
 rw[q54 hk]at hf
 unfold qgg
 cases hi:(o.getD []).findIdx? (isK k)with
 |some i=>
  obtain⟨x,h1,_⟩:=findIdx?_get hi
  have ha:(o.getD []).any (isK k)=true:=by rw[any_findIdx,hi];rfl
  rw[hi]at hf
  simp only[h1]at hf ⊢
  rw[ha,hf]
  exact⟨_,_,rfl,ko _⟩
 |none=>
  have ha:(o.getD []).any (isK k)=false:=by rw[any_findIdx,hi];rfl
  rw[hi]at hf
  simp only at hf ⊢
  rw[ha]
  have:=qsg (x:=(⟨k,n⟩:qm)) hlen
  simp only[jw]at this
  simp only[cond_false]
  rw[this,hf]
  exact⟨_,_,rfl,ko _⟩
end Go.Z
