/- Chapter 10, plain. -/
import Derived.Test.YtfopaakmgogpiaaGreatDoorE1
import Derived.Test.YtfopaakmgogpiaaGreatDoorV3
set_option linter.unusedVariables false
set_option linter.unusedSimpArgs false
set_option maxRecDepth 100000
open Option renaming some→Ef,getD_some→E0,any_some→Gm
open Bool renaming false_eq_true→En,true→E1,false→E9,or_false→Ha,or_true→Hq,not_true→Mw
open Nat renaming le_refl→E3,lt_of_le_of_lt→Ga,le_of_lt→Ge,succ_le_succ→Mi
open List renaming getElem?_eq_getElem→E4,drop_eq_nil_of_le→E6,mem_of_getElem?→E7,getElem?_eq_some_iff→Gb,any_cons→Gc,map_cons→Gd,drop_zero→Gy,mem_cons_of_mem→Gz,mem_cons_self→Hb,length_append→Hh,append_assoc→H6,flatMap_cons→If,length_cons→Ma,foldl_cons→Mj,nil_append→Mn,nodup_cons→Mt,all_cons→Mu
namespace Go.Z
open Go Go.Abs Go.W
variable {r:qc}{u:qf}{D:qr}
theorem q2v {k:List UInt8}{v:Int}:∀l:List (List UInt8×Int),(kF l k v).length≤l.length+1
 | []=>E3 _
 |p::l=>by
  unfold kF
  split
  ·simp
  ·simp only[Ma];exact Mi (q2v l)
theorem q8g {α γ:Type}{l:List α}{i:Nat}{x:α}(hx:l[i]?=Ef x)(g:γ→α→γ)(c:γ):(l.take (i+1)).foldl g c=g ((l.take i).foldl g c) x:=by
 rw[List.take_add_one,hx,List.foldl_append];rfl
theorem jl1 (hL:(r.au.getD []).length≤SM)(hu:(u.uses.getD []).length≤SM)(hw:∀x∈u.uses.getD [],(ku r.er x.k).isSome=E1):∃M,bf (oy r u vJ) (0,[])=Ef (((u.uses.getD []).length:Int),M)∧∀kind,l8 M kind=DX (j6 .i64) r.er u.er kind:=by
 let g:List (List UInt8×Int)→qm→List (List UInt8×Int):=fun c x=>match nO r.er x.k with
  |some y=>kF c y.kind (j6 .i64 (l8 c y.kind+x.n))
  |none=>c
 let I:Nat→List (List UInt8×Int)→Prop:=fun i M=>M.length≤i∧∀kind,l8 M kind=((u.uses.getD []).take i).foldl (Nr r.er kind) 0
 have hg:∀i x c,(u.uses.getD [])[i]?=Ef x→I i c→I (i+1) (g c x)∧∃y,nO r.er x.k=Ef y∧vJ c y x.n=Ef (g c x):=by
  intro i x c hx hI
  obtain⟨y,hy⟩:=GY (hw x (E7 hx))
  have hi:=(Gb.1 hx).1
  have SG:g c x=kF c y.kind (j6 .i64 (l8 c y.kind+x.n)):=by simp only[g,hy]
  rw[SG]
  refine⟨⟨Nat.le_trans (q2v _) (Mi hI.1),fun kind=>?_⟩,y,hy,?_⟩
  ·rw[q8g hx,jdl,←hI.2 kind]
   unfold Nr
   rw[hy]
   simp only[Gm]
   by_cases hk:kind=y.kind
   ·subst hk;simp
   ·have cY:¬y.kind=kind:=fun h=>hk h.symm
    simp[hk,cY]
  ·unfold vJ Nk
   rw[if_pos (by have:=hI.1;unfold SM at hu;omega)]
 have:=q6x (step:=vJ) (g:=g) I hL hu hg [] ⟨E3 _,fun kind=>rfl⟩
 have hI:∀(k i:Nat) (c:List (List UInt8×Int)),i+k=(u.uses.getD []).length→I i c→I (u.uses.getD []).length (((u.uses.getD []).drop i).foldl g c):=by
  intro k
  induction k with
  |zero=>
   intro i c hi hc
   have:i=(u.uses.getD []).length:=by omega
   subst this
   rw[E6 (E3 _)];exact hc
  |succ k ih=>
   intro i c hi hc
   obtain⟨x,hx⟩:∃x,(u.uses.getD [])[i]?=Ef x:=⟨_,E4 (by omega)⟩
   rw[qN hx,Mj]
   exact ih (i+1) _ (by omega) (hg i x c hx hc).1
 have h2:=hI _ 0 [] (Nat.zero_add _) ⟨E3 _,fun kind=>rfl⟩
 rw[Gy]at h2
 refine⟨_,this,fun kind=>?_⟩
 rw[h2.2 kind,List.take_length]
 rfl
theorem xE (o:Option Nat):decide (0≤ec o)=o.isSome:=by
 cases o with
 |none=>rfl
 |some k=>exact dT (by show(0:Int)≤(k:Int);omega)
theorem cn {α:Type}{p:α→Bool}{l:List α}:(l.findIdx? p).isSome=l.any p:=by rw[DY]
theorem jfm {l:Option (List qm)}{M:List (List UInt8×Int)}(hl:(l.getD []).length≤SM):GZ l M=Ef ((l.getD []).any fun n=>decide (l8 M n.k<n.n)):=by
 have:G0 l M=Ef (ec ((l.getD []).findIdx? fun n=>decide (l8 M n.k<n.n))):=by
  unfold G0
  exact mV (p:=fun n=>decide (l8 M n.k<n.n)) hl fun i=>rfl
 unfold GZ
 rw[this]
 simp only[jw,xE,cn]
theorem jnd (hL:(r.au.getD []).length≤SM)(hu:(u.uses.getD []).length≤SM)(hw:∀x∈u.uses.getD [],(ku r.er x.k).isSome=E1)(hd:f134 r u=Ef D)(hn:(D.ax.getD []).length≤SM):f141 r u=Ef (xF (j6 .i64) r.er D.er u.er):=by
 obtain⟨M,h1,h2⟩:=jl1 hL hu hw
 unfold f141
 rw[h1,hd]
 simp only[jw,jfm hn,Ef.injEq]
 unfold xF
 rw[show D.er.ax=D.ax.getD []from rfl]
 induction D.ax.getD []with
 |nil=>rfl
 |cons n l ih=>
  rw[Gc,Mu,Bool.not_or,ih,h2]
  congr 1
  by_cases h:DX (j6 .i64) r.er u.er n.k<n.n
  ·rw[dT h,dF (by omega)];rfl
  ·rw[dF h,dT (by omega)];rfl
theorem jri (hL:(r.au.getD []).length≤SM)(hu:(u.uses.getD []).length≤SM)(hw:∀x∈u.uses.getD [],(ku r.er x.k).isSome=E1)(hd:f78 r u=Ef D)(hn:(D.ax.getD []).length≤SM):f81 r u=Ef (xF (j6 .i64) r.er D.er u.er):=by
 unfold f81
 rw[hd]
 simp only[jw]
 obtain⟨d,h1,h2⟩:=U1 (D.ax.getD []) (AB r u D) (fun n=>decide (n.n≤DX (j6 .i64) r.er u.er n.k)) (fun d=>match d with | .inl _=>E9 | .inr _=>E1) ⟨.inr ((D.ax.getD []).length:Int),by unfold AB;simp only[kw];rfl,rfl⟩ (fun i x hx hi=>by
  unfold AB
  simp only[fA hi,cT,jw,z6 hx,jle hL hu hw]
  rw[il (by unfold SM at hn;omega)]
  by_cases h:DX (j6 .i64) r.er u.er x.k<x.n
  ·exact .inr ⟨dF (by omega),.inl (),by rw[dT h];rfl,rfl⟩
  ·exact .inl ⟨dT (by omega),by rw[dF h];rfl⟩)
 rw[h1]
 unfold xF
 rw[show D.er.ax=D.ax.getD []from rfl,←h2]
 cases d<;>rfl
def DZ (r:qu)(us:List qm):List qk:=us.map fun x=>(nO r x.k).getD ⟨[],[],0,0,E9⟩
theorem je6 (hL:(r.au.getD []).length≤SM)(hu:(u.uses.getD []).length≤SM)(hw:∀x∈u.uses.getD [],(ku r.er x.k).isSome=E1):bf (oy r u xG) (0,none)=Ef (((u.uses.getD []).length:Int),yq (DZ r.er (u.uses.getD []))):=by
 let gx:qm→qk:=fun x=>(nO r.er x.k).getD ⟨[],[],0,0,E9⟩
 let g:Option (List qk)→qm→Option (List qk):=fun c x=>yq (c.getD []++[gx x])
 have:=q6x (step:=xG) (g:=g) (fun i c=>∃a:List qk,c=yq a∧a.length=i) hL hu (fun i x c hx hI=>by
  obtain⟨a,rfl,ha⟩:=hI
  have hi:=(Gb.1 hx).1
  obtain⟨y,hy⟩:=GY (hw x (E7 hx))
  have hgx:gx x=y:=by simp only[gx,hy,E0]
  refine⟨⟨a++[y],by simp only[g,hgx,kn],by simp[ha]⟩,y,hy,?_⟩
  unfold xG
  rw[qvs (by unfold SM at hu;omega)]
  simp only[g,hgx,kn]) none ⟨[],rfl,rfl⟩
 rw[this]
 congr 2
 have key:∀(l:List qm) (a:List qk),l.foldl g (yq a)=yq (a++l.map gx):=by
  intro l
  induction l with
  |nil=>intro a;simp
  |cons x l ih=>
   intro a
   rw[Mj,show g (yq a) x=yq (a++[gx x]) by simp only[g,kn],ih,Gd,H6];rfl
 have:=key (u.uses.getD []) []
 rw[Mn]at this
 exact this
theorem q5f (hw:∀x∈u.uses.getD [],(ku r.er x.k).isSome=E1):AE r.er u.er=!((DZ r.er (u.uses.getD [])).filter (·.held)).isEmpty:=by
 unfold AE DZ
 rw[show u.er.uses=u.uses.getD []from rfl]
 revert hw
 generalize u.uses.getD []=us
 intro hw
 induction us with
 |nil=>rfl
 |cons x l ih=>
  obtain⟨y,hy⟩:=GY (hw x (Hb ..))
  rw[Gc,ih (fun x hx=>hw x (Gz _ hx)),Gd,List.filter_cons,hy]
  simp only[Gm,E0]
  cases y.held<;>rfl
theorem kU {b:Bool}{e:Int}:f53 b e=Ef (if b then e else 0):=by unfold f53;cases b<;>rfl
theorem jmn {l:List qk}(hl:l.length≤SM):f142 (yq l)=Ef (yq (l.filter (·.held)),fR (l.filter (·.held))):=by
 unfold f142
 rw[Va (f:=G1 (yq l)) (l:=(yq l).getD []) (p:=fun x:qk=>x.held) (q:=fun x=>f143 x) (by rw[kn];exact hl) (fun x _=>rfl) (fun s=>rfl),kn]
 rfl
def eW:List Int→Int
 | []=>0
 |e::l=>if e=0 then eW l else e
theorem iG {l:List Int}(hl:l.length≤SM):f51 (Ef l)=Ef (eW l):=by
 unfold f51
 have:=GJ l.length (fun i=>(i:Int)) (AF (Ef l)) (fun d=>match d with | .inl k=>k | .inr _=>(0:Int)) (fun i=>eW (l.drop i)) ⟨.inr (l.length:Int),by unfold AF;simp only[E0,kw];rfl,by rw[E6 (E3 _)];rfl⟩ (fun i hi=>by
  obtain⟨x,hx⟩:∃x,l[i]?=Ef x:=⟨_,E4 hi⟩
  unfold AF
  simp only[E0,fA hi,cT,jw,z6 hx,qN hx,eW]
  by_cases h0:x=0
  ·simp only[h0,decide_true,cT,if_true]
   rw[il (by unfold SM at hl;omega)]
   left;constructor<;>first|rfl|trivial
  ·simp only[h0,decide_false,cond_false,if_false]
   exact .inr ⟨_,rfl,rfl⟩)
 obtain⟨d,h1,h2⟩:=this
 rw[show((0:Int))=((0:Nat):Int)from rfl,h1]
 rw[Gy]at h2
 simp only[jw]
 rw[←h2]
 cases d<;>rfl
theorem qvk {α:Type}{l:List α}:decide (0<(((yq l).getD []).length:Int))=!l.isEmpty:=by
 rw[kn]
 cases l with
 |nil=>rfl
 |cons x l=>simp
theorem q0s {w:Int→Int}{r:qu}{u:qz}{d:jg}{v:Int}(hd:gU r u=Ef d)(hv:pv r u=Ef v):uJ w r u=if u.aq then 21 else if u.version≠v then 32 else if !xF w r d u then 20 else if !(xD d u).isEmpty then 31 else if AE r u then 34 else 0:=by
 unfold uJ
 rw[hd,hv]
 cases u.aq
 ·by_cases h:u.version=v
  ·simp[h]
  ·simp[h,Ne.symm h]
 ·rfl
theorem jqd {v:Int}(hP:(r.ae.getD []).length≤SM)(iO:pv r.er u.er=Ef v)(hL:(r.au.getD []).length≤SM)(hu:(u.uses.getD []).length≤SM)(hw:∀x∈u.uses.getD [],(ku r.er x.k).isSome=E1)(hd:f134 r u=Ef D)(hp:gU r.er u.er=Ef D.er)(hn:(D.ax.getD []).length≤SM)(hr:(u.results.getD []).length≤SM)(ht:(D.aw.getD []).length≤SM)(hv:u.version≠-1):f75 r u=Ef (uJ (j6 .i64) r.er u.er):=by
 obtain⟨w,hm⟩:=jrn hd hr ht hv
 have hll:(DZ r.er (u.uses.getD [])).length≤SM:=by unfold DZ;rw[List.length_map];exact hu
 unfold f75
 rw[je6 hL hu hw]
 simp only[jw,kU,(Nq hP iO).1,jnd hL hu hw hd hn,hm,jmn hll,qvk]
 rw[iG (by simp[SM]),q0s hp iO,q5f hw]
 congr 1
 show eW _=if u.aq then 21 else if u.version≠v then 32 else _
 cases u.aq<;>by_cases h1:u.version=v<;>cases xF (j6 .i64) r.er D.er u.er<;>cases (xD D.er u.er).isEmpty<;>cases ((DZ r.er (u.uses.getD [])).filter (·.held)).isEmpty<;>simp[eW,h1]
theorem jef (hL:(r.au.getD []).length≤SM)(hu:(u.uses.getD []).length≤SM)(hw:∀x∈u.uses.getD [],(ku r.er x.k).isSome=E1):(jw (bf (xH r u) 0) fun d=>match d with | .inl _=>Ef (34:Int) | .inr _=>Ef 0)=Ef (if AE r.er u.er then 34 else 0):=by
 obtain⟨d,h1,h2⟩:=U1 (u.uses.getD []) (xH r u) (fun x=>!(nO r.er x.k).any (·.held)) (fun d=>match d with | .inl _=>E9 | .inr _=>E1) ⟨.inr ((u.uses.getD []).length:Int),by unfold xH;simp only[kw];rfl,rfl⟩ (fun i x hx hi=>by
  obtain⟨y,hy⟩:=GY (hw x (E7 hx))
  obtain⟨k,h3,h4⟩:=Vc hy
  unfold xH
  simp only[fA hi,cT,jw,z6 hx,GK hL,h3,ec,z6 h4,hy,Gm]
  rw[il (by unfold SM at hu;omega)]
  cases y.held with
  |true=>exact .inr ⟨rfl,.inl (),rfl,rfl⟩
  |false=>exact .inl ⟨rfl,rfl⟩)
 rw[h1]
 have h3:AE r.er u.er=!((u.uses.getD []).all fun x=>!(nO r.er x.k).any (·.held)):=by
  unfold AE
  rw[show u.er.uses=u.uses.getD []from rfl]
  induction u.uses.getD []with
  |nil=>rfl
  |cons x l ih=>rw[Gc,Mu,ih,Bool.not_and,Bool.not_not]
 rw[h3,←h2]
 cases d<;>rfl
theorem js3 {v:Int}(hP:(r.ae.getD []).length≤SM)(iO:pv r.er u.er=Ef v)(hL:(r.au.getD []).length≤SM)(hu:(u.uses.getD []).length≤SM)(hw:∀x∈u.uses.getD [],(ku r.er x.k).isSome=E1)(hd:f78 r u=Ef D)(hp:gU r.er u.er=Ef D.er)(hn:(D.ax.getD []).length≤SM)(hr:(u.results.getD []).length≤SM)(ht:(D.aw.getD []).length≤SM):f31 r u=Ef (uJ (j6 .i64) r.er u.er):=by
 rw[q0s hp iO]
 unfold f31
 cases hs:u.aq with
 |true=>rw[show u.er.aq=E1 from hs];rfl
 |false=>
  have oX:(⟨u.name,u.product,u.version,u.uses,u.results,u.partner,E9,u.ai⟩:qf)=u:=by cases u;simp only at hs;rw[hs]
  rw[show u.er.aq=E9 from hs,oX]
  obtain⟨w,hm⟩:=jtb (r:=r) (u:=u) hd hr ht
  simp only[cond_false,jw,(Nq hP iO).2,jri hL hu hw hd hn,hm,qvk,En,if_false]
  have hh:=jef hL hu hw
  simp only[jw]at hh
  by_cases h1:u.version=v
  ·rw[dT h1,if_neg (show ¬u.er.version≠v from fun h=>h h1)]
   simp only[cT]
   cases xF (j6 .i64) r.er D.er u.er
   ·rfl
   ·simp only[cT,Mw,En,if_false]
    cases (xD D.er u.er).isEmpty
    ·rfl
    ·simp only[Mw,cond_false,En,if_false]
     exact hh
  ·rw[dF h1,if_pos (show u.er.version≠v from h1)]
   rfl
end Go.Z
namespace Go.Z
open Go Go.Abs Go.W
theorem D0 {α:Type}{o:Option (List α)}{ys:List α}(h:(o.getD []).length+ys.length≤SM)(hy:ys≠[]):bh o ys=Ef (Ef (o.getD []++ys)):=by
 unfold bh D1
 rw[if_pos h]
 cases o<;>cases ys<;>first|exact absurd rfl hy|rfl
theorem AG {α:Type}{ys:List α}(h:ys.length≤SM):bh (Ef []) ys=Ef (Ef ys):=by
 unfold bh D1
 rw[if_pos (by simpa using h)]
 cases ys<;>rfl
theorem xI {α:Type}{o:Option (List α)}{x:α}(h:(o.getD []).length<SM):(jw (cond o.isNone (Ef (none,E9)) (jw (bh (Ef []) (o.getD [])) fun v=>Ef (v,E1))) fun v1=>cond v1.2 (jw (bh v1.1 [x]) fun v4=>Ef v4) (cond v1.1.isNone (jw (bh v1.1 [x]) fun v7=>Ef v7) none))=Ef (Ef (o.getD []++[x])):=by
 cases o with
 |none=>rfl
 |some l=>
  have h':l.length<SM:=h
  simp only[Option.isNone_some,cond_false,E0]
  rw[AG (by omega)]
  simp only[jw,cT]
  rw[D0 (o:=Ef l) (by simp only[E0,List.length_singleton];omega) (by simp)]
  rfl
theorem jll {o:Option (List qk)}{x:qk}(h:(o.getD []).length<SM):f164 o x=Ef (Ef (o.getD []++[x])):=xI h
theorem jmy {o:Option (List qi)}{x:qi}(h:(o.getD []).length<SM):f166 o x=Ef (Ef (o.getD []++[x])):=xI h
theorem jmc {o:Option (List qf)}{x:qf}(h:(o.getD []).length<SM):f183 o x=Ef (Ef (o.getD []++[x])):=xI h
theorem jmr {o:Option (List qr)}{x:qr}(h:(o.getD []).length<SM):f180 o x=Ef (Ef (o.getD []++[x])):=xI h
theorem jlo {o:Option (List qm)}{x:qm}(h:(o.getD []).length<SM):f239 o x=Ef (Ef (o.getD []++[x])):=xI h
theorem jna {o:Option (List qj)}{x:qj}(h:(o.getD []).length<SM):f243 o x=Ef (Ef (o.getD []++[x])):=xI h
theorem jk7 {o:Option (List qm)}{x:qm}(h:(o.getD []).length<SM):f250 o x=Ef (Ef (o.getD []++[x])):=xI h
theorem jng {o:Option (List qj)}{x:qj}(h:(o.getD []).length<SM):f194 o x=Ef (Ef (o.getD []++[x])):=xI h
theorem nP {α:Type}{o:Option (List α)}{i:Nat}{x y:α}{g:α→Option α}(hl:(o.getD []).length≤SM)(hx:(o.getD [])[i]?=Ef x)(hg:g x=Ef y):fN o (i:Int) g=Ef (Ef ((o.getD []).set i y)):=by
 unfold fN
 rw[if_pos ⟨hl,by omega⟩,Int.toNat_natCast,hx]
 simp only[hg]
theorem Vd {α:Type}{o:Option (List α)}{i:Nat}{x:α}(hl:(o.getD []).length≤SM)(hx:i<(o.getD []).length):AH o (i:Int) x=Ef (Ef ((o.getD []).set i x)):=by
 unfold AH
 rw[if_pos ⟨hl,by omega,by omega⟩,Int.toNat_natCast]
theorem Ve {α:Type}{o:Option (List α)}{x:α}{p:α→Bool}{g:α→Option α}(hl:(o.getD []).length<SM)(hg:∀y,g y=Ef x):
  ∃v w,(cond (decide (0≤ec ((o.getD []).findIdx? p))) (jw (fN o (ec ((o.getD []).findIdx? p)) g) fun v4=>Ef (v4,E9)) (jw (Ef (Ef (o.getD []++[x]))) fun v6=>Ef (v6,E1)))=Ef (v,w)∧v.getD []=eX p x (o.getD []):=by
 unfold eX
 cases h:(o.getD []).findIdx? p with
 |none=>exact⟨_,_,rfl,rfl⟩
 |some k=>
  obtain⟨y,h1,_⟩:=bI h
  rw[show decide (0≤ec (Ef k))=E1 from xE (Ef k)]
  simp only[cT,ec]
  rw[nP (Ge hl) h1 (hg y)]
  exact⟨_,_,rfl,rfl⟩
theorem jlw {o:Option (List qm)}{x:qm}{k:List UInt8}(hl:(o.getD []).length<SM):∃v w,f173 o x k=Ef (v,w)∧v.getD []=eX (cO k) x (o.getD []):=by
 unfold f173
 have:G2 o k=Ef (ec ((o.getD []).findIdx? (cO k))):=by unfold G2;exact mV (p:=cO k) (Ge hl) fun i=>rfl
 rw[this]
 simp only[jw]
 rw[jlo hl]
 exact Ve (p:=cO k) (g:=fun _=>Ef x) hl fun _=>rfl
theorem jld {o:Option (List qj)}{x s:qj}(hl:(o.getD []).length<SM):∃v w,f177 o x s=Ef (v,w)∧v.getD []=eX (ef s.k) x (o.getD []):=by
 unfold f177
 have:xJ o s=Ef (ec ((o.getD []).findIdx? (ef s.k))):=by unfold xJ;exact mV (p:=ef s.k) (Ge hl) fun i=>rfl
 rw[this]
 simp only[jw]
 rw[jna hl]
 exact Ve (p:=ef s.k) (g:=fun _=>Ef x) hl fun _=>rfl
theorem jnh {o:Option (List qm)}{x:qm}{t:qk}(hl:(o.getD []).length<SM):∃v w,f191 o x t=Ef (v,w)∧v.getD []=eX (cO t.name) x (o.getD []):=by
 unfold f191
 have:f188 o t=Ef (ec ((o.getD []).findIdx? (cO t.name))):=by unfold f188;exact mV (p:=cO t.name) (Ge hl) fun i=>rfl
 rw[this]
 simp only[jw]
 rw[jk7 hl]
 exact Ve (p:=cO t.name) (g:=fun _=>Ef x) hl fun _=>rfl
theorem jl6 {o:Option (List qm)}{t:qk}(hl:(o.getD []).length≤SM):f188 o t=Ef (ec ((o.getD []).findIdx? (cO t.name))):=by
 unfold f188;exact mV (p:=cO t.name) hl fun i=>rfl
theorem jk8 {o:Option (List qm)}{k:List UInt8}(hl:(o.getD []).length≤SM):f171 o k=Ef (yq ((o.getD []).filter fun x=>!cO k x),fR ((o.getD []).filter fun x=>!cO k x)):=by
 unfold f171
 rw[Va (f:=G3 o k) (l:=o.getD []) (p:=fun x=>!cO k x) (q:=fun x=>f172 x k) hl (fun x _=>rfl) (fun s=>rfl)]
 rfl
theorem jjd {o:Option (List qm)}{k:List UInt8}(hl:(o.getD []).length≤SM):G4 o k=Ef ((o.getD []).any (cO k)):=by
 have:G5 o k=Ef (ec ((o.getD []).findIdx? (cO k))):=by unfold G5;exact mV (p:=cO k) hl fun i=>rfl
 unfold G4;rw[this];simp only[jw,xE,cn]
theorem jfj {o:Option (List qm)}{t:qk}(hl:(o.getD []).length≤SM):G6 o t=Ef ((o.getD []).any (cO t.kind)):=by
 have:G7 o t=Ef (ec ((o.getD []).findIdx? (cO t.kind))):=by unfold G7;exact mV (p:=cO t.kind) hl fun i=>rfl
 unfold G6;rw[this];simp only[jw,xE,cn]
theorem ji4 {o:Option (List qj)}{s:qj}(hl:(o.getD []).length≤SM):G8 o s=Ef ((o.getD []).any (ef s.k)):=by
 have:xJ o s=Ef (ec ((o.getD []).findIdx? (ef s.k))):=by unfold xJ;exact mV (p:=ef s.k) hl fun i=>rfl
 unfold G8;rw[this];simp only[jw,xE,cn]
theorem jec {o:Option (List qj)}{e:ql}{n:List UInt8}(hn:zo (e.names.getD []) 1=Ef n)(hl:(o.getD []).length≤SM):G9 o e=Ef ((o.getD []).any (ef n)):=by
 have:Hc o e=Ef (ec ((o.getD []).findIdx? (ef n))):=by
  unfold Hc
  refine mV (p:=ef n) hl fun i=>?_
  unfold Hd f192
  rw[hn]
  rfl
 unfold G9;rw[this];simp only[jw,xE,cn]
theorem Vf {α β:Type}{l:List α}{h:α→List β}{q:α→Bool}{f:Option (List β)×Bool×Int×Bool→Option ((Option (List β)×Bool×Int×Bool)⊕(Option (List β)×Bool×Bool×Int))}(hh:∀x,(h x).length≤1)
  (cN:∀o b w,f (o,b,(l.length:Int),w)=Ef (.inr (o,w,b,(l.length:Int))))
  (hf:∀(i:Nat) x (a:List β) b,l[i]?=Ef x→i<l.length→a.length≤i→f (yq a,b,(i:Int),fR a)=Ef (.inl (yq (a++h x),b||q x,((i+1:Nat):Int),fR (a++h x)))):
  bf f (none,E9,0,E9)=Ef (yq (l.flatMap h),fR (l.flatMap h),l.any q,(l.length:Int)):=by
 have key:∀(k i:Nat),i+k=l.length→∀a b,a.length≤i→bf f (yq a,b,(i:Int),fR a)=Ef (yq (a++(l.drop i).flatMap h),fR (a++(l.drop i).flatMap h),b||(l.drop i).any q,(l.length:Int)):=by
  intro k
  induction k with
  |zero=>
   intro i hi a b _
   have:i=l.length:=by omega
   subst this
   rw[E6 (E3 _),List.flatMap_nil,List.append_nil,iT (cN _ _ _)]
   simp
  |succ k ih=>
   intro i hi a b ha
   obtain⟨x,hx⟩:∃x,l[i]?=Ef x:=⟨_,E4 (by omega)⟩
   rw[oo (hf i x a b hx (by omega) ha),ih (i+1) (by omega) _ _ (by rw[Hh];have:=hh x;omega),qN hx,If,H6,Gc,Bool.or_assoc]
 have:=key l.length 0 (by omega) [] E9 (E3 _)
 rw[Gy,Mn,Bool.false_or]at this
 exact this
theorem Vg {α:Type}{a:List α}{x:α}(h:a.length<SM):cond (fR a) (jw (bh (yq a) [x]) fun v=>Ef (v,E1)) (cond (yq a).isNone (jw (bh (yq a) [x]) fun v=>Ef (v,E1)) none)=Ef (yq (a++[x]),E1):=vI (k:=fun v=>Ef (v,E1)) h
theorem lm {α β:Type}{h:α→List β}(hh:∀x,(h x).length≤1):∀l:List α,(l.flatMap h).length≤l.length
 | []=>E3 _
 |x::l=>by rw[If,Hh,Ma];have:=hh x;have:=lm hh l;omega
theorem jmp {o:Option (List qm)}{x:qm}(hl:(o.getD []).length<SM)(hk:k9 (·.k) (o.getD []))(h0:0≤x.n):∃v w,f203 o x=Ef (v,w)∧v.getD []=iU (o.getD []) x.k x.n:=by
 let h:qm→List qm:=fun y=>if cO x.k y then(if 0<x.n then [x]else [])else [y]
 have hh:∀y,(h y).length≤1:=by intro y;simp only[h];split<;>(try split)<;>simp
 have L:=Vf (l:=o.getD []) (h:=h) (q:=cO x.k) (f:=AJ o x) hh (fun o b w=>by unfold AJ;simp only[kw];rfl) (fun i y a b hy hi ha=>by
  unfold AJ
  simp only[fA hi,cT,jw,z6 hy]
  rw[il (by unfold SM at hl;omega)]
  simp only[h,cO]
  by_cases h1:y.k=x.k
  ·by_cases h2:0<x.n
   ·simp only[h1,h2,decide_true,cT,if_true,Hq]
    rw[Ay]
    exact vI (x:=x) (k:=fun v=>Ef (Sum.inl (v,E1,((i+1:Nat):Int),E1))) (by unfold SM at hl;omega)
   ·simp[h1,h2]
  ·simp only[h1,decide_false,cond_false,En,if_false,Ha]
   rw[Ay]
   exact vI (x:=y) (k:=fun v=>Ef (Sum.inl (v,b,((i+1:Nat):Int),E1))) (by unfold SM at hl;omega))
 unfold f203
 rw[L]
 simp only[jw]
 have hlen:((o.getD []).flatMap h).length<SM:=Ga (lm hh _) hl
 by_cases hn:x.n=0
 ·have hp:decide (0<x.n)=E9:=by rw[hn];rfl
  have hf:(o.getD []).flatMap h=(o.getD []).filter fun y=>!cO x.k y:=by
   rw[show h=fun y=>if(!cO x.k y)then [id y]else [] by funext y;simp only[h,hn];cases cO x.k y<;>rfl,U8,List.map_id]
  unfold iU
  rw[if_pos hn,hp,←hf]
  cases (o.getD []).any (cO x.k)<;>exact⟨_,_,rfl,kn _⟩
 ·have hp:decide (0<x.n)=E1:=dT (by omega)
  have hf:(o.getD []).flatMap h=(o.getD []).map fun y=>if cO x.k y then x else y:=by
   rw[←Ni]
   congr 1
   funext y
   have:0<x.n:=by omega
   simp only[h,this,if_true]
   cases cO x.k y<;>rfl
  have uc:=q0l (key:=fun y:qm=>y.k) (k:=x.k) (x:=x) hk
  unfold iU
  rw[if_neg hn,hp,show(⟨x.k,x.n⟩:qm)=x from rfl,show eX (cO x.k) x (o.getD [])=D2 (cO x.k) x (o.getD [])from uc.symm]
  unfold D2
  rw[←hf]
  cases ha:(o.getD []).any (cO x.k)with
  |true=>exact⟨_,_,rfl,by rw[kn];simp⟩
  |false=>
   simp only[cond_false,cT,En,if_false]
   have:=Vg (x:=x) hlen
   simp only[jw]at this
   rw[this]
   exact⟨_,_,rfl,kn _⟩
theorem jla {o:Option (List qj)}{x:qj}(hl:(o.getD []).length<SM)(hk:k9 (·.k) (o.getD [])):∃v w,f204 o x=Ef (v,w)∧v.getD []=eX (ef x.k) x (o.getD []):=by
 let h:qj→List qj:=fun y=>if ef x.k y then [x]else [y]
 have hh:∀y,(h y).length≤1:=by intro y;simp only[h];split<;>simp
 have L:=Vf (l:=o.getD []) (h:=h) (q:=ef x.k) (f:=AK o x) hh (fun o b w=>by unfold AK;simp only[kw];rfl) (fun i y a b hy hi ha=>by
  unfold AK
  simp only[fA hi,cT,jw,z6 hy]
  rw[il (by unfold SM at hl;omega)]
  simp only[h,ef]
  by_cases h1:y.k=x.k
  ·simp only[h1,decide_true,cT,if_true,Hq]
   rw[Ay]
   exact vI (x:=x) (k:=fun v=>Ef (Sum.inl (v,E1,((i+1:Nat):Int),E1))) (by unfold SM at hl;omega)
  ·simp only[h1,decide_false,cond_false,En,if_false,Ha]
   rw[Ay]
   exact vI (x:=y) (k:=fun v=>Ef (Sum.inl (v,b,((i+1:Nat):Int),E1))) (by unfold SM at hl;omega))
 unfold f204
 rw[L]
 simp only[jw]
 have hlen:((o.getD []).flatMap h).length<SM:=Ga (lm hh _) hl
 have hf:(o.getD []).flatMap h=(o.getD []).map fun y=>if ef x.k y then x else y:=by
  rw[←Ni]
  congr 1
  funext y
  simp only[h]
  cases ef x.k y<;>rfl
 have uc:=q0l (key:=fun y:qj=>y.k) (k:=x.k) (x:=x) hk
 rw[show eX (ef x.k) x (o.getD [])=D2 (ef x.k) x (o.getD [])from uc.symm]
 unfold D2
 rw[←hf]
 cases ha:(o.getD []).any (ef x.k)with
 |true=>exact⟨_,_,rfl,by rw[kn];simp⟩
 |false=>
  simp only[cond_false,En,if_false]
  have:=Vg (x:=x) hlen
  simp only[jw]at this
  rw[this]
  exact⟨_,_,rfl,kn _⟩
theorem q0o {α:Type}{f:α→α}:∀ {l:List α},(∀x∈l,f x=x)→l.map f=l
 | [],_=>rfl
 |x::l,h=>by rw[Gd,h x (Hb ..),q0o fun y hy=>h y (Gz _ hy)]
theorem q6m {k:List UInt8}{F:qm→qm}:∀ {l:List qm},k9 (·.k) l→(l.map fun y=>if cO k y then F y else y)=(match l.findIdx? (cO k)with
  |some i=>(match l[i]? with
   |some x=>l.set i (F x)
   |none=>l)
  |none=>l)
 | [],_=>rfl
 |y::l,h=>by
  have h':k9 (·.k) l:=(Mt.1 h).2
  have hn:¬y.k∈l.map (·.k):=(Mt.1 h).1
  rw[Gd,List.findIdx?_cons]
  cases hy:cO k y with
  |true=>
   have hk:y.k=k:=of_decide_eq_true hy
   simp only[if_true]
   rw[q0o fun x hx=>by
    have:cO k x=E9:=dF fun hxk=>hn (by rw[hk,←hxk];exact List.mem_map_of_mem hx)
    rw[this];rfl]
   rfl
  |false=>
   simp only[En,if_false]
   rw[q6m h']
   cases hi:l.findIdx? (cO k)with
   |none=>rfl
   |some i=>
    obtain⟨x,h1,_⟩:=bI hi
    simp[h1]
theorem jk2 {o:Option (List qm)}{k:List UInt8}{n:Int}(hl:(o.getD []).length<SM)(hk:k9 (·.k) (o.getD [])):∃v w,f252 o k n=Ef (v,w)∧v.getD []=mW (j6 .i64) (o.getD []) k n:=by
 let h:qm→List qm:=fun y=>if cO k y then [⟨y.k,j6 .i64 (y.n+n)⟩]else [y]
 have hh:∀y,(h y).length≤1:=by intro y;simp only[h];split<;>simp
 have L:=Vf (l:=o.getD []) (h:=h) (q:=cO k) (f:=AL o k n) hh (fun o b w=>by unfold AL;simp only[kw];rfl) (fun i y a b hy hi ha=>by
  unfold AL
  simp only[fA hi,cT,jw,z6 hy]
  rw[il (by unfold SM at hl;omega)]
  simp only[h,cO]
  by_cases h1:y.k=k
  ·simp only[h1,decide_true,cT,if_true,Hq]
   rw[Ay]
   exact vI (x:=(⟨k,j6 .i64 (y.n+n)⟩:qm)) (k:=fun v=>Ef (Sum.inl (v,E1,((i+1:Nat):Int),E1))) (by unfold SM at hl;omega)
  ·simp only[h1,decide_false,cond_false,En,if_false,Ha]
   rw[Ay]
   exact vI (x:=y) (k:=fun v=>Ef (Sum.inl (v,b,((i+1:Nat):Int),E1))) (by unfold SM at hl;omega))
 unfold f252
 rw[L]
 simp only[jw]
 have hlen:((o.getD []).flatMap h).length<SM:=Ga (lm hh _) hl
 have hf:(o.getD []).flatMap h=(o.getD []).map fun y=>if cO k y then(⟨k,j6 .i64 (n+y.n)⟩:qm)else y:=by
  rw[←Ni]
  congr 1
  funext y
  simp only[h]
  cases hy:cO k y with
  |false=>rfl
  |true=>rw[show y.k=k from of_decide_eq_true hy,Int.add_comm];rfl
 rw[q6m hk]at hf
 unfold mW
 cases hi:(o.getD []).findIdx? (cO k)with
 |some i=>
  obtain⟨x,h1,_⟩:=bI hi
  have ha:(o.getD []).any (cO k)=E1:=by rw[DY,hi];rfl
  rw[hi]at hf
  simp only[h1]at hf ⊢
  rw[ha,hf]
  exact⟨_,_,rfl,kn _⟩
 |none=>
  have ha:(o.getD []).any (cO k)=E9:=by rw[DY,hi];rfl
  rw[hi]at hf
  simp only at hf ⊢
  rw[ha]
  have:=Vg (x:=(⟨k,n⟩:qm)) hlen
  simp only[jw]at this
  simp only[cond_false]
  rw[this,hf]
  exact⟨_,_,rfl,kn _⟩
end Go.Z
