/- Chapter 10, plain. -/
import Derived.Test.YtfopaakmgogpiaaGreatDoorEI
import Derived.Test.YtfopaakmgogpiaaGreatDoorWL
set_option linter.unusedVariables false
set_option linter.unusedSimpArgs false
set_option maxRecDepth 100000
set_option maxHeartbeats 4000000
open Option renaming some→I,any_some→Ga,getD_some→Gl
open Bool renaming true→Eh,false→Eo,false_or→Gc,true_and→Gf,not_eq_true→Gk,or_assoc→Gv,not_and→Gw
open List renaming getElem?_eq_some_iff→Ek,mem_of_getElem?→En,any_cons→Ep,length_filter_le→Eu,length_map→Ev,all_cons→Gb,mem_map_of_mem→Ge,any_map→Gh,any_eq_false→Gi,filter_map→Gm,foldl_cons→Gn,drop_zero→Gr
namespace Go.Z
open Go Go.Abs Go.W
theorem ob {α β:Type}{x:α}{f:α→Option β}:jw (I x) f=f x:=rfl
theorem zh3 {l}(hb:∀e∈l.getD [],oP e):∃(g g':qc) (i bad:Int) (n:Nat),f9 l=I (g,i,bad)∧f10 l=I (g',i,bad)∧g.er=g'.er∧n≤BB∧SB n g.er∧WF g.er∧jc g.er:=by
 obtain⟨r9,p1,p2⟩:=j75 hb
 obtain⟨D8,q1,q2⟩:=jwb hb
 obtain⟨d,d1,d2⟩:=jdm hb
 obtain⟨g,i,bad⟩:=r9
 obtain⟨g',i',Xm⟩:=D8
 have h:=p2.trans q2.symm
 have h1:g.er=g'.er:=congrArg Prod.fst h
 have h2:i=i':=congrArg (fun x=>x.2.1) h
 have h3:bad=Xm:=congrArg (fun x=>x.2.2) h
 subst h2 h3
 cases hr:run (j6 .i64) ((l.getD []).map ql.er)with
 |error x=>
  rw[hr]at p2
  have he:g.er=mH:=congrArg Prod.fst p2
  exact⟨g,g',i,bad,0,p1,q1,h1,Nat.zero_le _,by rw[he];exact SB.empty,by rw[he];exact WF.empty 0,by rw[he];exact jc.empty 0⟩
 |ok hh=>
  rw[hr]at p2 d2
  obtain⟨s,q,rfl,k1,k2,k3,k4,k5⟩:=d2
  have he:g.er=now hh:=congrArg Prod.fst p2
  exact⟨g,g',i,bad,hh.1.length,p1,q1,h1,by unfold BB;omega,by rw[he];exact k4 _ _ k3.now,by rw[he];exact k3.rM,by rw[he];exact k3.BE⟩
theorem q4i {a b}(h:a.getD []=b.getD [])(hl:(a.getD []).length≤SM):f45 a b=I Eh:=by
 unfold f45
 rw[show((a.getD []).length:Int)=((b.getD []).length:Int) by rw[h],dT rfl,cT]
 obtain⟨d,hd⟩:=zg0 (f:=BF a b) (n:=(a.getD []).length) hl (by unfold BF;simp only[ky];rfl) (fun i hi=>by
  obtain⟨x,hx⟩:=Xk hi
  unfold BF
  simp only[eR hi,cT,jw,zy hx,zy (show(b.getD [])[i]?=I x by rw[←h];exact hx),decide_true])
 rw[hd];rfl
theorem Fk {a b e}(h:a.getD []=if e=0 then b.getD []else [])(hl:(a.getD []).length≤SM):f34 a e b e=I Eh:=by
 unfold f34
 rw[dT (show e=e from rfl)]
 by_cases he:e=0
 ·rw[dT he]
  rw[if_pos he]at h
  simp only[cT,q4i h hl];rfl
 ·rw[dF he]
  rw[if_neg he]at h
  simp only[cT,cond_false,q4i (b:=none) h hl];rfl
variable {r:qc}{u:qf}
theorem jc6 (hl:(u.uses.getD []).length≤SM):∃w,f71 u=I (yi (u.er.uses.map (·.k)),w):=by
 unfold f71 f128
 rw[Ia (f:=IQ u.uses) (l:=u.uses.getD []) (g:=fun x:qk=>x.k) (q:=f129) hl (fun x _=>rfl) (fun s=>rfl)]
 exact⟨_,rfl⟩
theorem jca {a:Option (List (List UInt8))}{n:List UInt8}(hl:(a.getD []).length≤SM):f87 a n=I ((a.getD []).any fun x=>decide (n=x)):=by
 have h:f147 a n=I (dH ((a.getD []).findIdx? fun x=>decide (n=x))):=mE (p:=fun x=>decide (n=x)) hl fun i=>rfl
 unfold f87
 rw[h,ob,vk,bY]
theorem jd7 {n:List UInt8}(hl:(u.uses.getD []).length≤SM):f82 u n=I (iu u.er n):=by
 obtain⟨d,h1,h2⟩:=OV (u.uses.getD []) (BG u n) (fun x=>!decide (x.k=n)) (fun d=>match d with | .inl _=>Eo | .inr _=>Eh) ⟨.inr ((u.uses.getD []).length:Int),by unfold BG;simp only[ky];rfl,rfl⟩ (fun i x hx hi=>by
  unfold BG
  simp only[eR hi,cT,jw,zy hx]
  rw[kl (by unfold SM at hl;omega)]
  by_cases e:x.k=n
  ·rw[dT e];exact .inr ⟨rfl,.inl (),rfl,rfl⟩
  ·rw[dF e];exact .inl ⟨rfl,rfl⟩)
 have h3:iu u.er n=!((u.uses.getD []).all fun x=>!decide (x.k=n)):=by
  unfold iu
  rw[show u.er.uses=u.uses.getD []from rfl]
  induction u.uses.getD []with
  |nil=>rfl
  |cons x l ih=>rw[Ep,Gb,ih,Gw,Bool.not_not]
 unfold f82
 rw[h1,ob,h3,←h2]
 cases d<;>rfl
theorem jp1 {l}(hl:l.length≤SM):f24 (I l)=I (dp l):=by
 have h:IU (I l)=wv (I l):=rfl
 have e:f24 (I l)=f51 (I l):=by
  unfold f24 f77 f51
  rw[h]
  cases aY (wv (I l)) 0 with
  |none=>rfl
  |some d=>cases d<;>rfl
 rw[e]
 exact hM hl
theorem js5 {b e}:f25 b e=I (if b then e else 0):=by unfold f25;cases b<;>rfl
theorem Xn {o}:decide (dH o<0)=!o.isSome:=by
 cases o with
 |none=>rfl
 |some k=>exact dF (show ¬(k:Int)<0 by omega)
end Go.Z
namespace Go.Z
open Go Go.Abs Go.W
variable {r:qc}{u:qf}
theorem Pe {α:Type}{l:List α}{p:α→Bool}{q:α→Option Bool}{f:Int→Option (Int⊕(Int⊕Int))}(hl:l.length≤SM)(hq:∀x∈l,q x=I (p x))
  (hf:∀i:Int,f i=cond (decide (i<(l.length:Int))) (jw (zn l i) fun x=>jw (q x) fun b=>cond b (I (.inr (.inl i))) (I (.inl (j6 .i64 (i+1))))) (I (.inr (.inr i)))):
  (jw (jw (aY f 0) fun d=>match d with | .inl k=>I k | .inr _=>I (-1)) fun v=>I (decide (0≤v)))=I (l.any p):=by
 obtain⟨d,h1,h2⟩:=q3d l p f (by rw[hf,ky];rfl) (fun i x hx hi=>by
  rw[hf,eR hi]
  simp only[cT,jw,zy hx,hq x (En hx)]
  cases p x with
  |true=>rfl
  |false=>simp only[cond_false];rw[kl (by unfold SM at hl;omega)];rfl)
 rw[h1]
 simp only[jw]
 rw[Bi,←vk,←h2]
 cases d<;>rfl
theorem jn7 {L:Option (List (List UInt8))}(hl:(L.getD []).length≤SM)(b:GB r):IV L r=I ((L.getD []).any fun n=>(kg r.er n).isNone):=by
 have:=Pe (l:=L.getD []) (p:=fun n=>(kg r.er n).isNone) (q:=fun n=>f83 n r) (f:=IW L r) hl (fun n _=>by
  unfold f83
  rw[Ba (yb b.L),ob,Xn]
  cases kg r.er n<;>rfl) (fun i=>rfl)
 unfold IV Pg
 exact this
theorem jog {L:Option (List (List UInt8))}(hl:(L.getD []).length≤SM)(b:GB r):IX L r=I ((L.getD []).any fun n=>(yg r.er n).isNone):=by
 have:=Pe (l:=L.getD []) (p:=fun n=>(yg r.er n).isNone) (q:=fun n=>f92 n r) (f:=IY L r) hl (fun n _=>by
  unfold f92
  rw[vj (yb b.U),ob,Xn]
  cases yg r.er n<;>rfl) (fun i=>rfl)
 unfold IX Ph
 exact this
theorem jnm {L M:Option (List (List UInt8))}(hl:(L.getD []).length≤SM)(hm:(M.getD []).length≤SM):IZ M L=I ((M.getD []).any fun m=>(L.getD []).any fun x=>decide (m=x)):=by
 have:=Pe (l:=M.getD []) (p:=fun m=>(L.getD []).any fun x=>decide (m=x)) (q:=fun m=>f86 m L) (f:=I0 M L) hm (fun n _=>by
  unfold f86
  rw[jca hl];rfl) (fun i=>rfl)
 unfold IZ Pj
 exact this
theorem jth {L}(hl:(L.getD []).length≤SM)(hu:(u.uses.getD []).length≤SM):f85 u L=I (mI u.er (L.getD [])):=by
 unfold f85 mI
 cases hs:u.aq with
 |false=>rw[cond_false,show u.er.aq=Eo from hs,Bool.and_false]
 |true=>
  have nS:(⟨u.name,u.product,u.version,u.uses,u.results,u.partner,Eh,u.aj⟩:qf)=u:=by cases u;simp only at hs;rw[hs]
  obtain⟨w,h⟩:=jc6 hu
  rw[cT,nS,h,ob,jnm hl (by rw[yp,Ev];exact hu),ob,yp,show u.er.aq=Eh from hs,Bool.and_true,Gh]
  congr 1
  apply Bool.eq_iff_iff.2
  simp only[List.any_eq_true,iu,Function.comp,decide_eq_true_eq]
  constructor
  ·rintro ⟨x,hx,y,hy,e⟩;exact⟨y,hy,x,hx,e⟩
  ·rintro ⟨y,hy,x,hx,e⟩;exact⟨x,hx,y,hy,e⟩
theorem q7g {l s}(h:l.length≤SM):∃l',ya l s=I l'∧l'.length≤l.length+1∧∀t,lP l' t=(lP l t||decide (t=s)):=by
 unfold ya
 by_cases hm:lP l s=Eh
 ·rw[if_pos hm]
  refine⟨l,rfl,by omega,fun t=>?_⟩
  by_cases e:t=s
  ·subst e;rw[hm];rfl
  ·simp[e]
 ·rw[if_neg hm,if_pos h]
  refine⟨l++[s],rfl,by simp,fun t=>?_⟩
  unfold lP
  by_cases h1:t∈l<;>by_cases h2:t=s<;>simp[h1,h2]
theorem jdc {v1 v12}(hl:(v12.1.getD []).length≤BB):∀(m:List qf) (i:Nat) (D:List (List UInt8)),(v12.1.getD []).drop i=m→i≤(v12.1.getD []).length→D.length≤2*i →
  ∃d,aY (yR v1 v12) ((i:Int),D)=I d∧∀t,lP d.2 t=(lP D t||m.any fun v=>decide (t=v.name)||decide (t=v.partner))
 | [],i,D,hm,hi,hD=>by
  have he:i=(v12.1.getD []).length:=by
   have:=List.drop_eq_nil_iff.1 hm;omega
  subst he
  refine⟨(((v12.1.getD []).length:Int),D),jD ?_,fun t=>by simp⟩
  unfold yR
  rw[ky];rfl
 |u::m,i,D,hm,hi,hD=>by
  have hx:(v12.1.getD [])[i]?=I u:=by
   have:=congrArg List.head? hm
   rwa [List.head?_drop]at this
  have bh:i<(v12.1.getD []).length:=(Ek.1 hx).1
  have yK:(v12.1.getD []).drop (i+1)=m:=by rw[pF hx]at hm;exact(List.cons.inj hm).2
  have hb:2*(i+1)≤SM:=by unfold BB at hl;unfold SM;omega
  obtain⟨D1,a1,a2,a3⟩:=q7g (l:=D) (s:=u.name) (by omega)
  obtain⟨D2,b1,b2,b3⟩:=q7g (l:=D1) (s:=u.partner) (by omega)
  have b6:yR v1 v12 ((i:Int),D)=I (.inl (((i+1:Nat):Int),D2)):=by
   unfold yR
   simp only[eR bh,cT,jw,zy hx,a1,b1]
   rw[kl (by unfold SM at hb;omega)]
  rw[oF b6]
  obtain⟨d,d1,d2⟩:=jdc (v1:=v1) hl m (i+1) D2 yK bh (by omega)
  refine⟨d,d1,fun t=>?_⟩
  rw[d2,b3,a3,Ep]
  simp only[Gv]
def yS (S:qu)(L:List (List UInt8)):List (List UInt8):=(S.units.filter fun u=>pM S L u).map (·.name)
theorem Xo {L}:yS r.er L=((r.units.getD []).filter fun u=>pM r.er L u.er).map (·.name):=by
 unfold yS
 rw[rG,Gm,List.map_map]
 rfl
theorem jr0 {l i bad L}(p9:f9 l=I (r,i,bad))(b:GB r)(w2:jc r.er)(hl:(L.getD []).length≤SM):
  ∃x,f35 l L=I (x,dp [bad,if 256<(L.getD []).length then 5 else 0,if(L.getD []).any fun n=>(kg r.er n).isNone then 10 else 0])∧x.getD []=if dp [bad,if 256<(L.getD []).length then 5 else 0,if(L.getD []).any fun n=>(kg r.er n).isNone then 10 else 0]=0 then yS r.er (L.getD [])else []:=by
 unfold f35
 rw[p9,ob,iO,ob,jn7 hl b,ob,iO,ob,hM (by simp[SM]),ob]
 have hd:(if decide (256<((L.getD []).length:Int))=Eh then(5:Int)else 0)=if 256<(L.getD []).length then 5 else 0:=by
  by_cases h:256<(L.getD []).length
  ·rw[if_pos h,dT (by omega)];rfl
  ·rw[if_neg h,dF (by omega)];rfl
 rw[hd]
 generalize dp [bad,if 256<(L.getD []).length then 5 else 0,if((L.getD []).any fun n=>(kg r.er n).isNone)=Eh then 10 else 0]=e
 by_cases he:e=0
 ·rw[dT he,cT,if_pos he]
  have h1:I1 r.units L=I (yi ((r.units.getD []).filter fun u=>mI u.er (L.getD [])),fU ((r.units.getD []).filter fun u=>mI u.er (L.getD []))):=by
   unfold I1
   rw[H9 (f:=I2 r.units L) (l:=r.units.getD []) (p:=fun u=>mI u.er (L.getD [])) (q:=fun u=>f85 u L) (yb b.U) (fun x hx=>jth hl (yb (b.N x hx).1)) (fun s=>rfl)]
   rfl
  have vV:(((yi ((r.units.getD []).filter fun u=>mI u.er (L.getD []))).getD [])).length≤BB:=by
   rw[yp];exact Nat.le_trans (Eu _ _) b.U
  obtain⟨d,d1,d2⟩:=jdc (v1:=(r,i,bad)) (v12:=(yi ((r.units.getD []).filter fun u=>mI u.er (L.getD [])),fU ((r.units.getD []).filter fun u=>mI u.er (L.getD [])))) vV _ 0 [] rfl (Nat.zero_le _) (Nat.le_refl _)
  rw[h1,ob]
  rw[show(0:Int)=((0:Nat):Int)from rfl,d1,ob]
  have hc:∀t,lP d.2 t=Pl r.er (L.getD []) t:=by
   intro t
   rw[d2]
   show(lP [] t||(List.drop 0 _).any _)=_
   rw[Gr,yp]
   unfold Pl
   rw[rG,Gm,Gh]
   show(Eo||_)=_
   rw[Gc]
   congr 1
   funext v
   simp only[Function.comp]
   rw[show v.er.name=v.name from rfl,show v.er.partner=v.partner from rfl]
   simp only[eq_comm (a:=t)]
  have h2:I3 r.units d.2=I (yi ((r.units.getD []).filter fun u=>pM r.er (L.getD []) u.er),fU ((r.units.getD []).filter fun u=>pM r.er (L.getD []) u.er)):=by
   unfold I3
   rw[H9 (f:=I4 r.units d.2) (l:=r.units.getD []) (p:=fun u=>pM r.er (L.getD []) u.er) (q:=fun u=>I5 u d.2) (yb b.U) (fun x hx=>by
    unfold I5
    rw[←ja3 w2 (u:=x.er) (by rw[rG];exact Ge hx),hc]
    show _=I (x.aq&&_)
    cases x.aq<;>rfl) (fun s=>rfl)]
   rfl
  rw[h2,ob]
  have h3:f89 (yi ((r.units.getD []).filter fun u=>pM r.er (L.getD []) u.er))=I (yi (yS r.er (L.getD [])),fU (yS r.er (L.getD []))):=by
   unfold f89
   rw[Ia (f:=I7 (yi ((r.units.getD []).filter fun u=>pM r.er (L.getD []) u.er))) (l:=((yi ((r.units.getD []).filter fun u=>pM r.er (L.getD []) u.er)).getD [])) (g:=fun u:qf=>u.name) (q:=f91) (by rw[yp];exact qw9 (yb b.U)) (fun x _=>rfl) (fun s=>rfl),yp,Xo]
   rfl
  rw[h3,ob,he]
  exact⟨_,rfl,yp _⟩
 ·rw[dF he,cond_false,if_neg he]
  exact⟨_,rfl,rfl⟩
theorem jct {L}(hl:(L.getD []).length≤SM)(hu:(u.uses.getD []).length≤SM):f95 u L=I (mI u.er (L.getD [])):=by
 have:=Bc (L.getD []) (yT u L) (fun i (c:Bool)=>(c,(i:Int))) (fun c n=>c||iu u.er n) (fun c=>(c,((L.getD []).length:Int))) Eo (fun c=>by unfold yT;simp only[ky];rfl)
  (fun i c x hx hi=>by
   unfold yT
   simp only[eR hi,cT,jw,zy hx,jd7 hu]
   rw[kl (by unfold SM at hl;omega)]
   cases c<;>rfl)
 have h:aY (yT u L) (Eo,0)=I ((L.getD []).foldl (fun c n=>c||iu u.er n) Eo,((L.getD []).length:Int)):=this
 have hf:∀(l:List (List UInt8)) (c:Bool),l.foldl (fun c n=>c||iu u.er n) c=(c||l.any (iu u.er)):=by
  intro l
  induction l with
  |nil=>intro c;simp
  |cons x l ih=>intro c;rw[Gn,ih,Ep,Gv]
 unfold f95
 rw[h,ob,hf,Gc]
 unfold mI
 rw[show u.er.aq=u.aq from rfl]
 cases (L.getD []).any (iu u.er)<;>rfl
theorem jeq {L wF}(hl:(L.getD []).length≤SM)(b:GB r):f37 r L wF=I (dp [if 256<(L.getD []).length then 5 else 0,if(L.getD []).any fun n=>if wF then(yg r.er n).isNone else(kg r.er n).isNone then 10 else 0]):=by
 unfold f37
 by_cases h:256<(L.getD []).length
 ·rw[dT (by omega),if_pos h];rfl
 rw[dF (by omega),if_neg h,cond_false]
 obtain⟨d,h1,h2⟩:=A8 (L.getD []).length (fun i=>(wF,(i:Int))) (yU r L) (fun d=>match d with | .inl _=>Eh | .inr _=>Eo) (fun i=>((L.getD []).drop i).any fun n=>if wF then(yg r.er n).isNone else(kg r.er n).isNone) ⟨.inr (wF,((L.getD []).length:Int)),by unfold yU;simp only[ky];rfl,by rw[List.drop_eq_nil_of_le (Nat.le_refl _)];rfl⟩ (fun i hi=>by
  obtain⟨x,hx⟩:∃x,(L.getD [])[i]?=I x:=⟨_,List.getElem?_eq_getElem hi⟩
  simp only[pF hx,Ep]
  unfold yU
  simp only[eR hi,cT,jw,zy hx,Bb (yb b.U),EU (yb b.L),Xn]
  rw[kl (by unfold SM at hl;omega)]
  cases wF with
  |true=>
   cases yg r.er x with
   |none=>exact .inr ⟨_,rfl,rfl⟩
   |some k=>exact .inl ⟨rfl,rfl⟩
  |false=>
   cases kg r.er x with
   |none=>exact .inr ⟨_,rfl,rfl⟩
   |some k=>exact .inl ⟨rfl,rfl⟩)
 have IJ:aY (yU r L) (wF,0)=I d:=h1
 rw[IJ,ob]
 rw[Gr]at h2
 rw[←h2]
 cases d<;>rfl
theorem jtp {L}(b:GB r)(w2:jc r.er)(hl:(L.getD []).length≤SM):∃w,f38 r L=I (yi (yS r.er (L.getD [])),w):=by
 unfold f38
 have hU:=yb b.U
 have:=EX (l:=r.units.getD []) (p:=fun u=>pM r.er (L.getD []) u.er) (g:=fun u:qf=>u.name) (f:=BH r L) hU (fun o w=>by unfold BH;simp only[ky,cond_false]) (fun i x o w hx=>by
  have hi:=(Ek.1 hx).1
  have hm:=En hx
  have IB:x.er∈r.er.units:=by rw[rG];exact Ge hm
  unfold BH
  simp only[eR hi,cT,jw,zy hx,jct hl (yb (b.N x hm).1)]
  rw[kl (by unfold SM at hU;omega)]
  unfold pM
  rw[show x.er.partner=x.partner from rfl,show x.er.aq=x.aq from rfl]
  by_cases hp:x.partner=[]
  ·rw[dT hp]
   cases mI x.er (L.getD [])<;>simp[hp]
  ·rw[dF hp]
   have he:x.partner.isEmpty=Eo:=by cases h:x.partner with
    |nil=>exact absurd h hp
    |cons=>rfl
   simp only[cond_false,he,Bool.not_false,Gf]
   cases mI x.er (L.getD [])with
   |true=>rfl
   |false=>
    simp only[cond_false,Gc]
    cases x.aq with
    |false=>rfl
    |true=>
     obtain⟨v,v0,v1,v2⟩:=w2.fb x.er IB hp
     rw[show x.er.partner=x.partner from rfl]at v1
     have hk:∃k,yg r.er x.partner=I k:=by
      cases hk:yg r.er x.partner with
      |some k=>exact⟨k,rfl⟩
      |none=>
       have h:=Xp w2 v0
       rw[v1]at h
       unfold jV at h
       rw[hk]at h
       cases h
     obtain⟨k,hk⟩:=hk
     obtain⟨q,q1,_,q3⟩:=oL hk
     have hq:jV r.er x.partner=I q.er:=by unfold jV;rw[hk];exact q3
     have hix:zn (r.units.getD []) (dH (yg r.er x.partner))=I q:=by rw[hk];exact zy q1
     simp only[cT,Bb (yb b.U),hix,jct hl (yb (b.N q (En q1)).1),hq,Ga,Gf])
 rw[this,Xo]
 exact⟨_,rfl⟩
def Fl (S:qu)(L:List (List UInt8)):List (List UInt8):=(S.ar.filter fun x=>L.all fun n=>(jV S n).any fun u=>iu u x.name).map (·.name)
theorem qwj {n}(h:(yg r.er n).isNone=Eo)(b:GB r):∃q,zn (r.units.getD []) (dH (yg r.er n))=I q∧jV r.er n=I q.er∧(q.uses.getD []).length≤SM:=by
 cases hk:yg r.er n with
 |none=>rw[hk]at h;cases h
 |some k=>
  obtain⟨q,q1,_,q3⟩:=oL hk
  exact⟨q,zy q1,by unfold jV;rw[hk];exact q3,yb (b.N q (En q1)).1⟩
theorem jo2 {L:Option (List (List UInt8))}{x:qm}(hl:(L.getD []).length≤SM)(b:GB r)(hk:((L.getD []).any fun n=>(yg r.er n).isNone)=Eo):I8 L r x=I (!((L.getD []).all fun n=>(jV r.er n).any fun u=>iu u x.name)):=by
 have:=Pe (l:=L.getD []) (p:=fun n=>!((jV r.er n).any fun u=>iu u x.name)) (q:=fun n=>f94 n r x) (f:=I9 L r x) hl (fun n hn=>by
  have h0:(yg r.er n).isNone=Eo:=by
   have:=Gi.1 hk n hn
   exact Gk _▸this
  obtain⟨q,q1,q2,q3⟩:=qwj h0 b
  obtain⟨w,h⟩:=jc6 q3
  unfold f94
  rw[vj (yb b.U),ob,q1,ob,h,ob,jca (by rw[yp,Ev];exact q3),ob,yp,q2,Ga,Gh]
  unfold iu
  congr 3
  funext y
  by_cases e:y.k=x.name<;>simp[e,Ne.symm,eq_comm]) (fun i=>rfl)
 unfold I8 Pm
 rw[show(!((L.getD []).all fun n=>(jV r.er n).any fun u=>iu u x.name))=(L.getD []).any fun n=>!((jV r.er n).any fun u=>iu u x.name) by
  induction L.getD []with
  |nil=>rfl
  |cons a l ih=>rw[Gb,Ep,Gw,ih]]
 exact this
theorem jsd {l i bad L}(p9:f9 l=I (r,i,bad))(b:GB r)(hl:(L.getD []).length≤SM):
  ∃x,f36 l L=I (x,dp [bad,if 256<(L.getD []).length then 5 else 0,if(L.getD []).any fun n=>(yg r.er n).isNone then 10 else 0,if(L.getD []).length=0 then 12 else 0])∧x.getD []=if dp [bad,if 256<(L.getD []).length then 5 else 0,if(L.getD []).any fun n=>(yg r.er n).isNone then 10 else 0,if(L.getD []).length=0 then 12 else 0]=0 then Fl r.er (L.getD [])else []:=by
 unfold f36
 rw[p9,ob,iO,ob,jog hl b,ob,iO,ob,iO,ob,hM (by simp[SM]),ob]
 have hd:(if decide (256<((L.getD []).length:Int))=Eh then(5:Int)else 0)=if 256<(L.getD []).length then 5 else 0:=by
  by_cases h:256<(L.getD []).length
  ·rw[if_pos h,dT (by omega)];rfl
  ·rw[if_neg h,dF (by omega)];rfl
 have hz:(if decide (((L.getD []).length:Int)=0)=Eh then(12:Int)else 0)=if(L.getD []).length=0 then 12 else 0:=by
  by_cases h:(L.getD []).length=0
  ·rw[if_pos h,dT (by omega)];rfl
  ·rw[if_neg h,dF (by omega)];rfl
 rw[hd,hz]
 generalize he':dp [bad,if 256<(L.getD []).length then 5 else 0,if((L.getD []).any fun n=>(yg r.er n).isNone)=Eh then 10 else 0,if(L.getD []).length=0 then 12 else 0]=e
 by_cases he:e=0
 ·rw[dT he,cT,if_pos he]
  have hk:((L.getD []).any fun n=>(yg r.er n).isNone)=Eo:=by
   cases hh:(L.getD []).any fun n=>(yg r.er n).isNone with
   |false=>rfl
   |true=>
    rw[hh,he]at he'
    by_cases h1:bad=0<;>by_cases h2:256<(L.getD []).length<;>simp[dp,h1,h2]at he'
  have hL:=yb b.L
  have:=EX (l:=r.ar.getD []) (p:=fun x=>(L.getD []).all fun n=>(jV r.er n).any fun u=>iu u x.name) (g:=fun x:qm=>x.name) (f:=BI L (r,i,bad)) hL (fun o w=>by unfold BI;simp only[ky,cond_false]) (fun i x o w hx=>by
   have hi:=(Ek.1 hx).1
   unfold BI
   simp only[eR hi,cT,jw,zy hx,jo2 hl b hk]
   rw[kl (by unfold SM at hL;omega)]
   cases (L.getD []).all fun n=>(jV r.er n).any fun u=>iu u x.name<;>rfl)
  rw[this,ob,he]
  exact⟨_,rfl,yp _⟩
 ·rw[dF he,cond_false,if_neg he]
  exact⟨_,rfl,rfl⟩
theorem jvg {L}(b:GB r)(hl:(L.getD []).length≤SM)(hk:((L.getD []).any fun n=>(yg r.er n).isNone)=Eo):∃w,f39 r L=I (yi (Fl r.er (L.getD [])),w):=by
 unfold f39
 have hL:=yb b.L
 have:=EX (l:=r.ar.getD []) (p:=fun x=>(L.getD []).all fun n=>(jV r.er n).any fun u=>iu u x.name) (g:=fun x:qm=>x.name) (f:=BJ r L) hL (fun o w=>by unfold BJ;simp only[ky,cond_false]) (fun i x o w hx=>by
  have hi:=(Ek.1 hx).1
  have h1:=Bc (L.getD []) (yV r L (o,(i:Int),w)) (fun i (c:Bool)=>(c,(i:Int))) (fun c n=>c&&(jV r.er n).any fun u=>iu u x.name) (fun c=>(c,((L.getD []).length:Int))) Eh (fun c=>by unfold yV;simp only[ky];rfl)
   (fun j c n hn hj=>by
    have h0:(yg r.er n).isNone=Eo:=by
     have:=Gi.1 hk n (En hn)
     exact Gk _▸this
    obtain⟨q,q1,q2,q3⟩:=qwj h0 b
    unfold yV
    simp only[eR hj,cT,jw,zy hn,Bb (yb b.U),q1,zy hx,jd7 q3,q2,Ga]
    rw[kl (by unfold SM at hl;omega)]
    cases c<;>rfl)
  have IJ:aY (yV r L (o,(i:Int),w)) (Eh,0)=I ((L.getD []).foldl (fun c n=>c&&(jV r.er n).any fun u=>iu u x.name) Eh,((L.getD []).length:Int)):=h1
  have hf:∀(l:List (List UInt8)) (c:Bool),l.foldl (fun c n=>c&&(jV r.er n).any fun u=>iu u x.name) c=(c&&l.all fun n=>(jV r.er n).any fun u=>iu u x.name):=by
   intro l
   induction l with
   |nil=>intro c;simp
   |cons x l ih=>intro c;rw[Gn,ih,Gb,Bool.and_assoc]
  unfold BJ
  simp only[eR hi,cT,IJ,ob,hf,Gf,zy hx]
  rw[kl (by unfold SM at hL;omega)])
 rw[this]
 exact⟨_,rfl⟩
end Go.Z
namespace Go.Z
open Go Go.Abs Go.W
theorem jzh (a0:Option (List ql))(a1 a2:Option (List (List UInt8)))(h1:(a1.getD []).length≤SM)(h2:(a2.getD []).length≤SM):∃d,aY (wG a0 a1 a2) 0=I d∧(match d with | .inl b=>b | .inr _=>Eh)=Eh:=by
 have hm:max ((a1.getD []).length:Int) ((a2.getD []).length:Int)=((max (a1.getD []).length (a2.getD []).length:Nat):Int):=by omega
 refine A8 (max (a1.getD []).length (a2.getD []).length) (fun i=>(i:Int)) (wG a0 a1 a2) (fun d=>match d with | .inl b=>b | .inr _=>Eh) (fun _=>Eh) ⟨.inr ((max (a1.getD []).length (a2.getD []).length:Nat):Int),?_,rfl⟩ (fun i hi=>?_)
 ·unfold wG
  rw[hm,ky];rfl
 ·have hw:j6 .i64 ((i:Int)+1)=((i+1:Nat):Int):=kl (by unfold SM at h1 h2;omega)
  have hq:decide ((i:Int)<max ((a1.getD []).length:Int) ((a2.getD []).length:Int))=Eh:=dT (by omega)
  unfold wG
  rw[hq,cT,hw]
  have second:∀X:Option (Int⊕(Bool⊕Int)),X=cond (decide ((i:Int)<((a2.getD []).length:Int))) (jw (zn (a2.getD []) (i:Int)) fun v=>cond (decide (40<(v.length:Int))) (jw E8 fun w=>I (.inr (.inl w))) (I (.inl ((i+1:Nat):Int)))) (I (.inl ((i+1:Nat):Int))) →
    (X=I (.inl ((i+1:Nat):Int))∧Eh=Eh)∨∃d,X=I (.inr d)∧(match d with | .inl b=>b | .inr _=>Eh)=Eh:=by
   intro X hX
   by_cases c:i<(a2.getD []).length
   ·obtain⟨x,hx⟩:=Xk c
    rw[eR c,cT,zy hx]at hX
    cases hc:decide (40<(x.length:Int))with
    |true=>exact .inr ⟨.inl Eh,by rw[hX,ob,hc];rfl,rfl⟩
    |false=>exact .inl ⟨by rw[hX,ob,hc];rfl,rfl⟩
   ·rw[dF (by omega)]at hX
    exact .inl ⟨hX,rfl⟩
  by_cases c:i<(a1.getD []).length
  ·obtain⟨x,hx⟩:=Xk c
   rw[eR c,cT,zy hx,ob]
   cases hc:decide (40<(x.length:Int))with
   |true=>exact .inr ⟨.inl Eh,rfl,rfl⟩
   |false=>exact second _ rfl
  ·rw[dF (show ¬(i:Int)<((a1.getD []).length:Int) by omega),cond_false]
   exact second _ rfl
theorem jb6 {α:Type}{l:List α}(h:l.length≤SM):bj (I []) l=I (I l):=by
 unfold bj
 simp only[Gl,List.nil_append]
 rw[if_pos (by simpa using h)]
 rfl
theorem q1r {r L}(b:GB r):(yS r.er L).length≤SM:=by
 rw[Xo,Ev]
 exact Nat.le_trans (Eu _ _) (yb b.U)
theorem q57 {r L}(b:GB r):(Fl r.er L).length≤SM:=by
 unfold Fl
 rw[Ev]
 exact Nat.le_trans (Eu _ _) (yb b.L)
theorem q9p {a0:Option (List ql)}{a1 a2:Option (List (List UInt8))}(hb:∀e∈a0.getD [],oP e)(h1:(a1.getD []).length≤SM)(h2:(a2.getD []).length≤SM):Ja a0 a1 a2=I Eh:=by
 obtain⟨g,g',i,bad,n,p9,p10,he,hn,sb,w,w2⟩:=zh3 hb
 have b:GB g:=SB.gb sb hn
 have b':GB g':=SB.gb (by rw[←he];exact sb) hn
 obtain⟨x,x1,x2⟩:=jr0 (L:=I (a1.getD [])) p9 b w2 h1
 obtain⟨y,y1,y2⟩:=jsd (L:=I (a2.getD [])) p9 b h2
 simp only[Gl]at x1 x2 y1 y2
 unfold Ja
 rw[jb6 h1,ob,x1,ob,jb6 h2,ob,y1,ob,p10,ob]
 by_cases iq:bad=0
 case neg=>
  have z3:∀p q:Int,dp [bad,p,q]=bad:=fun p q=>by simp[dp,iq]
  have z4:∀p q s:Int,dp [bad,p,q,s]=bad:=fun p q s=>by simp[dp,iq]
  rw[z3,if_neg iq]at x2
  rw[z4,if_neg iq]at y2
  have q1:f34 x bad none bad=I Eh:=Fk (by rw[x2];simp) (by rw[x2];simp[SM])
  have q2:f34 y bad none bad=I Eh:=Fk (by rw[y2];simp) (by rw[y2];simp[SM])
  simp only[dF iq,cond_false,z3,z4,q1,q2,ob,cT]
  rfl
 subst iq
 have z3:∀p q:Int,dp [0,p,q]=dp [p,q]:=fun p q=>by simp[dp]
 have z4:∀p q s:Int,dp [0,p,q,s]=dp [p,q,s]:=fun p q s=>by simp[dp]
 have z5:∀p q s:Int,dp [dp [p,q],s]=dp [p,q,s]:=fun p q s=>by
  by_cases c1:p=0<;>by_cases c2:q=0<;>by_cases c3:s=0<;>simp[dp,c1,c2,c3]
 have g2:∀a b:Int,f24 (I [a,b])=I (dp [a,b]):=fun a b=>jp1 (by simp[SM])
 have hz:(if decide (((a2.getD []).length:Int)=0)=Eh then(12:Int)else 0)=if(a2.getD []).length=0 then 12 else 0:=by
  by_cases h:(a2.getD []).length=0
  ·rw[if_pos h,dT (by omega)];rfl
  ·rw[if_neg h,dF (by omega)];rfl
 have e1:=jeq (r:=g') (wF:=false) h1 b'
 have e2:=jeq (r:=g') (wF:=true) h2 b'
 rw[←he]at e1 e2
 simp only[Bool.false_eq_true,if_false,if_true]at e1 e2
 rw[z3]at x2 ⊢
 rw[z4]at y2 ⊢
 obtain⟨w38,D7⟩:=jtp b' (by rw[←he];exact w2) h1
 rw[←he]at D7
 have l1:=q1r (L:=a1.getD []) b
 have l2:=q57 (L:=a2.getD []) b
 simp only[decide_true,cT,e1,e2,ob,js5,hz,g2,z5]
 have hk:dp [if 256<(a2.getD []).length then 5 else 0,if((a2.getD []).any fun n=>(yg g.er n).isNone)=Eh then 10 else 0,if(a2.getD []).length=0 then 12 else 0]=0→((a2.getD []).any fun n=>(yg g'.er n).isNone)=Eo:=by
  intro h
  rw[←he]
  cases hh:(a2.getD []).any fun n=>(yg g.er n).isNone with
  |false=>rfl
  |true=>
   rw[hh]at h
   by_cases h2:256<(a2.getD []).length<;>simp[dp,h2]at h
 generalize dp [if 256<(a1.getD []).length then 5 else 0,if((a1.getD []).any fun n=>(kg g.er n).isNone)=Eh then 10 else 0]=p at x2 ⊢
 generalize dp [if 256<(a2.getD []).length then 5 else 0,if((a2.getD []).any fun n=>(yg g.er n).isNone)=Eh then 10 else 0,if(a2.getD []).length=0 then 12 else 0]=q at y2 hk ⊢
 have A0:p=0→f34 x p (yi (yS g.er (a1.getD []))) p=I Eh:=fun hp=>Fk (by rw[x2,yp]) (by rw[x2,if_pos hp];exact l1)
 have A1:p≠0→f34 x p none p=I Eh:=fun hp=>Fk (by rw[x2,if_neg hp,if_neg hp]) (by rw[x2,if_neg hp];simp[SM])
 have B0:q=0→f34 y q (yi (Fl g.er (a2.getD []))) q=I Eh:=fun hp=>Fk (by rw[y2,yp]) (by rw[y2,if_pos hp];exact l2)
 have B1:q≠0→f34 y q none q=I Eh:=fun hp=>Fk (by rw[y2,if_neg hp,if_neg hp]) (by rw[y2,if_neg hp];simp[SM])
 have uC:q=0→∃w,f39 g' a2=I (yi (Fl g.er (a2.getD [])),w):=fun h=>by
  rw[he];exact jvg b' h2 (hk h)
 by_cases hp:p=0
 ·rw[dT hp,cT,D7,ob]
  by_cases hq:q=0
  ·obtain⟨Tz,uC⟩:=uC hq
   rw[dT hq,cT,uC,ob]
   simp only[A0 hp,B0 hq,ob,cT];rfl
  ·rw[dF hq,cond_false]
   simp only[A0 hp,B1 hq,ob,cT];rfl
 ·rw[dF hp,cond_false]
  by_cases hq:q=0
  ·obtain⟨Tz,uC⟩:=uC hq
   rw[dT hq,cT,uC,ob]
   simp only[A1 hp,B0 hq,ob,cT];rfl
  ·rw[dF hq,cond_false]
   simp only[A1 hp,B1 hq,ob,cT];rfl
theorem jmz (a0:Option (List ql))(a1 a2:Option (List (List UInt8))):f6 a0 a1 a2=I Eh:=by
 obtain⟨b1,h1,k1⟩:=j0u (l:=a0) (n:=24) (by omega)
 unfold f6
 rw[show f7 a0 24=I b1 from h1,ob]
 cases b1 with
 |false=>rfl
 |true=>
 rw[cT]
 obtain⟨_,hb⟩:=k1 rfl
 have main:(a1.getD []).length≤SM→(a2.getD []).length≤SM→(jw (aY (wG a0 a1 a2) 0) fun d=>match d with | .inl b=>I b | .inr _=>Ja a0 a1 a2)=I Eh:=by
  intro q1 q2
  obtain⟨d,d1,d2⟩:=jzh a0 a1 a2 q1 q2
  rw[d1,ob]
  cases d with
  |inl b=>
   have:b=Eh:=d2
   rw[this]
  |inr _=>exact q9p hb q1 q2
 by_cases c1:6<(a1.getD []).length
 ·rw[dT (show(6:Int)<((a1.getD []).length:Int) by omega),cT]
  by_cases c2:(a1.getD []).length=257
  ·rw[dT (show((a1.getD []).length:Int)=257 by omega),cT]
   by_cases c3:6<(a2.getD []).length
   ·rw[dT (show(6:Int)<((a2.getD []).length:Int) by omega),cT]
    by_cases c4:(a2.getD []).length=257
    ·rw[dT (show((a2.getD []).length:Int)=257 by omega),cT]
     exact main (by rw[c2];decide) (by rw[c4];decide)
    ·rw[dF (show ¬((a2.getD []).length:Int)=257 by omega)];rfl
   ·rw[dF (show ¬(6:Int)<((a2.getD []).length:Int) by omega),cond_false]
    exact main (by rw[c2];decide) (by unfold SM;omega)
  ·rw[dF (show ¬((a1.getD []).length:Int)=257 by omega)];rfl
 ·rw[dF (show ¬(6:Int)<((a1.getD []).length:Int) by omega),cond_false]
  by_cases c3:6<(a2.getD []).length
  ·rw[dT (show(6:Int)<((a2.getD []).length:Int) by omega),cT]
   by_cases c4:(a2.getD []).length=257
   ·rw[dT (show((a2.getD []).length:Int)=257 by omega),cT]
    exact main (by unfold SM;omega) (by rw[c4];decide)
   ·rw[dF (show ¬((a2.getD []).length:Int)=257 by omega)];rfl
  ·rw[dF (show ¬(6:Int)<((a2.getD []).length:Int) by omega),cond_false]
   exact main (by unfold SM;omega) (by unfold SM;omega)
theorem I6 (a0:Option (List ql))(a1 a2:Option (List (List UInt8))):jy fo (X fo) 6 [sl 5 vev a0,sl 1 zk a1,sl 1 zk a2]=I (.bool Eh,Eo):=W6 (jmz a0 a1 a2)
end Go.Z
