/- Chapter 10, plain. -/
import Derived.Test.YtfopaakmgogpiaaGreatDoorEI
import Derived.Test.YtfopaakmgogpiaaGreatDoorWL
set_option linter.unusedVariables false
set_option linter.unusedSimpArgs false
set_option maxRecDepth 100000
set_option maxHeartbeats 4000000
open Option renaming some→I,none→Ev
open List renaming length_map→Eh,getElem?_eq_some_iff→En,length_filter_le→E5
open Bool renaming false_eq_true→El,not_false→E6,true→E7,not_true→Ga
namespace Go.Z
open Go Go.Abs Go.W
theorem ob {α β:Type}{x:α}{f:α→Option β}:jx (I x) f=f x:=rfl
theorem zey {l:Option (List ql)}(hb:∀e∈l.getD [],pq e):∃(g g':qc) (i bad:Int) (n:Nat),f9 l=I (g,i,bad)∧f10 l=I (g',i,bad)∧g.er=g'.er∧n≤BB∧SB n g.er∧WF g.er∧jf g.er:=by
 obtain⟨r9,p1,p2⟩:=j34 hb
 obtain⟨De,q1,q2⟩:=jth hb
 obtain⟨d,d1,d2⟩:=jby hb
 obtain⟨g,i,bad⟩:=r9
 obtain⟨g',i',VG⟩:=De
 have h:=p2.trans q2.symm
 have h1:g.er=g'.er:=congrArg Prod.fst h
 have h2:i=i':=congrArg (fun x=>x.2.1) h
 have h3:bad=VG:=congrArg (fun x=>x.2.2) h
 subst h2 h3
 cases hr:run (j9 .i64) ((l.getD []).map ql.er)with
 |error x=>
  rw[hr]at p2
  have he:g.er=l8:=congrArg Prod.fst p2
  exact⟨g,g',i,bad,0,p1,q1,h1,Nat.zero_le _,by rw[he];exact SB.empty,by rw[he];exact WF.empty 0,by rw[he];exact jf.empty 0⟩
 |ok hh=>
  rw[hr]at p2 d2
  obtain⟨s,q,rfl,k1,k2,k3,k4,k5⟩:=d2
  have he:g.er=now hh:=congrArg Prod.fst p2
  exact⟨g,g',i,bad,hh.1.length,p1,q1,h1,by unfold BB;omega,by rw[he];exact k4 _ _ k3.now,by rw[he];exact k3.qZ,by rw[he];exact k3.A7⟩
theorem q38 {a b:Option (List (List UInt8))}(h:a.getD []=b.getD [])(hl:(a.getD []).length≤SM):f45 a b=I E7:=by
 unfold f45
 rw[show((a.getD []).length:Int)=((b.getD []).length:Int) by rw[h],dT rfl,cT]
 obtain⟨d,hd⟩:=ze8 (f:=A8 a b) (n:=(a.getD []).length) hl (by unfold A8;simp only[fU];rfl) (fun i hi=>by
  obtain⟨x,hx⟩:=jit hi
  unfold A8
  simp only[gH hi,cT,jx,yb hx,yb (show(b.getD [])[i]?=I x by rw[←h];exact hx),decide_true])
 rw[hd];rfl
theorem Em {a b:Option (List (List UInt8))}{e:Int}(h:a.getD []=if e=0 then b.getD []else [])(hl:(a.getD []).length≤SM):f34 a e b e=I E7:=by
 unfold f34
 rw[dT (show e=e from rfl)]
 by_cases he:e=0
 ·rw[dT he]
  rw[if_pos he]at h
  simp only[cT,q38 h hl];rfl
 ·rw[dF he]
  rw[if_neg he]at h
  simp only[cT,cond_false,q38 (b:=none) h hl];rfl
variable {r:qc}{u:qe}
theorem jb4 (hl:(u.uses.getD []).length≤SM):∃w,f71 u=I (yg (u.er.uses.map (·.k)),w):=by
 unfold f71 f128
 rw[G6 (f:=HF u.uses) (l:=u.uses.getD []) (g:=fun x:qk=>x.k) (q:=f129) hl (fun x _=>rfl) (fun s=>rfl)]
 exact⟨_,rfl⟩
theorem jpo (hl:(u.uses.getD []).length≤SM):∃w,f29 u=I (yg (u.er.uses.map (·.k)),w):=by
 unfold f29
 have:=G5 (l:=u.uses.getD []) (p:=fun _=>E7) (g:=fun x:qk=>x.k) (f:=Ba u) hl (fun o w=>by unfold Ba;simp only[fU,cond_false]) (fun i x o w hx=>by
  have hi:=(En.1 hx).1
  unfold Ba
  simp only[gH hi,cT,jx,yb hx]
  rw[gj (by unfold SM at hl;omega)])
 rw[this,List.filter_eq_self.2 (fun _ _=>rfl)]
 exact⟨_,rfl⟩
theorem jn7 {a:Option (List (List UInt8))}{n:List UInt8}(hl:(a.getD []).length≤SM):f87 a n=I ((a.getD []).any fun x=>decide (n=x)):=by
 have h:f147 a n=I (dC ((a.getD []).findIdx? fun x=>decide (n=x))):=l5 (p:=fun x=>decide (n=x)) hl fun i=>rfl
 unfold f87
 rw[h,ob,uR,bY]
theorem jke {n:List UInt8}(hl:(u.uses.getD []).length≤SM):f132 u n=I (nT u.er n):=by
 obtain⟨w,h⟩:=jb4 hl
 unfold f132
 rw[h,ob,jn7 (by rw[yq,Eh];exact hl),ob,yq,List.any_map]
 unfold nT
 congr 2
 funext x
 by_cases e:x.k=n<;>simp[e,Ne.symm,eq_comm]
theorem jqi {n:List UInt8}(hl:(u.uses.getD []).length≤SM):f82 u n=I (nT u.er n):=by
 obtain⟨d,h1,h2⟩:=Nt (u.uses.getD []) (Bb u n) (fun x=>!decide (x.k=n)) (fun d=>match d with | .inl _=>false | .inr _=>E7) ⟨.inr ((u.uses.getD []).length:Int),by unfold Bb;simp only[fU];rfl,rfl⟩ (fun i x hx hi=>by
  unfold Bb
  simp only[gH hi,cT,jx,yb hx]
  rw[gj (by unfold SM at hl;omega)]
  by_cases e:x.k=n
  ·rw[dT e];exact .inr ⟨rfl,.inl (),rfl,rfl⟩
  ·rw[dF e];exact .inl ⟨rfl,rfl⟩)
 have h3:nT u.er n=!((u.uses.getD []).all fun x=>!decide (x.k=n)):=by
  unfold nT
  rw[show u.er.uses=u.uses.getD []from rfl]
  induction u.uses.getD []with
  |nil=>rfl
  |cons x l ih=>rw[List.any_cons,List.all_cons,ih,Bool.not_and,Bool.not_not]
 unfold f82
 rw[h1,ob,h3,←h2]
 cases d<;>rfl
def pv (S:qu)(n:List UInt8):List (List UInt8):=(S.units.filter fun u=>nT u n).map (·.name)
theorem VH {n:List UInt8}:pv r.er n=((r.units.getD []).filter fun u=>nT u.er n).map (·.name):=by
 unfold pv
 rw[xP,List.filter_map,List.map_map]
 rfl
theorem jo9 {n:List UInt8}(b:GB r):∃w,f73 r n=I (yg (pv r.er n),w):=by
 have h1:f88 r.units n=I (yg ((r.units.getD []).filter fun u=>nT u.er n),gG ((r.units.getD []).filter fun u=>nT u.er n)):=by
  unfold f88
  rw[Nz (f:=HG r.units n) (l:=r.units.getD []) (p:=fun u=>nT u.er n) (q:=fun u=>f132 u n) (z7 b.U) (fun x hx=>jke (z7 (b.N x hx).1)) (fun s=>rfl)]
  rfl
 have h2:f89 (yg ((r.units.getD []).filter fun u=>nT u.er n))=I (yg (pv r.er n),gG (pv r.er n)):=by
  unfold f89
  rw[G6 (f:=HI (yg ((r.units.getD []).filter fun u=>nT u.er n))) (l:=((yg ((r.units.getD []).filter fun u=>nT u.er n)).getD [])) (g:=fun u:qe=>u.name) (q:=f91) (by rw[yq];exact qws (z7 b.U)) (fun x _=>rfl) (fun s=>rfl),yq,VH]
  rfl
 unfold f73
 rw[h1,ob,h2]
 exact⟨_,rfl⟩
theorem jny {n:List UInt8}(b:GB r):∃w,f32 r n=I (yg (pv r.er n),w):=by
 unfold f32
 have hl:=z7 b.U
 have:=G5 (l:=r.units.getD []) (p:=fun u=>nT u.er n) (g:=fun u:qe=>u.name) (f:=Bc r n) hl (fun o w=>by unfold Bc;simp only[fU,cond_false]) (fun i x o w hx=>by
  have hi:=(En.1 hx).1
  unfold Bc
  simp only[gH hi,cT,jx,yb hx,jqi (z7 (b.N x (List.mem_of_getElem? hx)).1)]
  rw[gj (by unfold SM at hl;omega)])
 rw[this,VH]
 exact⟨_,rfl⟩
def NQ (S:qu)(k:List UInt8):Int:=S.aq.foldl (fun n x=>if decide (x.kind=k)&&!x.held then j9 .i64 (n+x.left)else n) 0
theorem jco {k:List UInt8}(b:GB r):f76 r k=I (NQ r.er k):=by
 unfold f76 NQ
 have hl:=z7 b.L
 have:=D3 (r.aq.getD []) (wi r k) (fun i (c:Int)=>(c,(i:Int))) (fun n x=>if decide (x.kind=k)&&!x.held then j9 .i64 (n+x.left)else n) (fun c=>(c,((r.aq.getD []).length:Int))) 0 (fun c=>by unfold wi;simp only[fU];rfl)
  (fun i c x hx hi=>by
   unfold wi
   simp only[gH hi,cT,jx,yb hx]
   rw[gj (by unfold SM at hl;omega)]
   cases decide (x.kind=k)<;>cases x.held<;>rfl)
 have h:bj (wi r k) (0,0)=_:=this
 rw[h];rfl
theorem jn0 {k:List UInt8}(b:GB r):f33 r k=I (NQ r.er k):=by
 have:HJ r k=wi r k:=rfl
 unfold f33
 rw[this]
 exact jco b
theorem jqc {l:List Int}(hl:l.length≤SM):f24 (I l)=I (eN l):=by
 have h:HK (I l)=vV (I l):=rfl
 have e:f24 (I l)=f51 (I l):=by
  unfold f24 f77 f51
  rw[h]
  cases bj (vV (I l)) 0 with
  |none=>rfl
  |some d=>cases d<;>rfl
 rw[e]
 exact iw hl
theorem VI {b:Bool}{e:Int}:f25 b e=I (if b then e else 0):=by unfold f25;cases b<;>rfl
theorem jgq {l:List qk}(h:l.length≤SM):(l.map (·.k)).length≤SM:=by rw[Eh];exact h
theorem NR {o:Option Nat}:decide (dC o<0)=!o.isSome:=by
 cases o with
 |none=>rfl
 |some k=>exact dF (show ¬(k:Int)<0 by omega)
theorem q5u {o:Option Nat}:decide (0≤dC o)=o.isSome:=uR o
structure ju (g g':qc)(S:qu)(n:List UInt8)(k:Nat)(pu pw:qe)(m:List (List UInt8))(e:Int):Prop where
 VJ:zq (g.units.getD []) (k:Int)=I pu
 VK:zq (g'.units.getD []) (k:Int)=I pw
 er:pu.er=pw.er
 u1:(pu.uses.getD []).length≤SM
 u2:(pw.uses.getD []).length≤SM
 m1:∃w,f74 g pu=I (yg m,w)
 m2:∃w,f30 g' pw=I (yg m,w)
 ml:m.length≤SM
 r1:f75 g pu=I e
 r2:f31 g' pw=I e
theorem jcq {D:qt}{u:qz}(h:(D.aB.getD []).length≤SM):(qT D.er u).length≤SM:=by
 unfold qT
 rw[Eh]
 exact Nat.le_trans (E5 _ _) h
theorem jgc {g g':qc}(he:g.er=g'.er)(b:GB g)(b':GB g')(w:WF g.er){n:List UInt8}{k:Nat}(hk:kh g.er n=I k):∃pu pw m e,ju g g' g.er n k pu pw m e:=by
 obtain⟨pu,h1,_,h3⟩:=ov hk
 obtain⟨pw,NK,_,h3'⟩:=ov (r:=g') (by rw[←he];exact hk)
 obtain⟨D,v,o⟩:=xW b w h1
 obtain⟨D',v',o'⟩:=xW b' (by rw[←he];exact w) NK
 have hu:pu.er=pw.er:=by rw[he,h3']at h3;exact(I.inj h3).symm
 have hd:D.er=D'.er:=by
  have h4:=o.uU
  have h5:=o'.uU
  rw[he,hu,h5]at h4
  exact(I.inj h4).symm
 obtain⟨w1,m1⟩:=jb8 o.doc (z7 o.results) (z7 o.aB) o.bu
 obtain⟨w2,m2⟩:=jb7 o'.qV (z7 o'.results) (z7 o'.aB)
 refine⟨pu,pw,qT D.er pu.er,qU (j9 .i64) g.er pu.er,yb h1,yb NK,hu,z7 o.uses,z7 o'.uses,⟨w1,m1⟩,⟨w2,by rw[m2,hd,hu]⟩,jcq (z7 o.aB),?_,?_⟩
 ·exact jap (z7 b.P) o.new (z7 b.L) (z7 o.uses) o.aq o.doc o.uU (z7 o.aF) (z7 o.results) (z7 o.aB) o.bu
 ·rw[he,hu]
  exact q97 (z7 b'.P) o'.new (z7 b'.L) (z7 o'.uses) o'.aq o'.qV o'.uU (z7 o'.aF) (z7 o'.results) (z7 o'.aB)
theorem jlp (a0:Option (List ql))(a1:List UInt8):f5 a0 a1=I E7:=by
 obtain⟨b1,h1,k1⟩:=jwq (l:=a0) (n:=24) (by omega)
 unfold f5
 rw[show f7 a0 24=I b1 from h1,ob]
 cases b1 with
 |false=>rfl
 |true=>
 rw[cT]
 cases hd:decide (40<(a1.length:Int))with
 |true=>rfl
 |false=>
 rw[cond_false]
 obtain⟨l1,hb⟩:=k1 rfl
 obtain⟨g,g',i,bad,n,p9,VL,he,hn,sb,w,w2⟩:=zey hb
 have b:GB g:=SB.gb sb hn
 have b':GB g':=SB.gb (by rw[←he];exact sb) hn
 have f2:∀a b:Int,f51 (I [a,b])=I (eN [a,b]):=fun a b=>iw (by simp[SM])
 have g2:∀a b:Int,f24 (I [a,b])=I (eN [a,b]):=fun a b=>jqc (by simp[SM])
 have vw:f23 a0 a1=I (if eN [bad,if !Go.W.cj a1 then 8 else 0]=0 then(NQ g.er a1,0)else(0,eN [bad,if !Go.W.cj a1 then 8 else 0])):=by
  unfold f23
  rw[p9,ob,jbp,Vw,ob,iN,ob,f2,ob]
  by_cases h:eN [bad,if !Go.W.cj a1 then 8 else 0]=0
  ·rw[dT h,if_pos h,cT,jco b];rfl
  ·rw[dF h,if_neg h];rfl
 generalize bO:eN [bad,if !Go.W.cj a1 then 8 else 0]=st at vw
 have vz:=jn0 (r:=g') (k:=a1) b'
 by_cases fQ:bad=0
 case neg=>
  have h0:∀y:Int,eN [bad,y]=bad:=fun y=>by simp[eN,fQ]
  have mb:f70 a0 a1=I (⟨0,Ev,Ev,Ev⟩,0,bad):=by
   unfold f70
   rw[p9,ob,dF fQ];rfl
  have vr:f19 a0 a1=I (Ev,bad):=by unfold f19;rw[mb,ob,dF fQ];rfl
  have uc:f20 a0 a1=I (Ev,bad):=by
   unfold f20
   rw[p9,ob,xN (z7 b.L),ob,iN,ob,f2,ob,h0,dF fQ];rfl
  have vt:f21 a0 a1=I (Ev,bad):=by unfold f21;rw[mb,ob,dF fQ];rfl
  have vu:f22 a0 a1=I bad:=by unfold f22;rw[mb,ob,dF fQ];rfl
  have Eo:f34 Ev bad Ev bad=I E7:=Em (by simp) (by simp[SM])
  have HD:st=bad:=by rw[←bO];exact h0 _
  subst HD
  rw[if_neg fQ]at vw
  simp only[vr,uc,vt,vu,vw,VL,ob,NJ,VI,g2,bO,dF fQ,cond_false,Eo,cT,decide_true]
  rfl
 subst fQ
 have wT:f93 g a1=I (dC (kh g.er a1)):=vT (z7 b.U)
 have wS:f27 g' a1=I (dC (kh g.er a1)):=by rw[G2 (z7 b'.U),he]
 have Dd:f28 g' a1=I (dC (y9 g.er a1)):=by rw[D0 (z7 b'.L),he]
 rw[←he]at vz
 have h01:∀y:Int,eN [0,y]=y:=fun y=>by by_cases h:y=0<;>simp[eN,h]
 have uc:∃x,f20 a0 a1=I (x,if(y9 g.er a1).isSome then 0 else 10)∧x.getD []=if(y9 g.er a1).isSome then pv g.er a1 else []:=by
  unfold f20
  obtain⟨w,EW⟩:=jo9 (n:=a1) b
  rw[p9,ob,xN (z7 b.L),ob,iN,ob,f2,ob,h01,NR]
  cases (y9 g.er a1).isSome with
  |true=>exact⟨yg (pv g.er a1),by rw[EW];rfl,yq _⟩
  |false=>exact⟨Ev,rfl,rfl⟩
 obtain⟨x20,uc,oB⟩:=uc
 obtain⟨w32,zc⟩:=jny (n:=a1) b'
 rw[←he]at zc
 have fT:(pv g.er a1).length≤SM:=by
  rw[VH,Eh]
  exact Nat.le_trans (E5 _ _) (z7 b.U)
 have NS:∀y:Option (List (List UInt8)),((y9 g.er a1).isSome=E7→y.getD []=pv g.er a1)→f34 x20 (if(y9 g.er a1).isSome then 0 else 10) y (if !(y9 g.er a1).isSome then 10 else 0)=I E7:=by
  intro y hy
  cases hl:(y9 g.er a1).isSome with
  |true=>
   rw[hl]at oB
   refine Em (e:=0) ?_ ?_
   ·rw[oB,if_pos rfl,hy hl];rfl
   ·rw[oB];exact fT
  |false=>
   rw[hl]at oB
   refine Em (e:=10) ?_ ?_
   ·rw[oB];rfl
   ·rw[oB];simp[SM]
 cases hu:kh g.er a1 with
 |none=>
  rw[hu]at wT wS
  have mb:f70 a0 a1=I (g,-1,10):=by
   unfold f70
   rw[p9,ob,dT rfl,cT,wT,ob,iN];rfl
  have vr:f19 a0 a1=I (Ev,10):=by unfold f19;rw[mb];rfl
  have vt:f21 a0 a1=I (Ev,10):=by unfold f21;rw[mb];rfl
  have vu:f22 a0 a1=I 10:=by unfold f22;rw[mb];rfl
  have Eo:f34 Ev 10 Ev 10=I E7:=Em (by simp) (by simp[SM])
  simp only[vr,uc,vt,vu,vw,VL,ob,NJ,VI,g2,bO,decide_true,cT,wS,Dd,NR,q5u,Option.isSome_none,E6,cond_false,if_true]
  cases hl:(y9 g.er a1).isSome with
  |true=>
   have q:=NS (yg (pv g.er a1)) (fun _=>yq _)
   rw[hl]at q
   simp only[cT,zc,ob,if_true,Ga]at q ⊢
   by_cases hs:st=0
   ·simp only[dT hs,if_pos hs,cT,vz,ob,Eo,q,decide_true,hs,if_true];rfl
   ·simp only[dF hs,if_neg hs,cond_false,ob,Eo,q,decide_true,cT];rfl
  |false=>
   have q:=NS Ev (fun h=>by rw[hl]at h;cases h)
   rw[hl]at q
   simp only[cond_false,ob,if_true,E6]at q ⊢
   by_cases hs:st=0
   ·simp only[dT hs,if_pos hs,cT,vz,ob,Eo,q,decide_true,hs,if_true];rfl
   ·simp only[dF hs,if_neg hs,cond_false,ob,Eo,q,decide_true,cT];rfl
 |some k=>
  obtain⟨pu,pw,m,e,U⟩:=jgc he b b' w hu
  obtain⟨w1,m1⟩:=U.m1
  obtain⟨w2,m2⟩:=U.m2
  obtain⟨w3,d1⟩:=jb4 U.u1
  obtain⟨w4,d2⟩:=jpo U.u2
  rw[←U.er]at d2
  rw[hu]at wT wS
  have mb:f70 a0 a1=I (g,(k:Int),0):=by
   unfold f70
   rw[p9,ob,dT rfl,cT,wT,ob,NR,iN];rfl
  have vr:f19 a0 a1=I (yg (pu.er.uses.map (·.k)),0):=by unfold f19;rw[mb,ob,dT rfl,cT,U.VJ,ob,d1];rfl
  have vt:f21 a0 a1=I (yg m,0):=by unfold f21;rw[mb,ob,dT rfl,cT,U.VJ,ob,m1];rfl
  have vu:f22 a0 a1=I e:=by unfold f22;rw[mb,ob,dT rfl,cT,U.VJ,ob,U.r1];rfl
  have q1:f34 (yg (pu.er.uses.map (·.k))) 0 (yg (pu.er.uses.map (·.k))) 0=I E7:=Em (by simp) (by rw[yq];exact jgq U.u1)
  have q2:f34 (yg m) 0 (yg m) 0=I E7:=Em (by simp) (by rw[yq];exact U.ml)
  have VK:zq (g'.units.getD []) (dC (I k))=I pw:=U.VK
  simp only[vr,uc,vt,vu,vw,VL,ob,NJ,VI,g2,bO,decide_true,cT,wS,Dd,NR,q5u,Option.isSome_some,Ga,if_false,El,VK,d2,m2,U.r2]
  cases hl:(y9 g.er a1).isSome with
  |true=>
   have q:=NS (yg (pv g.er a1)) (fun _=>yq _)
   rw[hl]at q
   simp only[cT,zc,ob,if_true,Ga,if_false,El]at q ⊢
   by_cases hs:st=0
   ·simp only[dT hs,if_pos hs,cT,vz,ob,q1,q2,q,decide_true,hs,if_true];rfl
   ·simp only[dF hs,if_neg hs,cond_false,ob,q1,q2,q,decide_true,cT];rfl
  |false=>
   have q:=NS Ev (fun h=>by rw[hl]at h;cases h)
   rw[hl]at q
   simp only[cond_false,ob,if_true,E6,if_false,El]at q ⊢
   by_cases hs:st=0
   ·simp only[dT hs,if_pos hs,cT,vz,ob,q1,q2,q,decide_true,hs,if_true];rfl
   ·simp only[dF hs,if_neg hs,cond_false,ob,q1,q2,q,decide_true,cT];rfl
theorem I5 (a0:Option (List ql))(a1:List UInt8):jz dD (X dD) 5 [sl 5 vev a0,.str a1]=I (.bool E7,false):=W5 (jlp a0 a1)
end Go.Z
