/- Chapter 4. -/
import Derived.Test.YtnjngdcbkkonnaaGreatDoorA13
import Derived.Test.YtnjngdcbkkonnaaGreatDoorPQ
import Derived.Test.YtnjngdcbkkonnaaGreatDoorTK
import Derived.Test.YtnjngdcbkkonnaaGreatDoorA16
set_option linter.unusedVariables false
set_option linter.unusedSimpArgs false
set_option maxRecDepth 100000
set_option maxHeartbeats 1000000
namespace Go.Z
open Go Go.Abs
def qcy (v:qh):Int:=if kf [yf v.num 0 1000,yf v.den 1 1000]=0 then qbf (!(decide (v.num=(low v.num v.den).num)&&decide (v.den=(low v.num v.den).den))) 1 else kf [yf v.num 0 1000,yf v.den 1 1000]
theorem qv2 {a b:Int}(h:kf [a,b]=0):a=0∧b=0:=by
 have:=qbc.1 h
 exact⟨this a (by simp),this b (by simp)⟩
theorem q53 {v:qh}:f143 v=some (qcy v):=by
 unfold f143 qcy
 rw[qps,j6,qps,j6,qfc (by simp),j6]
 by_cases h:kf [yf v.num 0 1000,yf v.den 1 1000]=0
 ·obtain⟨h1,h2⟩:=qv2 h
  have k1:=qcz h1
  have k2:=qcz h2
  rw[dT h,cT,if_pos h,jdf (by omega) (by omega) (by omega) (by omega),j6,qda];rfl
 ·rw[dF h,cF,if_neg h]
theorem q6y {v:qh}:f118 v=some (qcy v):=by
 unfold f118 qcy
 rw[qpp,j6,qpp,j6,qmg (by simp),j6]
 by_cases h:kf [yf v.num 0 1000,yf v.den 1 1000]=0
 ·obtain⟨h1,h2⟩:=qv2 h
  have k1:=qcz h1
  have k2:=qcz h2
  rw[dT h,cT,if_pos h,q5s (by omega) (by omega) (by omega) (by omega),j6,qzc];rfl
 ·rw[dF h,cF,if_neg h]
theorem qqt {v:qh}(h:qcy v=0):(0≤v.num∧v.num≤1000)∧1≤v.den∧v.den≤1000:=by
 unfold qcy at h
 split at h
 ·next h1=>
  obtain⟨h2,h3⟩:=qv2 h1
  exact⟨qcz h2,qcz h3⟩
 ·next h1=>exact absurd h h1
theorem qgr {v:qh}(h:qcy v=0):jr v:=by
 obtain⟨⟨h1,h2⟩,h3,h4⟩:=qqt h
 exact⟨h1,by omega,h3,by omega⟩
def bLe (b:qp):qh:=⟨b.ln,b.ld⟩
def bMo (b:qp):qh:=⟨b.mn,b.md⟩
def qdd (b:qp):Int:=kf [yf b.w 1 8,qcy (bLe b),qcy (bMo b)]
def qq0 (last:Int):List qp→Int
 | []=>0
 |b::l=>if qdd b=0 then(if qeq (bMo b) (bLe b)||decide (b.w≤last)then 11 else qq0 b.w l)else qdd b
def qgh (l:List qp):Int:=if l.length=0 then 12 else if 8<l.length then 5 else qq0 0 l
theorem qp0 {b:qp}(h:qdd b=0):yf b.w 1 8=0∧qcy (bLe b)=0∧qcy (bMo b)=0:=by
 have:=qbc.1 h
 exact⟨this _ (by simp),this _ (by simp),this _ (by simp)⟩
theorem jml {o:Option (List qp)}(hn:(o.getD []).length≤8):∀(k i:Nat) (last:Int),i+k=(o.getD []).length→∃d,itO (qnc o) (last,(i:Int))=some d∧(match d with | .inl e=>e.1 | .inr _=>0)=qq0 last ((o.getD []).drop i)
 |0,i,last,hi=>by
  refine⟨.inr (last,(i:Int)),qab ?_,?_⟩
  ·unfold qnc
   dsimp only
   rw[dF (show ¬(i:Int)<((o.getD []).length:Int) by omega)];rfl
  ·rw[List.drop_eq_nil_of_le (by omega)];rfl
 |k+1,i,last,hi=>by
  have hlt:i<(o.getD []).length:=by omega
  have hx:(o.getD [])[i]?=some (o.getD [])[i]:=List.getElem?_eq_getElem hlt
  generalize (o.getD [])[i]=b at hx
  rw[kl hx]
  have e:qnc o (last,(i:Int))=cond (decide (qdd b=0)) (j5 (f127 ⟨b.ln,b.ld⟩ ⟨b.mn,b.md⟩) fun v52=>cond v52 (some (.inr (.inl (11,b.w,b.ln,b.ld,b.mn,b.md)))) (cond (decide (b.w≤last)) (some (.inr (.inl (11,b.w,b.ln,b.ld,b.mn,b.md)))) (some (.inl (b.w,((i+1:Nat):Int)))))) (some (.inr (.inl (qdd b,b.w,b.ln,b.ld,b.mn,b.md)))):=by
   unfold qnc
   dsimp only
   rw[kc hlt,cT,yn hx,j6,jir,j6,q53,j6,q53,j6,qfc (by simp),j6,yb hlt (by omega)]
   rfl
  unfold qq0
  by_cases h:qdd b=0
  ·obtain⟨h1,h2,h3⟩:=qp0 h
   rw[dT h,cT,qzv (a:=⟨b.ln,b.ld⟩) (b:=⟨b.mn,b.md⟩) (qgr h2) (qgr h3),j6]at e
   rw[if_pos h]
   change _=cond (qeq (bMo b) (bLe b)) _ _ at e
   cases hb:qeq (bMo b) (bLe b)with
   |true=>
    rw[hb,cT]at e
    exact⟨_,qab e,rfl⟩
   |false=>
    rw[hb,cF]at e
    by_cases hw:b.w≤last
    ·rw[dT hw,cT]at e
     refine⟨_,qab e,?_⟩
     rw[dT hw];rfl
    ·rw[dF hw,cF]at e
     obtain⟨d,g1,g2⟩:=jml hn k (i+1) b.w (by omega)
     refine⟨d,by rw[qbi e];exact g1,?_⟩
     rw[dF hw,Bool.or_false]
     simp only[Bool.false_eq_true,if_false]
     exact g2
  ·rw[dF h,cF]at e
   rw[if_neg h]
   exact⟨_,qab e,rfl⟩
theorem jnn {o:Option (List qp)}:f81 o=some (qgh (o.getD [])):=by
 unfold f81 qgh
 rw[qda,j6,qda,j6,qfc (by simp),j6]
 by_cases h0:(o.getD []).length=0
 ·rw[dT (show((o.getD []).length:Int)=0 by omega),if_pos h0];rfl
 ·rw[dF (show ¬((o.getD []).length:Int)=0 by omega),if_neg h0]
  by_cases h8:8<(o.getD []).length
  ·rw[dT (show(8:Int)<((o.getD []).length:Int) by omega),if_pos h8];rfl
  ·rw[dF (show ¬(8:Int)<((o.getD []).length:Int) by omega),if_neg h8]
   obtain⟨d,g1,g2⟩:=jml (o:=o) (by omega) (o.getD []).length 0 0 (by omega)
   rw[show(decide (kf [qbf false 12,qbf false 5]=0))=true from rfl,cT]
   rw[show((0:Int),(0:Int))=(0,((0:Nat):Int))from rfl,g1,j6]
   rw[List.drop_zero]at g2
   rw[←g2]
   rcases d with d|d<;>rfl
theorem jen {a b:qh}(ha:qcy a=0)(hb:qcy b=0):∃v,f119 a b=some v∧decide (0<v)=qeq b a:=by
 obtain⟨⟨a1,a2⟩,a3,a4⟩:=qqt ha
 obtain⟨⟨b1,b2⟩,b3,b4⟩:=qqt hb
 have k1:=qwa (B:=1000) (x:=a.num) (y:=b.den) (c:=1000) (by omega) (by omega) (by omega) (by omega) (by decide)
 have k2:=qwa (B:=1000) (x:=b.num) (y:=a.den) (c:=1000) (by omega) (by omega) (by omega) (by omega) (by decide)
 unfold f119 qeq
 rw[yz (x:=a.num*b.den) (by omega) (by omega),yz (x:=b.num*a.den) (by omega) (by omega)]
 by_cases h:a.num*b.den<b.num*a.den
 ·rw[dT h,cT]
  exact⟨_,rfl,by rw[dF (show ¬b.num*a.den<a.num*b.den by omega)];rfl⟩
 ·rw[dF h,cF]
  by_cases h':b.num*a.den<a.num*b.den
  ·rw[dT h',cT]
   exact⟨_,rfl,rfl⟩
  ·rw[dF h',cF]
   exact⟨_,rfl,rfl⟩
theorem jke {w:Int}:f34 w=some (yf w 1 8):=by unfold f34;rw[qpp];rfl
def q1g (l:List qp):Nat→Int
 |0=>0
 |i+1=>match l[i]? with|some b=>b.w|none=>0
theorem jnw {o:Option (List qp)}:f39 o=some (qgh (o.getD [])):=by
 unfold f39 qgh
 by_cases h0:(o.getD []).length=0
 ·rw[dT (show((o.getD []).length:Int)=0 by omega),if_pos h0];rfl
 ·rw[dF (show ¬((o.getD []).length:Int)=0 by omega),if_neg h0,cF]
  by_cases h8:8<(o.getD []).length
  ·rw[dT (show(8:Int)<((o.getD []).length:Int) by omega),if_pos h8];rfl
  ·rw[dF (show ¬(8:Int)<((o.getD []).length:Int) by omega),if_neg h8,cF]
   obtain⟨d,g1,g2⟩:=qc0 (o.getD []).length (fun i=>(i:Int)) (qm6 o) (fun d=>match d with | .inl e=>e | .inr _=>0) (fun i=>qq0 (q1g (o.getD []) i) ((o.getD []).drop i)) ⟨.inr _,by unfold qm6;rw[yu];rfl,by rw[List.drop_eq_nil_of_le (Nat.le_refl _)];rfl⟩ (fun i hlt=>by
    have hx:(o.getD [])[i]?=some (o.getD [])[i]:=List.getElem?_eq_getElem hlt
    generalize (o.getD [])[i]=b at hx
    rw[kl hx]
    have hl1:q1g (o.getD []) (i+1)=b.w:=by
     show(match(o.getD [])[i]? with|some b=>b.w|none=>0)=b.w
     rw[hx]
    unfold qm6
    rw[kc hlt,cT,yn hx,j6,jke,j6,q6y,j6,q6y,j6,qmg (by simp),j6,show kf [yf b.w 1 8,qcy ⟨b.ln,b.ld⟩,qcy ⟨b.mn,b.md⟩]=qdd b from rfl]
    simp only[qq0]
    by_cases h:qdd b=0
    ·obtain⟨h1,h2,h3⟩:=qp0 h
     obtain⟨v,hv,hv'⟩:=jen (a:=⟨b.ln,b.ld⟩) (b:=⟨b.mn,b.md⟩) h2 h3
     rw[dT h,cT,hv,j6,hv',if_pos h,hl1]
     rw[show qeq ⟨b.mn,b.md⟩ ⟨b.ln,b.ld⟩=qeq (bMo b) (bLe b)from rfl]
     cases hb:qeq (bMo b) (bLe b)with
     |true=>exact .inr ⟨.inl 11,rfl,rfl⟩
     |false=>
      rw[cF,Bool.false_or,yb hlt (by omega)]
      have hw1:=(qcz h1).1
      cases i with
      |zero=>
       rw[show q1g (o.getD []) 0=0 from rfl,dF (show ¬b.w≤0 by omega)]
       left
       rw[dF (show ¬(0:Int)<((0:Nat):Int) by decide)]
       exact⟨rfl,by simp⟩
      |succ j=>
       have hj:j<(o.getD []).length:=by omega
       have hy:(o.getD [])[j]?=some (o.getD [])[j]:=List.getElem?_eq_getElem hj
       generalize (o.getD [])[j]=c at hy
       have hl2:q1g (o.getD []) (j+1)=c.w:=by
        show(match(o.getD [])[j]? with|some b=>b.w|none=>0)=c.w
        rw[hy]
       rw[hl2,dT (show(0:Int)<((j+1:Nat):Int) by omega),cT,yz (x:=((j+1:Nat):Int)-1) (by omega) (by omega),show((j+1:Nat):Int)-1=(j:Int) by omega,yn hy,j6]
       by_cases hw:b.w≤c.w
       ·rw[dT hw]
        exact .inr ⟨.inl 11,rfl,rfl⟩
       ·rw[dF hw]
        exact .inl ⟨rfl,by simp⟩
    ·rw[dF h,cF,if_neg h]
     exact .inr ⟨.inl _,rfl,rfl⟩)
   rw[List.drop_zero]at g2
   have g1':itO (qm6 o) 0=some d:=g1
   have g2':_=qq0 0 (o.getD []):=g2
   rw[g1',j6,←g2']
   rcases d with d|d<;>rfl
theorem qxp:∀ {l:List qp} {last:Int},qq0 last l=0→∀b∈l,qdd b=0
 | [],_,_,_,h=>by cases h
 |c::l,last,h,b,hb=>by
  unfold qq0 at h
  split at h
  ·next h1=>
   split at h
   ·cases h
   ·rcases List.mem_cons.1 hb with rfl|hb
    ·exact h1
    ·exact qxp h b hb
  ·next h1=>exact absurd h h1
theorem qse {l:List qp}(h:qgh l=0):(1≤l.length∧l.length≤8)∧∀b∈l,qdd b=0:=by
 unfold qgh at h
 split at h
 ·cases h
 ·split at h
  ·cases h
  ·exact⟨by omega,qxp h⟩
theorem jly {o:Option (List qp)}(hn:(o.getD []).length≤1073741824):f38 o=some (zb (o.getD []),kh (o.getD [])):=by
 unfold f38
 have:=qgn (o.getD []) (qqd o) id (by omega) (fun a=>by unfold qqd;dsimp only;rw[yu];rfl) (fun i x a hx hi hl=>by
  unfold qqd
  dsimp only
  rw[kc hi,cT,yn hx,j6,yb hi (by omega)]
  exact qbk hl)
 rw[this,j6]
 simp
def qdp (b:qp)(x:List qk):Bool:=decide ((lev b.w x).2=0)&&!qeq (lev b.w x).1 (bLe b)&&!qeq (bMo b) (lev b.w x).1
theorem q6m {b:qp}{o:Option (List qk)}(hb:qdd b=0)(hl:qa0 (o.getD [])=0):f164 b o=some (qdp b (o.getD [])):=by
 obtain⟨h1,h2,h3⟩:=qp0 hb
 unfold f164 qdp
 rw[jk5 hl h1,j6]
 rcases q6c hl h1 with k|⟨k1,k2⟩
 ·rw[k];rfl
 ·rw[dT k1,cT,qzv (a:=⟨b.ln,b.ld⟩) (qgr h2) k2,j6,qzv (b:=⟨b.mn,b.md⟩) k2 (qgr h3)]
  change cond (qeq (lev b.w (o.getD [])).1 (bLe b)) _ _=_
  cases qeq (lev b.w (o.getD [])).1 (bLe b)<;>rfl
theorem q51 {b:qp}{o:Option (List qk)}(hb:qdd b=0)(hl:qa0 (o.getD [])=0):f142 o b=some (qdp b (o.getD [])):=by
 obtain⟨h1,h2,h3⟩:=qp0 hb
 unfold f142 qdp
 rw[jh3 hl h1,j6]
 rcases q6c hl h1 with k|⟨k1,k2⟩
 ·rw[k];rfl
 ·rw[dT k1,cT,jbz (b:=⟨b.ln,b.ld⟩) k2 (qgr h2),j6,jbz (a:=⟨b.mn,b.md⟩) (qgr h3) k2]
  change cond (qeq (lev b.w (o.getD [])).1 (bLe b)) _ _=_
  cases qeq (lev b.w (o.getD [])).1 (bLe b)<;>rfl
def qeb (ls:List (List qk)):Nat→List qp→Option (Nat×List qk)
 |_,[]=>none
 |i,b::l=>match ls.find? (fun x=>!qdp b x)with
  |some x=>some (i,x)
  |none=>qeb ls (i+1) l
def qfv:Option (Nat×List qk)→qq×Bool
 |none=>(⟨0,none⟩,false)
 |some p=>(⟨p.1,zb p.2⟩,true)
theorem qz3 {b:qp}(hb:qdd b=0):∀ {l:List (List qk)},(∀x∈l,qa0 x=0)→qbg (fun s x=>qvw b s (zb x)) l ()=some (match l.find? (fun x=>!qdp b x)with|some x=>.inr (zb x)|none=>.inl ())
 | [],_=>rfl
 |x::l,h=>by
  have e:qvw b () (zb x)=cond (qdp b x) (some (.inl ())) (some (.inr (zb x))):=by
   have:=q6m (b:=b) (o:=zb x) hb (by rw[ya];exact h x (List.mem_cons_self ..))
   rw[ya]at this
   unfold qvw
   rw[this,j6]
  simp only[qbg]
  rw[e,List.find?_cons]
  cases qdp b x with
  |true=>
   simp only[cT,j6,Bool.not_true]
   exact qz3 hb fun y hy=>h y (List.mem_cons_of_mem _ hy)
  |false=>rfl
theorem jdv {c:Bool}{qs:List qb}(h:qs.length≤3):(qb1 c qs []).length≤729:=by
 have h1:=q2o (c:=c) (qs:=qs) (x:=[])
 have h2:9^qs.length≤9^3:=Nat.pow_le_pow_right (by decide) h
 omega
section
variable {ps:Option (List qb)}{ch:Option (List Int)}{bs:Option (List qp)}{qs:List qb}
theorem jin (hp:jd (ps.getD []) (ch.getD []) qs)(ho:∀q∈qs,okP q)(hl:qs.length≤1000)(hb:∀b∈bs.getD [],qdd b=0)(hn:(bs.getD []).length≤8)(hv:∀x∈qb1 false qs [],qa0 x=0):
  f117 ps ch bs=some (qfv (qeb (qb1 false qs []) 0 (bs.getD []))):=by
 obtain⟨d,g1,g2⟩:=qc0 (bs.getD []).length (fun i=>(i:Int)) (qjd ps ch bs) (fun d=>match d with | .inl _=>((⟨0,none⟩,false):qq×Bool) | .inr d=>(⟨d.1,d.2.2⟩,true)) (fun i=>qfv (qeb (qb1 false qs []) i ((bs.getD []).drop i))) ⟨.inl _,by unfold qjd;rw[yu];rfl,by rw[List.drop_eq_nil_of_le (Nat.le_refl _)];rfl⟩ (fun i hlt=>by
  have hx:(bs.getD [])[i]?=some (bs.getD [])[i]:=List.getElem?_eq_getElem hlt
  have hbm:=hb _ (List.getElem_mem hlt)
  generalize (bs.getD [])[i]=b at hx hbm
  rw[kl hx]
  unfold qjd
  rw[kc hlt,cT,yn hx,j6,jib hp ho hl,qz3 hbm hv,j6]
  simp only[qeb]
  cases hf:(qb1 false qs []).find? (fun x=>!qdp b x)with
  |none=>
   left
   exact⟨by dsimp only;rw[yb hlt (by omega)],rfl⟩
  |some x=>exact .inr ⟨.inr ((i:Int),b,zb x),rfl,rfl⟩)
 unfold f117
 have g1':itO (qjd ps ch bs) 0=some d:=g1
 have g2':_=qfv (qeb (qb1 false qs []) 0 (bs.getD [])):=g2
 rw[g1',j6,←g2']
 rcases d with d|d<;>rfl
theorem jmv (hp:jd (ps.getD []) (ch.getD []) qs)(ho:∀q∈qs,okP q)(hl:(ch.getD []).length≤3)(hb:∀b∈bs.getD [],qdd b=0)(hn:(bs.getD []).length≤8)(hv:∀x∈qb1 false qs [],qa0 x=0):
  f79 ps ch bs=some (qfv (qeb (qb1 false qs []) 0 (bs.getD []))):=by
 unfold f79
 rw[jhc hp ho hl,j6]
 have hsz:=jdv (c:=false) (qs:=qs) (by rw[hp.len];exact hl)
 generalize hL:qb1 false qs []=L at hv hsz
 have hg:(zb (L.map zb)).getD []=L.map zb:=ya _
 -- the inner loop
 have inner:∀(i:Nat) (b:qp),(bs.getD [])[i]?=some b→∃d,itO (qm0 bs (zb (L.map zb),kh (L.map zb)) (i:Int)) 0=some d∧(match d with | .inl x=>some x | .inr _=>none)=(L.find? (fun x=>!qdp b x)).map zb:=by
  intro i b hx
  have hbm:=hb b (List.mem_of_getElem? hx)
  obtain⟨d,g1,g2⟩:=qc0 L.length (fun i=>(i:Int)) (qm0 bs (zb (L.map zb),kh (L.map zb)) (i:Int)) (fun d=>match d with | .inl x=>some x | .inr _=>none) (fun k=>((L.drop k).find? (fun x=>!qdp b x)).map zb) ⟨.inr _,by unfold qm0;dsimp only;rw[hg,List.length_map,yu];rfl,by rw[List.drop_eq_nil_of_le (Nat.le_refl _)];rfl⟩ (fun k hk=>by
   have hy:L[k]?=some L[k]:=List.getElem?_eq_getElem hk
   have hm:=hv _ (List.getElem_mem hk)
   generalize L[k]=x at hy hm
   have e142:f142 (zb x) b=some (qdp b x):=by
    have:=q51 (b:=b) (o:=zb x) hbm (by rw[ya];exact hm)
    rwa [ya]at this
   have hy':(L.map zb)[k]?=some (zb x):=by rw[List.getElem?_map,hy];rfl
   rw[kl hy,List.find?_cons]
   unfold qm0
   dsimp only
   rw[hg,List.length_map,kc hk,cT,yn hy',j6,yn hx,j6,e142,j6]
   cases qdp b x with
   |true=>exact .inl ⟨by rw[cT,yb hk (by omega)],rfl⟩
   |false=>exact .inr ⟨.inl (zb x),rfl,rfl⟩)
  exact⟨d,g1,by simpa using g2⟩
 obtain⟨d,g1,g2⟩:=qc0 (bs.getD []).length (fun i=>(i:Int)) (qmy bs (zb (L.map zb),kh (L.map zb))) (fun d=>match d with | .inl d=>((⟨d.1,d.2⟩,true):qq×Bool) | .inr _=>(⟨0,none⟩,false)) (fun i=>qfv (qeb L i ((bs.getD []).drop i))) ⟨.inr _,by unfold qmy;rw[yu];rfl,by rw[List.drop_eq_nil_of_le (Nat.le_refl _)];rfl⟩ (fun i hlt=>by
  have hx:(bs.getD [])[i]?=some (bs.getD [])[i]:=List.getElem?_eq_getElem hlt
  generalize (bs.getD [])[i]=b at hx
  rw[kl hx]
  obtain⟨d,k1,k2⟩:=inner i b hx
  unfold qmy
  rw[kc hlt,cT,k1,j6]
  simp only[qeb]
  cases hf:L.find? (fun x=>!qdp b x)with
  |none=>
   rw[hf]at k2
   rcases d with d|d
   ·cases k2
   ·exact .inl ⟨by dsimp only;rw[yb hlt (by omega)],rfl⟩
  |some x=>
   rw[hf]at k2
   rcases d with d|d
   ·obtain rfl:d=zb x:=Option.some.inj k2
    exact .inr ⟨.inl ((i:Int),zb x),rfl,rfl⟩
   ·cases k2)
 have g1':itO (qmy bs (zb (L.map zb),kh (L.map zb))) 0=some d:=g1
 have g2':_=qfv (qeb L 0 (bs.getD [])):=g2
 rw[g1',j6,←g2']
 rcases d with d|d<;>rfl
end
def eqE (x y:qk):Bool:=decide (x.kind=y.kind)&&decide (x.a=y.a)&&decide (x.b=y.b)
def qg2 (l:List qk)(x:qk):Bool:=l.any fun e=>eqE e x
theorem jdw {l:List qk}{x:qk}(h:qg2 l x=true):x∈l:=by
 obtain⟨e,he,h1⟩:=List.any_eq_true.1 h
 obtain rfl:=q10.1 h1
 exact he
theorem jhi {o:Option (List qk)}{x:qk}(hn:(o.getD []).length≤1073741824):f180 o x.kind x.a x.b=some (qg2 (o.getD []) x):=by
 unfold f180 f210
 obtain⟨d,g1,g2⟩:=qc0 (o.getD []).length (fun i=>(i:Int)) (qit o x.kind x.a x.b) (fun d=>match d with | .inl i=>decide (0≤i) | .inr _=>false) (fun i=>qg2 ((o.getD []).drop i) x) ⟨.inr _,by unfold qit;rw[yu];rfl,by rw[List.drop_eq_nil_of_le (Nat.le_refl _)];rfl⟩ (fun i hlt=>by
  have hx:(o.getD [])[i]?=some (o.getD [])[i]:=List.getElem?_eq_getElem hlt
  generalize (o.getD [])[i]=e at hx
  rw[kl hx]
  unfold qit f182 qg2
  rw[kc hlt,cT,yn hx,j6,j6,List.any_cons]
  rw[show(decide (e.kind=x.kind)&&decide (e.a=x.a)&&decide (e.b=x.b))=eqE e x from rfl]
  cases eqE e x with
  |true=>exact .inr ⟨.inl (i:Int),rfl,by simp⟩
  |false=>exact .inl ⟨by rw[cF,yb hlt (by omega)],rfl⟩)
 have g1':itO (qit o x.kind x.a x.b) 0=some d:=g1
 have g2':_=qg2 (o.getD []) x:=g2
 rw[g1',j6,←g2']
 rcases d with d|d<;>rfl
def qyy (l:List qk)(qs:List qb):Bool:=(l.zip qs).all fun p=>qg2 (ki p.2 false) p.1
def qbj (qs:List qb)(bs:List qp)(f:qq):Int:=
 if f.band<0∨(bs.length:Int)≤f.band then 10 else if(f.ladder.getD []).length≠qs.length then 2 else if qyy (f.ladder.getD []) qs=true then(match bs[f.band.toNat]? with|some b=>qbf (qdp b (f.ladder.getD [])) 22|none=>0)else 1
theorem qye {α β:Type}{a:List α}{b:List β}{i:Nat}{x:α×β}(h:(a.zip b)[i]?=some x):a[i]?=some x.1∧b[i]?=some x.2:=by
 rw[List.getElem?_zip_eq_some]at h
 exact h
theorem q6b {l:List qk}{qs:List qb}(hq:∀q∈qs,qca q=0)(hl:l.length=qs.length)(hn:l.length≤5)(h:qyy l qs=true):qa0 l=0:=by
 unfold qa0
 rw[if_neg (by omega)]
 refine qbc.2 fun e he=>?_
 obtain⟨v,hv,rfl⟩:=List.mem_map.1 he
 obtain⟨i,hi,rfl⟩:=List.mem_iff_getElem.1 hv
 have hz:(l.zip qs)[i]?=some (l[i],qs[i]'(by omega)):=by
  rw[List.getElem?_zip_eq_some]
  exact⟨List.getElem?_eq_getElem hi,List.getElem?_eq_getElem (by omega)⟩
 have:=List.all_eq_true.1 h _ (List.mem_of_getElem? hz)
 exact q0m (hq _ (List.getElem_mem _)) (jdw this)
section
variable {ps:Option (List qb)}{ch:Option (List Int)}{bs:Option (List qp)}{qs:List qb}{f:qq}
theorem jh5 (hc:qcs (ps.getD [])=0)(hp:jd (ps.getD []) (ch.getD []) qs)(hl:(ch.getD []).length≤3)(hb:∀b∈bs.getD [],qdd b=0):f141 f ps ch bs=some (qbj qs (bs.getD []) f):=by
 have hq:∀q∈qs,qca q=0:=fun q h=>(qcv hc).2 q (hp.mem q h)
 have loop:(f.ladder.getD []).length=qs.length→∃d,itO (qg6 f ps ch bs) 0=some d∧(match d with | .inl _=>false | .inr _=>true)=qyy (f.ladder.getD []) qs:=by
  intro hlen
  have hpl:=hp.len
  have hz:((f.ladder.getD []).zip qs).length=(f.ladder.getD []).length:=by rw[List.length_zip];omega
  exact qc3 ((f.ladder.getD []).zip qs) (qg6 f ps ch bs) (fun p=>qg2 (ki p.2 false) p.1) (fun d=>match d with | .inl _=>false | .inr _=>true) ⟨.inr _,by unfold qg6;rw[hz,yu];rfl,rfl⟩ (fun i x hx hi=>by
   obtain⟨k1,k2⟩:=qye hx
   have hi':i<(f.ladder.getD []).length:=by omega
   have hk:i<(ch.getD []).length:=by rw[←hp.len];omega
   obtain⟨q,g1,g2⟩:=hp.at_ i _ (List.getElem?_eq_getElem hk)
   rw[k2]at g1
   cases g1
   have ok:=qql (hq x.2 (List.mem_of_getElem? k2))
   unfold qg6
   rw[kc hi',cT,yn k1,j6,yn (List.getElem?_eq_getElem hk),j6,g2,j6,q16 ok,j6]
   dsimp only
   rw[jhi (o:=some (ki x.2 false)) (by have:=qds (p:=x.2) (c:=false);simp only[Option.getD_some];omega),j6,yb hi' (by omega)]
   simp only[Option.getD_some]
   cases qg2 (ki x.2 false) x.1 with
   |true=>exact .inl ⟨rfl,rfl⟩
   |false=>exact .inr ⟨rfl,.inl _,rfl,rfl⟩)
 have key:(0≤f.band∧f.band<((bs.getD []).length:Int))→(f.ladder.getD []).length=qs.length→(j5 (itO (qg6 f ps ch bs) 0) fun d45=>match d45 with
    | .inl d47=>some 1
    | .inr d48=>j5 (yd (bs.getD []) f.band) fun v49=>j5 (f164 v49 f.ladder) fun v51=>j5 (f106 v51 22) fun v53=>some v53)=some (qbj qs (bs.getD []) f):=by
  intro hbd hlen
  obtain⟨d,g1,g2⟩:=loop hlen
  unfold qbj
  rw[if_neg (by omega),if_neg (by omega),g1,j6]
  cases ha:qyy (f.ladder.getD []) qs with
  |false=>
   rw[ha]at g2
   rcases d with d|d
   ·simp
   ·cases g2
  |true=>
   rw[ha]at g2
   rcases d with d|d
   ·cases g2
   ·have hbt:f.band.toNat<(bs.getD []).length:=by omega
    have hx:(bs.getD [])[f.band.toNat]?=some (bs.getD [])[f.band.toNat]:=List.getElem?_eq_getElem hbt
    have hbm:=hb _ (List.getElem_mem hbt)
    generalize (bs.getD [])[f.band.toNat]=b at hx hbm
    have hix:yd (bs.getD []) f.band=some b:=by
     unfold yd
     rw[if_pos hbd.1,hx]
    dsimp only
    rw[hix,j6,q6m hbm (q6b hq hlen (by rw[hlen,hp.len];omega) ha),j6,qda,j6,if_pos rfl,hx]
 unfold f141
 by_cases h0:f.band<0
 ·rw[dT h0,cT,qda,j6,qda,j6,qfc (by simp),j6]
  unfold qbj
  rw[if_pos (.inl h0)];rfl
 ·rw[dF h0,cF,qda,j6,qda,j6,qfc (by simp),j6]
  by_cases h1:((bs.getD []).length:Int)≤f.band
  ·rw[dT h1]
   unfold qbj
   rw[if_pos (.inr h1)];rfl
  ·rw[dF h1]
   by_cases h2:(f.ladder.getD []).length=qs.length
   ·have h2':((f.ladder.getD []).length:Int)=((ch.getD []).length:Int):=by rw[←hp.len];omega
    rw[dT h2']
    exact key (by omega) h2
   ·have h2':¬((f.ladder.getD []).length:Int)=((ch.getD []).length:Int):=by rw[←hp.len];omega
    rw[dF h2']
    unfold qbj
    rw[if_neg (by omega),if_pos h2];rfl
theorem jmp (hc:qcs (ps.getD [])=0)(hp:jd (ps.getD []) (ch.getD []) qs)(hl:(ch.getD []).length≤3)(hb:∀b∈bs.getD [],qdd b=0):f80 ps ch bs f=some (qbj qs (bs.getD []) f):=by
 have hq:∀q∈qs,qca q=0:=fun q h=>(qcv hc).2 q (hp.mem q h)
 have inner:∀(i:Nat) (x:qk) (q:qb) (w:Bool),(f.ladder.getD [])[i]?=some x→∃d,itO (qj6 ps ch bs f (i:Int) (some (ki q false),w)) (false,0)=some d∧d.1=qg2 (ki q false) x:=by
  intro i x q w hx
  have hv9:=qds (p:=q) (c:=false)
  have key:∀(k j:Nat) (t:Bool),j+k=(ki q false).length→∃d,itO (qj6 ps ch bs f (i:Int) (some (ki q false),w)) (t,(j:Int))=some d∧d.1=(t||qg2 ((ki q false).drop j) x):=by
   intro k
   induction k with
   |zero=>
    intro j t hj
    have:j=(ki q false).length:=by omega
    subst this
    refine⟨(t,((ki q false).length:Int)),qab ?_,?_⟩
    ·unfold qj6
     dsimp only
     simp only[Option.getD_some]
     rw[yu];rfl
    ·rw[List.drop_eq_nil_of_le (Nat.le_refl _)];simp[qg2]
   |succ k ih=>
    intro j t hj
    have hlt:j<(ki q false).length:=by omega
    have hy:(ki q false)[j]?=some (ki q false)[j]:=List.getElem?_eq_getElem hlt
    generalize (ki q false)[j]=e at hy
    have e1:qj6 ps ch bs f (i:Int) (some (ki q false),w) (t,(j:Int))=some (.inl (t||eqE e x,((j+1:Nat):Int))):=by
     unfold qj6
     dsimp only
     simp only[Option.getD_some]
     rw[kc hlt,cT,yb hlt (by omega)]
     cases t with
     |true=>rfl
     |false=>rw[cF,yn hy,j6,yn hx,j6];rfl
    obtain⟨d,g1,g2⟩:=ih (j+1) (t||eqE e x) (by omega)
    refine⟨d,by rw[qbi e1];exact g1,?_⟩
    rw[g2,kl hy]
    unfold qg2
    rw[List.any_cons,Bool.or_assoc]
  obtain⟨d,g1,g2⟩:=key (ki q false).length 0 false (by omega)
  exact⟨d,g1,by simpa using g2⟩
 unfold f80 qbj
 by_cases h0:f.band<0
 ·rw[dT h0,if_pos (.inl h0)];rfl
 rw[dF h0,cF]
 by_cases h1:((bs.getD []).length:Int)≤f.band
 ·rw[dT h1,if_pos (.inr h1)];rfl
 rw[dF h1,cF,if_neg (by omega)]
 by_cases h2:(f.ladder.getD []).length=qs.length
 ·have h2':((f.ladder.getD []).length:Int)=((ch.getD []).length:Int):=by rw[←hp.len];omega
  rw[dT h2',cT,if_neg (by omega)]
  have hz:((f.ladder.getD []).zip qs).length=(ch.getD []).length:=by rw[List.length_zip,←hp.len];omega
  obtain⟨d,g1,g2⟩:=qc3 ((f.ladder.getD []).zip qs) (qqn ps ch bs f) (fun p=>qg2 (ki p.2 false) p.1) (fun d=>match d with | .inl _=>false | .inr _=>true) ⟨.inr _,by unfold qqn;rw[hz,yu];rfl,rfl⟩ (fun i x hx hi=>by
   obtain⟨k1,k2⟩:=qye hx
   have hk:i<(ch.getD []).length:=by omega
   obtain⟨q,g1,g2⟩:=hp.at_ i _ (List.getElem?_eq_getElem hk)
   rw[k2]at g1
   cases g1
   have ok:=qql (hq x.2 (List.mem_of_getElem? k2))
   obtain⟨d,j1,j2⟩:=inner i x.1 x.2 true k1
   unfold qqn
   rw[kc hk,cT,yn (List.getElem?_eq_getElem hk),j6,g2,j6,qys ok,j6,j1,j6,j2,yb hk (by omega)]
   cases qg2 (ki x.2 false) x.1 with
   |true=>exact .inl ⟨rfl,rfl⟩
   |false=>exact .inr ⟨rfl,.inl _,rfl,rfl⟩)
  rw[g1,j6]
  change _=qyy (f.ladder.getD []) qs at g2
  cases ha:qyy (f.ladder.getD []) qs with
  |false=>
   rw[ha]at g2
   rcases d with d|d
   ·simp
   ·cases g2
  |true=>
   rw[ha]at g2
   rcases d with d|d
   ·cases g2
   ·have hbt:f.band.toNat<(bs.getD []).length:=by omega
    have hx:(bs.getD [])[f.band.toNat]?=some (bs.getD [])[f.band.toNat]:=List.getElem?_eq_getElem hbt
    have hbm:=hb _ (List.getElem_mem hbt)
    generalize (bs.getD [])[f.band.toNat]=b at hx hbm
    have hix:yd (bs.getD []) f.band=some b:=by
     unfold yd
     rw[if_pos (by omega),hx]
    dsimp only
    rw[hix,j6,q51 hbm (q6b hq h2 (by rw[h2,hp.len];omega) ha),j6,qzc,j6,if_pos rfl,hx]
 ·have h2':¬((f.ladder.getD []).length:Int)=((ch.getD []).length:Int):=by rw[←hp.len];omega
  rw[dF h2',cF,if_pos h2]
end
theorem qvz {q:qb}(h:qca q=0):1≤q.cost∧q.cost≤1000000∧0≤q.stock∧q.stock≤100:=by
 unfold qca at h
 split at h
 ·next h1=>
  have:=qbc.1 h1
  have k1:=qcz (this (yf q.cost 1 1000000) (by simp))
  have k2:=qcz (this (yf q.stock 0 100) (by simp))
  omega
 ·next h1=>exact absurd h h1
def qdz (ps:List qb)(ch:List Int):Prop:=∀c∈ch,0≤c∧c<(ps.length:Int)
def qer (l:List qb)(c:Int):List qb:=match l[c.toNat]? with
 |some p=>l.set c.toNat (qmf p (p.stock-1))
 |none=>l
def qgd (l:List qb)(ch:List Int):List qb:=ch.foldl qer l
def qkf (l:List qb):Bool:=l.all fun p=>!decide (p.stock<0)
def qig (l:List qb)(ch:List Int):Option (List qb):=if qkf (qgd l ch)then some (qgd l ch)else none
theorem ql3 {l:List qb}{c:Int}:(qer l c).length=l.length:=by
 unfold qer
 split
 ·exact List.length_set
 ·rfl
theorem qv4:∀ {ch:List Int} {l:List qb},(qgd l ch).length=l.length
 | [],l=>rfl
 |c::ch,l=>by
  show(qgd (qer l c) ch).length=_
  rw[qv4,ql3]
theorem qy7 {l:List qb}{c:Int}{p:qb}(h:l[c.toNat]?=some p):qer l c=l.set c.toNat (qmf p (p.stock-1)):=by
 unfold qer
 rw[h]
def bdS (k:Nat)(l:List qb):Prop:=∀p∈l,-1000+(k:Int)≤p.stock∧p.stock≤1000
theorem q6v {k:Nat}{l:List qb}{c:Int}(h:bdS (k+1) l):bdS k (qer l c):=by
 intro p hp
 unfold qer at hp
 split at hp
 ·next q hq=>
  rcases List.mem_or_eq_of_mem_set hp with hm|rfl
  ·have:=h p hm
   omega
  ·have:=h q (List.mem_of_getElem? hq)
   show -1000+(k:Int)≤q.stock-1∧q.stock-1≤1000
   omega
 ·have:=h p hp
  omega
theorem qz8:∀ {ch:List Int} {l:List qb} {i:Nat} {p:qb},l[i]?=some p→∃q,(qgd l ch)[i]?=some q∧q.stock≤p.stock
 | [],l,i,p,h=>⟨p,h,Int.le_refl _⟩
 |c::ch,l,i,p,h=>by
  have:∃q,(qer l c)[i]?=some q∧q.stock≤p.stock:=by
   unfold qer
   split
   ·next r hr=>
    by_cases hi:c.toNat=i
    ·subst hi
     rw[h]at hr
     cases hr
     have hlt:=(List.getElem?_eq_some_iff.1 h).1
     exact⟨qmf p (p.stock-1),by rw[List.getElem?_set_self hlt],by show p.stock-1≤p.stock;omega⟩
    ·exact⟨p,by rw[List.getElem?_set_ne hi];exact h,Int.le_refl _⟩
   ·exact⟨p,h,Int.le_refl _⟩
  obtain⟨q,h1,h2⟩:=this
  obtain⟨r,h3,h4⟩:=qz8 (ch:=ch) h1
  exact⟨r,h3,by omega⟩
theorem jap {l:List qb}{c:Int}(h:0≤c∧c<(l.length:Int)):∃p,l[c.toNat]?=some p∧qjn l.length l c=some p:=by
 have hlt:c.toNat<l.length:=by omega
 exact⟨l[c.toNat],List.getElem?_eq_getElem hlt,by unfold qjn;rw[if_pos h,List.getElem?_eq_getElem hlt]⟩
section
variable {ch:Option (List Int)}
theorem jfq {n:Nat}(hch:(ch.getD []).length≤1000):∀(k i:Nat) (l:List qb),i+k=(ch.getD []).length→l.length=n→qdz l ((ch.getD []).drop i)→bdS k l→(∀p∈l,0≤p.stock) →
  ∃d,itO (qgx n ch) ((i:Int),l)=some d∧(match d with | .inl _=>none | .inr s=>some s.2)=qig l ((ch.getD []).drop i)
 |0,i,l,hi,hn,hx,hb,hp=>by
  refine⟨.inr ((i:Int),l),qab ?_,?_⟩
  ·unfold qgx
   dsimp only
   rw[dF (show ¬(i:Int)<((ch.getD []).length:Int) by omega)];rfl
  ·rw[List.drop_eq_nil_of_le (by omega)]
   have:qkf l=true:=by
    unfold qkf
    rw[List.all_eq_true]
    intro p hm
    have:=hp p hm
    rw[dF (by omega)];rfl
   unfold qig
   show _=if qkf l=true then some l else none
   rw[if_pos this]
 |k+1,i,l,hi,hn,hx,hb,hp=>by
  have hlt:i<(ch.getD []).length:=by omega
  have hc:(ch.getD [])[i]?=some (ch.getD [])[i]:=List.getElem?_eq_getElem hlt
  generalize (ch.getD [])[i]=c at hc
  rw[kl hc]at hx ⊢
  obtain⟨p,g1,g2⟩:=jap (hx c (List.mem_cons_self ..))
  have hbp:=hb p (List.mem_of_getElem? g1)
  have hpp:=hp p (List.mem_of_getElem? g1)
  have hlt2:c.toNat<l.length:=(List.getElem?_eq_some_iff.1 g1).1
  rw[hn]at g2
  have e:qgx n ch ((i:Int),l)=cond (decide (p.stock=0)) (some (.inr (.inl l))) (some (.inl (((i+1:Nat):Int),qer l c))):=by
   unfold qgx
   dsimp only
   rw[kc hlt,cT,yn hc,j6,g2,j6,yb hlt (by omega),yz (x:=p.stock-1) (by omega) (by omega),qy7 g1]
  by_cases h0:p.stock=0
  ·rw[dT h0,cT]at e
   refine⟨_,qab e,?_⟩
   have hd:(qer l c)[c.toNat]?=some (qmf p (p.stock-1)):=by rw[qy7 g1,List.getElem?_set_self hlt2]
   obtain⟨q,k1,k2⟩:=qz8 (ch:=(ch.getD []).drop (i+1)) hd
   have hq:q.stock<0:=by
    have:(qmf p (p.stock-1)).stock=p.stock-1:=rfl
    omega
   have hno:qkf (qgd (qer l c) ((ch.getD []).drop (i+1)))=false:=by
    unfold qkf
    rw[List.all_eq_false]
    exact⟨q,List.mem_of_getElem? k1,by rw[dT hq];decide⟩
   unfold qig
   show none=if qkf (qgd (qer l c) ((ch.getD []).drop (i+1)))=true then _ else none
   rw[hno];rfl
  ·rw[dF h0,cF]at e
   obtain⟨d,j1,j2⟩:=jfq hch k (i+1) (qer l c) (by omega) (by rw[ql3,hn]) (fun x hm=>by
     rw[ql3];exact hx x (List.mem_cons_of_mem _ hm)) (q6v hb) (fun q hm=>by
     unfold qer at hm
     rw[g1]at hm
     rcases List.mem_or_eq_of_mem_set hm with hm|rfl
     ·exact hp q hm
     ·show 0≤p.stock-1;omega)
   exact⟨d,by rw[qbi e];exact j1,j2⟩
theorem jjf {n:Nat}(hch:(ch.getD []).length≤1000):∀(k i:Nat) (l:List qb),i+k=(ch.getD []).length→l.length=n→qdz l ((ch.getD []).drop i)→bdS k l →
  ∃j,itO (qj8 n ch) ((i:Int),l)=some (j,qgd l ((ch.getD []).drop i))
 |0,i,l,hi,hn,hx,hb=>by
  refine⟨(i:Int),qab ?_⟩
  unfold qj8
  dsimp only
  rw[dF (show ¬(i:Int)<((ch.getD []).length:Int) by omega),List.drop_eq_nil_of_le (by omega)];rfl
 |k+1,i,l,hi,hn,hx,hb=>by
  have hlt:i<(ch.getD []).length:=by omega
  have hc:(ch.getD [])[i]?=some (ch.getD [])[i]:=List.getElem?_eq_getElem hlt
  generalize (ch.getD [])[i]=c at hc
  rw[kl hc]at hx ⊢
  obtain⟨p,g1,g2⟩:=jap (hx c (List.mem_cons_self ..))
  have hbp:=hb p (List.mem_of_getElem? g1)
  rw[hn]at g2
  have e:qj8 n ch ((i:Int),l)=some (.inl (((i+1:Nat):Int),qer l c)):=by
   unfold qj8
   dsimp only
   rw[kc hlt,cT,yn hc,j6,g2,j6,yb hlt (by omega),yz (x:=p.stock-1) (by omega) (by omega),qy7 g1]
  obtain⟨j,j1⟩:=jjf hch k (i+1) (qer l c) (by omega) (by rw[ql3,hn]) (fun x hm=>by
    rw[ql3];exact hx x (List.mem_cons_of_mem _ hm)) (q6v hb)
  exact⟨j,by rw[qbi e];exact j1⟩
theorem jgr {ps:Option (List qb)}(hn:(ps.getD []).length≤1073741824)(hc:(ch.getD []).length≤3)(hx:qdz (ps.getD []) (ch.getD []))(hp:∀p∈ps.getD [],qca p=0):f138 ps ch=some (match qig (ps.getD []) (ch.getD [])with|some l=>(some l,true)|none=>(none,false)):=by
 obtain⟨d,g1,g2⟩:=jfq (ch:=ch) (n:=(ps.getD []).length) (by omega) (ch.getD []).length 0 (ps.getD []) (by omega) rfl (by rw[List.drop_zero];exact hx) (fun p h=>by have:=qvz (hp p h);omega) (fun p h=>by have:=qvz (hp p h);omega)
 rw[List.drop_zero]at g2
 have g1':itO (qgx (ps.getD []).length ch) (0,ps.getD [])=some d:=g1
 unfold f138
 rw[dT hn,cT,g1',j6]
 rcases d with d|d
 ·rw[←g2]
 ·have g2':some d.2=qig (ps.getD []) (ch.getD []):=g2
  have hlen:d.2.length=(ps.getD []).length:=by
   unfold qig at g2'
   split at g2'
   ·rw[Option.some.inj g2'];exact qv4
   ·cases g2'
  rw[←g2']
  dsimp only
  rw[dT hlen];rfl
theorem jj9 {ps:Option (List qb)}(hn:(ps.getD []).length≤1073741824)(hc:(ch.getD []).length≤3)(hx:qdz (ps.getD []) (ch.getD []))(hp:∀p∈ps.getD [],qca p=0):f72 ps ch=some (match qig (ps.getD []) (ch.getD [])with|some l=>(some l,true)|none=>(none,false)):=by
 obtain⟨j,g1⟩:=jjf (ch:=ch) (n:=(ps.getD []).length) (by omega) (ch.getD []).length 0 (ps.getD []) (by omega) rfl (by rw[List.drop_zero];exact hx) (fun p h=>by have:=qvz (hp p h);omega)
 rw[List.drop_zero]at g1
 have g1':itO (qj8 (ps.getD []).length ch) (0,ps.getD [])=some (j,qgd (ps.getD []) (ch.getD [])):=g1
 have hlen:(qgd (ps.getD []) (ch.getD [])).length=(ps.getD []).length:=qv4
 obtain⟨d,k1,k2⟩:=qc3 (qgd (ps.getD []) (ch.getD [])) (qpy (ps.getD []).length (qgd (ps.getD []) (ch.getD []))) (fun p=>!decide (p.stock<0)) (fun d=>match d with | .inl _=>false | .inr _=>true) ⟨.inr _,by unfold qpy;rw[hlen,yu];rfl,rfl⟩ (fun i x hx' hi=>by
  have hix:qjn (ps.getD []).length (qgd (ps.getD []) (ch.getD [])) (i:Int)=some x:=by
   unfold qjn
   rw[if_pos (by omega)]
   exact hx'
  unfold qpy
  rw[dT (show(i:Int)<((ps.getD []).length:Int) by omega),cT,hix,j6,yb hi (by omega)]
  cases decide (x.stock<0)with
  |true=>exact .inr ⟨rfl,.inl (),rfl,rfl⟩
  |false=>exact .inl ⟨rfl,rfl⟩)
 have k2':_=qkf (qgd (ps.getD []) (ch.getD [])):=k2
 unfold f72 qig
 rw[dT hn,cT,g1',j6]
 dsimp only
 rw[k1,j6]
 cases ho:qkf (qgd (ps.getD []) (ch.getD []))with
 |true=>
  rw[ho]at k2'
  rcases d with d|d
  ·cases k2'
  ·dsimp only
   rw[dT hlen];rfl
 |false=>
  rw[ho]at k2'
  rcases d with d|d
  ·rfl
  ·cases k2'
end
theorem q31 {a b:Option (List Int)}(hn:(a.getD []).length≤1073741824)(h:a.getD []=b.getD []):f42 a b=some true:=by
 unfold f42
 rw[h,dT rfl,cT]
 obtain⟨d,g1,g2⟩:=qc3 (a.getD []) (qip a b) (fun _=>true) (fun d=>match d with | .inl _=>false | .inr _=>true) ⟨.inr _,by unfold qip;rw[yu];rfl,rfl⟩ (fun i x hx hi=>by
  left
  unfold qip
  rw[kc hi,cT,yn hx,j6,←h,yn hx,j6,dT rfl,yb hi (by omega)]
  exact⟨rfl,rfl⟩)
 rw[g1,j6]
 rcases d with d|d
 ·simp at g2
 ·rfl
end Go.Z
