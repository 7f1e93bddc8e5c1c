/- Chapter 4. -/
import Derived.Test.YtnjngdcbkkonnaaGreatDoorA13
import Derived.Test.YtnjngdcbkkonnaaGreatDoorPQ
import Derived.Test.YtnjngdcbkkonnaaGreatDoorTK
import Derived.Test.YtnjngdcbkkonnaaGreatDoorA16
set_option linter.unusedVariables false
set_option linter.unusedSimpArgs false
set_option maxRecDepth 100000
set_option maxHeartbeats 1000000
namespace Go.Z
open Go Go.Abs
def qcs (v:qh):Int:=if y9 [yj v.num 0 1000,yj v.den 1 1000]=0 then qbg (!(decide (v.num=(low v.num v.den).num)&&decide (v.den=(low v.num v.den).den))) 1 else y9 [yj v.num 0 1000,yj v.den 1 1000]
theorem qmh {a b:Int}(h:y9 [a,b]=0):a=0∧b=0:=by
 have:=qao.1 h
 exact⟨this a (by simp),this b (by simp)⟩
theorem q7u {v:qh}:f143 v=some (qcs v):=by
 unfold f143 qcs
 rw[qoe,j6,qoe,j6,qgr (by simp),j6]
 by_cases h:y9 [yj v.num 0 1000,yj v.den 1 1000]=0
 ·obtain⟨h1,h2⟩:=qmh h
  have k1:=qdf h1
  have k2:=qdf h2
  rw[dT h,cT,if_pos h,jgi (by omega) (by omega) (by omega) (by omega),j6,qfm];rfl
 ·rw[dF h,cF,if_neg h]
theorem q7d {v:qh}:f118 v=some (qcs v):=by
 unfold f118 qcs
 rw[qs2,j6,qs2,j6,qqy (by simp),j6]
 by_cases h:y9 [yj v.num 0 1000,yj v.den 1 1000]=0
 ·obtain⟨h1,h2⟩:=qmh h
  have k1:=qdf h1
  have k2:=qdf h2
  rw[dT h,cT,if_pos h,q63 (by omega) (by omega) (by omega) (by omega),j6,q7h];rfl
 ·rw[dF h,cF,if_neg h]
theorem qkd {v:qh}(h:qcs v=0):(0≤v.num∧v.num≤1000)∧1≤v.den∧v.den≤1000:=by
 unfold qcs at h
 split at h
 ·next h1=>
  obtain⟨h2,h3⟩:=qmh h1
  exact⟨qdf h2,qdf h3⟩
 ·next h1=>exact absurd h h1
theorem qgt {v:qh}(h:qcs v=0):jq v:=by
 obtain⟨⟨h1,h2⟩,h3,h4⟩:=qkd h
 exact⟨h1,by omega,h3,by omega⟩
def bLe (b:qi):qh:=⟨b.ln,b.ld⟩
def bMo (b:qi):qh:=⟨b.mn,b.md⟩
def qdg (b:qi):Int:=y9 [yj b.w 1 8,qcs (bLe b),qcs (bMo b)]
def qfb (last:Int):List qi→Int
 | []=>0
 |b::l=>if qdg b=0 then(if qdr (bMo b) (bLe b)||decide (b.w≤last)then 11 else qfb b.w l)else qdg b
def qdq (l:List qi):Int:=if l.length=0 then 12 else if 8<l.length then 5 else qfb 0 l
theorem qgp {b:qi}(h:qdg b=0):yj b.w 1 8=0∧qcs (bLe b)=0∧qcs (bMo b)=0:=by
 have:=qao.1 h
 exact⟨this _ (by simp),this _ (by simp),this _ (by simp)⟩
theorem jo8 {o:Option (List qi)}(hn:(o.getD []).length≤8):∀(k i:Nat) (last:Int),i+k=(o.getD []).length→∃d,itO (qm2 o) (last,(i:Int))=some d∧(match d with | .inl e=>e.1 | .inr _=>0)=qfb last ((o.getD []).drop i)
 |0,i,last,hi=>by
  refine⟨.inr (last,(i:Int)),k9 ?_,?_⟩
  ·unfold qm2
   dsimp only
   rw[dF (show ¬(i:Int)<((o.getD []).length:Int) by omega)];rfl
  ·rw[List.drop_eq_nil_of_le (by omega)];rfl
 |k+1,i,last,hi=>by
  have hlt:i<(o.getD []).length:=by omega
  have hx:(o.getD [])[i]?=some (o.getD [])[i]:=List.getElem?_eq_getElem hlt
  generalize (o.getD [])[i]=b at hx
  rw[kh hx]
  have e:qm2 o (last,(i:Int))=cond (decide (qdg b=0)) (j5 (f127 ⟨b.ln,b.ld⟩ ⟨b.mn,b.md⟩) fun v52=>cond v52 (some (.inr (.inl (11,b.w,b.ln,b.ld,b.mn,b.md)))) (cond (decide (b.w≤last)) (some (.inr (.inl (11,b.w,b.ln,b.ld,b.mn,b.md)))) (some (.inl (b.w,((i+1:Nat):Int)))))) (some (.inr (.inl (qdg b,b.w,b.ln,b.ld,b.mn,b.md)))):=by
   unfold qm2
   dsimp only
   rw[kl hlt,cT,y8 hx,j6,jji,j6,q7u,j6,q7u,j6,qgr (by simp),j6,yg hlt (by omega)]
   rfl
  unfold qfb
  by_cases h:qdg b=0
  ·obtain⟨h1,h2,h3⟩:=qgp h
   rw[dT h,cT,qy8 (a:=⟨b.ln,b.ld⟩) (b:=⟨b.mn,b.md⟩) (qgt h2) (qgt h3),j6]at e
   rw[if_pos h]
   change _=cond (qdr (bMo b) (bLe b)) _ _ at e
   cases hb:qdr (bMo b) (bLe b)with
   |true=>
    rw[hb,cT]at e
    exact⟨_,k9 e,rfl⟩
   |false=>
    rw[hb,cF]at e
    by_cases hw:b.w≤last
    ·rw[dT hw,cT]at e
     refine⟨_,k9 e,?_⟩
     rw[dT hw];rfl
    ·rw[dF hw,cF]at e
     obtain⟨d,g1,g2⟩:=jo8 hn k (i+1) b.w (by omega)
     refine⟨d,by rw[qbb e];exact g1,?_⟩
     rw[dF hw,Bool.or_false]
     simp only[Bool.false_eq_true,if_false]
     exact g2
  ·rw[dF h,cF]at e
   rw[if_neg h]
   exact⟨_,k9 e,rfl⟩
theorem jm4 {o:Option (List qi)}:f81 o=some (qdq (o.getD [])):=by
 unfold f81 qdq
 rw[qfm,j6,qfm,j6,qgr (by simp),j6]
 by_cases h0:(o.getD []).length=0
 ·rw[dT (show((o.getD []).length:Int)=0 by omega),if_pos h0];rfl
 ·rw[dF (show ¬((o.getD []).length:Int)=0 by omega),if_neg h0]
  by_cases h8:8<(o.getD []).length
  ·rw[dT (show(8:Int)<((o.getD []).length:Int) by omega),if_pos h8];rfl
  ·rw[dF (show ¬(8:Int)<((o.getD []).length:Int) by omega),if_neg h8]
   obtain⟨d,g1,g2⟩:=jo8 (o:=o) (by omega) (o.getD []).length 0 0 (by omega)
   rw[show(decide (y9 [qbg false 12,qbg false 5]=0))=true from rfl,cT]
   rw[show((0:Int),(0:Int))=(0,((0:Nat):Int))from rfl,g1,j6]
   rw[List.drop_zero]at g2
   rw[←g2]
   rcases d with d|d<;>rfl
theorem jev {a b:qh}(ha:qcs a=0)(hb:qcs b=0):∃v,f119 a b=some v∧decide (0<v)=qdr b a:=by
 obtain⟨⟨a1,a2⟩,a3,a4⟩:=qkd ha
 obtain⟨⟨b1,b2⟩,b3,b4⟩:=qkd hb
 have k1:=qv2 (B:=1000) (x:=a.num) (y:=b.den) (c:=1000) (by omega) (by omega) (by omega) (by omega) (by decide)
 have k2:=qv2 (B:=1000) (x:=b.num) (y:=a.den) (c:=1000) (by omega) (by omega) (by omega) (by omega) (by decide)
 unfold f119 qdr
 rw[yq (x:=a.num*b.den) (by omega) (by omega),yq (x:=b.num*a.den) (by omega) (by omega)]
 by_cases h:a.num*b.den<b.num*a.den
 ·rw[dT h,cT]
  exact⟨_,rfl,by rw[dF (show ¬b.num*a.den<a.num*b.den by omega)];rfl⟩
 ·rw[dF h,cF]
  by_cases h':b.num*a.den<a.num*b.den
  ·rw[dT h',cT]
   exact⟨_,rfl,rfl⟩
  ·rw[dF h',cF]
   exact⟨_,rfl,rfl⟩
theorem jmg {w:Int}:f34 w=some (yj w 1 8):=by unfold f34;rw[qs2];rfl
def q14 (l:List qi):Nat→Int
 |0=>0
 |i+1=>match l[i]? with|some b=>b.w|none=>0
theorem jni {o:Option (List qi)}:f39 o=some (qdq (o.getD [])):=by
 unfold f39 qdq
 by_cases h0:(o.getD []).length=0
 ·rw[dT (show((o.getD []).length:Int)=0 by omega),if_pos h0];rfl
 ·rw[dF (show ¬((o.getD []).length:Int)=0 by omega),if_neg h0,cF]
  by_cases h8:8<(o.getD []).length
  ·rw[dT (show(8:Int)<((o.getD []).length:Int) by omega),if_pos h8];rfl
  ·rw[dF (show ¬(8:Int)<((o.getD []).length:Int) by omega),if_neg h8,cF]
   obtain⟨d,g1,g2⟩:=qdc (o.getD []).length (fun i=>(i:Int)) (qm8 o) (fun d=>match d with | .inl e=>e | .inr _=>0) (fun i=>qfb (q14 (o.getD []) i) ((o.getD []).drop i)) ⟨.inr _,by unfold qm8;rw[kc];rfl,by rw[List.drop_eq_nil_of_le (Nat.le_refl _)];rfl⟩ (fun i hlt=>by
    have hx:(o.getD [])[i]?=some (o.getD [])[i]:=List.getElem?_eq_getElem hlt
    generalize (o.getD [])[i]=b at hx
    rw[kh hx]
    have hl1:q14 (o.getD []) (i+1)=b.w:=by
     show(match(o.getD [])[i]? with|some b=>b.w|none=>0)=b.w
     rw[hx]
    unfold qm8
    rw[kl hlt,cT,y8 hx,j6,jmg,j6,q7d,j6,q7d,j6,qqy (by simp),j6,show y9 [yj b.w 1 8,qcs ⟨b.ln,b.ld⟩,qcs ⟨b.mn,b.md⟩]=qdg b from rfl]
    simp only[qfb]
    by_cases h:qdg b=0
    ·obtain⟨h1,h2,h3⟩:=qgp h
     obtain⟨v,hv,hv'⟩:=jev (a:=⟨b.ln,b.ld⟩) (b:=⟨b.mn,b.md⟩) h2 h3
     rw[dT h,cT,hv,j6,hv',if_pos h,hl1]
     rw[show qdr ⟨b.mn,b.md⟩ ⟨b.ln,b.ld⟩=qdr (bMo b) (bLe b)from rfl]
     cases hb:qdr (bMo b) (bLe b)with
     |true=>exact .inr ⟨.inl 11,rfl,rfl⟩
     |false=>
      rw[cF,Bool.false_or,yg hlt (by omega)]
      have hw1:=(qdf h1).1
      cases i with
      |zero=>
       rw[show q14 (o.getD []) 0=0 from rfl,dF (show ¬b.w≤0 by omega)]
       left
       rw[dF (show ¬(0:Int)<((0:Nat):Int) by decide)]
       exact⟨rfl,by simp⟩
      |succ j=>
       have hj:j<(o.getD []).length:=by omega
       have hy:(o.getD [])[j]?=some (o.getD [])[j]:=List.getElem?_eq_getElem hj
       generalize (o.getD [])[j]=c at hy
       have hl2:q14 (o.getD []) (j+1)=c.w:=by
        show(match(o.getD [])[j]? with|some b=>b.w|none=>0)=c.w
        rw[hy]
       rw[hl2,dT (show(0:Int)<((j+1:Nat):Int) by omega),cT,yq (x:=((j+1:Nat):Int)-1) (by omega) (by omega),show((j+1:Nat):Int)-1=(j:Int) by omega,y8 hy,j6]
       by_cases hw:b.w≤c.w
       ·rw[dT hw]
        exact .inr ⟨.inl 11,rfl,rfl⟩
       ·rw[dF hw]
        exact .inl ⟨rfl,by simp⟩
    ·rw[dF h,cF,if_neg h]
     exact .inr ⟨.inl _,rfl,rfl⟩)
   rw[List.drop_zero]at g2
   have g1':itO (qm8 o) 0=some d:=g1
   have g2':_=qfb 0 (o.getD []):=g2
   rw[g1',j6,←g2']
   rcases d with d|d<;>rfl
theorem qxh:∀ {l:List qi} {last:Int},qfb last l=0→∀b∈l,qdg b=0
 | [],_,_,_,h=>by cases h
 |c::l,last,h,b,hb=>by
  unfold qfb at h
  split at h
  ·next h1=>
   split at h
   ·cases h
   ·rcases List.mem_cons.1 hb with rfl|hb
    ·exact h1
    ·exact qxh h b hb
  ·next h1=>exact absurd h h1
theorem qg0 {l:List qi}(h:qdq l=0):(1≤l.length∧l.length≤8)∧∀b∈l,qdg b=0:=by
 unfold qdq at h
 split at h
 ·cases h
 ·split at h
  ·cases h
  ·exact⟨by omega,qxh h⟩
theorem q49 {o:Option (List qi)}(hn:(o.getD []).length≤1073741824):f38 o=some (za (o.getD []),yx (o.getD [])):=by
 unfold f38
 have:=qo4 (o.getD []) (qqi o) id (by omega) (fun a=>by unfold qqi;dsimp only;rw[kc];rfl) (fun i x a hx hi hl=>by
  unfold qqi
  dsimp only
  rw[kl hi,cT,y8 hx,j6,yg hi (by omega)]
  exact qc3 hl)
 rw[this,j6]
 simp
def qcd (b:qi)(x:List ql):Bool:=decide ((lev b.w x).2=0)&&!qdr (lev b.w x).1 (bLe b)&&!qdr (bMo b) (lev b.w x).1
theorem jit {b:qi}{o:Option (List ql)}(hb:qdg b=0)(hl:qa0 (o.getD [])=0):f164 b o=some (qcd b (o.getD [])):=by
 obtain⟨h1,h2,h3⟩:=qgp hb
 unfold f164 qcd
 rw[jon hl h1,j6]
 rcases qzw hl h1 with k|⟨k1,k2⟩
 ·rw[k];rfl
 ·rw[dT k1,cT,qy8 (a:=⟨b.ln,b.ld⟩) (qgt h2) k2,j6,qy8 (b:=⟨b.mn,b.md⟩) k2 (qgt h3)]
  change cond (qdr (lev b.w (o.getD [])).1 (bLe b)) _ _=_
  cases qdr (lev b.w (o.getD [])).1 (bLe b)<;>rfl
theorem jig {b:qi}{o:Option (List ql)}(hb:qdg b=0)(hl:qa0 (o.getD [])=0):q9w o b=some (qcd b (o.getD [])):=by
 obtain⟨h1,h2,h3⟩:=qgp hb
 unfold q9w qcd
 rw[jjk hl h1,j6]
 rcases qzw hl h1 with k|⟨k1,k2⟩
 ·rw[k];rfl
 ·rw[dT k1,cT,jbb (b:=⟨b.ln,b.ld⟩) k2 (qgt h2),j6,jbb (a:=⟨b.mn,b.md⟩) (qgt h3) k2]
  change cond (qdr (lev b.w (o.getD [])).1 (bLe b)) _ _=_
  cases qdr (lev b.w (o.getD [])).1 (bLe b)<;>rfl
def qdy (ls:List (List ql)):Nat→List qi→Option (Nat×List ql)
 |_,[]=>none
 |i,b::l=>match ls.find? (fun x=>!qcd b x)with
  |some x=>some (i,x)
  |none=>qdy ls (i+1) l
def qg5:Option (Nat×List ql)→jf×Bool
 |none=>(⟨0,none⟩,false)
 |some p=>(⟨p.1,za p.2⟩,true)
theorem q0y {b:qi}(hb:qdg b=0):∀ {l:List (List ql)},(∀x∈l,qa0 x=0)→qbh (fun s x=>qvj b s (za x)) l ()=some (match l.find? (fun x=>!qcd b x)with|some x=>.inr (za x)|none=>.inl ())
 | [],_=>rfl
 |x::l,h=>by
  have e:qvj b () (za x)=cond (qcd b x) (some (.inl ())) (some (.inr (za x))):=by
   have:=jit (b:=b) (o:=za x) hb (by rw[yd];exact h x (List.mem_cons_self ..))
   rw[yd]at this
   unfold qvj
   rw[this,j6]
  simp only[qbh]
  rw[e,List.find?_cons]
  cases qcd b x with
  |true=>
   simp only[cT,j6,Bool.not_true]
   exact q0y hb fun y hy=>h y (List.mem_cons_of_mem _ hy)
  |false=>rfl
theorem jgo {c:Bool}{qs:List qb}(h:qs.length≤3):(qbk c qs []).length≤729:=by
 have h1:=q3h (c:=c) (qs:=qs) (x:=[])
 have h2:9^qs.length≤9^3:=Nat.pow_le_pow_right (by decide) h
 omega
section
variable {ps:Option (List qb)}{ch:Option (List Int)}{bs:Option (List qi)}{qs:List qb}
theorem jil (hp:jd (ps.getD []) (ch.getD []) qs)(ho:∀q∈qs,okP q)(hl:qs.length≤1000)(hb:∀b∈bs.getD [],qdg b=0)(hn:(bs.getD []).length≤8)(hv:∀x∈qbk false qs [],qa0 x=0):
  f117 ps ch bs=some (qg5 (qdy (qbk false qs []) 0 (bs.getD []))):=by
 obtain⟨d,g1,g2⟩:=qdc (bs.getD []).length (fun i=>(i:Int)) (qjk ps ch bs) (fun d=>match d with | .inl _=>((⟨0,none⟩,false):jf×Bool) | .inr d=>(⟨d.1,d.2.2⟩,true)) (fun i=>qg5 (qdy (qbk false qs []) i ((bs.getD []).drop i))) ⟨.inl _,by unfold qjk;rw[kc];rfl,by rw[List.drop_eq_nil_of_le (Nat.le_refl _)];rfl⟩ (fun i hlt=>by
  have hx:(bs.getD [])[i]?=some (bs.getD [])[i]:=List.getElem?_eq_getElem hlt
  have hbm:=hb _ (List.getElem_mem hlt)
  generalize (bs.getD [])[i]=b at hx hbm
  rw[kh hx]
  unfold qjk
  rw[kl hlt,cT,y8 hx,j6,jis hp ho hl,q0y hbm hv,j6]
  simp only[qdy]
  cases hf:(qbk false qs []).find? (fun x=>!qcd b x)with
  |none=>
   left
   exact⟨by dsimp only;rw[yg hlt (by omega)],rfl⟩
  |some x=>exact .inr ⟨.inr ((i:Int),b,za x),rfl,rfl⟩)
 unfold f117
 have g1':itO (qjk ps ch bs) 0=some d:=g1
 have g2':_=qg5 (qdy (qbk false qs []) 0 (bs.getD [])):=g2
 rw[g1',j6,←g2']
 rcases d with d|d<;>rfl
theorem jmk (hp:jd (ps.getD []) (ch.getD []) qs)(ho:∀q∈qs,okP q)(hl:(ch.getD []).length≤3)(hb:∀b∈bs.getD [],qdg b=0)(hn:(bs.getD []).length≤8)(hv:∀x∈qbk false qs [],qa0 x=0):
  f79 ps ch bs=some (qg5 (qdy (qbk false qs []) 0 (bs.getD []))):=by
 unfold f79
 rw[jic hp ho hl,j6]
 have hsz:=jgo (c:=false) (qs:=qs) (by rw[hp.len];exact hl)
 generalize hL:qbk false qs []=L at hv hsz
 have hg:(za (L.map za)).getD []=L.map za:=yd _
 -- the inner loop
 have inner:∀(i:Nat) (b:qi),(bs.getD [])[i]?=some b→∃d,itO (qxy bs (za (L.map za),yx (L.map za)) (i:Int)) 0=some d∧(match d with | .inl x=>some x | .inr _=>none)=(L.find? (fun x=>!qcd b x)).map za:=by
  intro i b hx
  have hbm:=hb b (List.mem_of_getElem? hx)
  obtain⟨d,g1,g2⟩:=qdc L.length (fun i=>(i:Int)) (qxy bs (za (L.map za),yx (L.map za)) (i:Int)) (fun d=>match d with | .inl x=>some x | .inr _=>none) (fun k=>((L.drop k).find? (fun x=>!qcd b x)).map za) ⟨.inr _,by unfold qxy;dsimp only;rw[hg,List.length_map,kc];rfl,by rw[List.drop_eq_nil_of_le (Nat.le_refl _)];rfl⟩ (fun k hk=>by
   have hy:L[k]?=some L[k]:=List.getElem?_eq_getElem hk
   have hm:=hv _ (List.getElem_mem hk)
   generalize L[k]=x at hy hm
   have e142:q9w (za x) b=some (qcd b x):=by
    have:=jig (b:=b) (o:=za x) hbm (by rw[yd];exact hm)
    rwa [yd]at this
   have hy':(L.map za)[k]?=some (za x):=by rw[List.getElem?_map,hy];rfl
   rw[kh hy,List.find?_cons]
   unfold qxy
   dsimp only
   rw[hg,List.length_map,kl hk,cT,y8 hy',j6,y8 hx,j6,e142,j6]
   cases qcd b x with
   |true=>exact .inl ⟨by rw[cT,yg hk (by omega)],rfl⟩
   |false=>exact .inr ⟨.inl (za x),rfl,rfl⟩)
  exact⟨d,g1,by simpa using g2⟩
 obtain⟨d,g1,g2⟩:=qdc (bs.getD []).length (fun i=>(i:Int)) (qwh bs (za (L.map za),yx (L.map za))) (fun d=>match d with | .inl d=>((⟨d.1,d.2⟩,true):jf×Bool) | .inr _=>(⟨0,none⟩,false)) (fun i=>qg5 (qdy L i ((bs.getD []).drop i))) ⟨.inr _,by unfold qwh;rw[kc];rfl,by rw[List.drop_eq_nil_of_le (Nat.le_refl _)];rfl⟩ (fun i hlt=>by
  have hx:(bs.getD [])[i]?=some (bs.getD [])[i]:=List.getElem?_eq_getElem hlt
  generalize (bs.getD [])[i]=b at hx
  rw[kh hx]
  obtain⟨d,k1,k2⟩:=inner i b hx
  unfold qwh
  rw[kl hlt,cT,k1,j6]
  simp only[qdy]
  cases hf:L.find? (fun x=>!qcd b x)with
  |none=>
   rw[hf]at k2
   rcases d with d|d
   ·cases k2
   ·exact .inl ⟨by dsimp only;rw[yg hlt (by omega)],rfl⟩
  |some x=>
   rw[hf]at k2
   rcases d with d|d
   ·obtain rfl:d=za x:=Option.some.inj k2
    exact .inr ⟨.inl ((i:Int),za x),rfl,rfl⟩
   ·cases k2)
 have g1':itO (qwh bs (za (L.map za),yx (L.map za))) 0=some d:=g1
 have g2':_=qg5 (qdy L 0 (bs.getD [])):=g2
 rw[g1',j6,←g2']
 rcases d with d|d<;>rfl
end
def eqE (x y:ql):Bool:=decide (x.kind=y.kind)&&decide (x.a=y.a)&&decide (x.b=y.b)
def qpv (l:List ql)(x:ql):Bool:=l.any fun e=>eqE e x
def qce (qs:List qb):Int:=qs.foldl (fun s q=>s+q.cost) 0
theorem qc9 {q:qb}(h:qaz q=0):1≤q.cost∧q.cost≤1000000∧0≤q.stock∧q.stock≤100:=by
 unfold qaz at h
 split at h
 ·next h1=>
  have:=qao.1 h1
  have k1:=qdf (this (yj q.cost 1 1000000) (by simp))
  have k2:=qdf (this (yj q.stock 0 100) (by simp))
  omega
 ·next h1=>exact absurd h h1
theorem qn1:∀ {qs:List qb} {s:Int},qs.foldl (fun s q=>s+q.cost) s=s+qce qs
 | [],s=>by simp[qce]
 |q::qs,s=>by
  unfold qce
  rw[List.foldl_cons,List.foldl_cons,qn1,qn1 (s:=0+q.cost)]
  omega
theorem q8z {qs:List qb}{q:qb}:qce (qs++[q])=qce qs+q.cost:=by
 unfold qce;rw[List.foldl_append];rfl
section
variable {ps:Option (List qb)}{ch:Option (List Int)}{qs:List qb}
theorem q2s:∀ {qs:List qb},(∀q∈qs,qaz q=0)→0≤qce qs∧qce qs≤1000000*(qs.length:Int)
 | [],_=>by simp[qce]
 |q::qs,h=>by
  have h1:=qc9 (h q (List.mem_cons_self ..))
  have h2:=q2s (qs:=qs) fun q hq=>h q (List.mem_cons_of_mem _ hq)
  have e:qce (q::qs)=q.cost+qce qs:=by
   have:=qn1 (qs:=qs) (s:=0+q.cost)
   unfold qce at this ⊢
   rw[List.foldl_cons,this];omega
  rw[e,List.length_cons]
  omega
theorem jlj (hp:jd (ps.getD []) (ch.getD []) qs)(hq:∀q∈qs,qaz q=0)(hl:(ch.getD []).length≤3):f71 ps ch=some (qce qs):=by
 have hpl:=hp.len
 obtain⟨d,g1,g2⟩:=qdc (ch.getD []).length (fun i=>(qce (qs.take i),(i:Int))) (qxd ps ch) (fun d=>d.1) (fun _=>qce qs) ⟨(qce (qs.take (ch.getD []).length),((ch.getD []).length:Int)),by unfold qxd;dsimp only;rw[kc];rfl,by dsimp only;rw[List.take_of_length_le (by omega)]⟩ (fun i hi=>by
  left
  refine⟨?_,rfl⟩
  obtain⟨q,k1,k2⟩:=hp.at_ i _ (List.getElem?_eq_getElem hi)
  have hi':i<qs.length:=by omega
  have b1:=q2s (qs:=qs.take i) fun q h=>hq q (List.mem_of_mem_take h)
  have b2:=qc9 (hq q (List.mem_of_getElem? k1))
  have b3:(qs.take i).length≤3:=by rw[List.length_take];omega
  unfold qxd
  dsimp only
  rw[kl hi,cT,y8 (List.getElem?_eq_getElem hi),j6,k2,j6,yg hi (by omega),yq (x:=qce (qs.take i)+q.cost) (by omega) (by omega)]
  have e:qs.take (i+1)=qs.take i++[q]:=by rw[List.take_add_one,k1];rfl
  rw[e,q8z])
 have g1':itO (qxd ps ch) (0,0)=some d:=g1
 unfold f71
 rw[g1',j6,g2]
theorem jkl:f116 ps ch=f71 ps ch:=rfl
end
def qe3 (ps:List qb)(ch:List Int):Prop:=∀c∈ch,0≤c∧c<(ps.length:Int)
def qb3 (l:List qb)(c:Int):List qb:=match l[c.toNat]? with
 |some p=>l.set c.toNat (qa3 p (p.stock-1))
 |none=>l
def qbq (l:List qb)(ch:List Int):List qb:=ch.foldl qb3 l
def qey (l:List qb):Bool:=l.all fun p=>!decide (p.stock<0)
def qeg (l:List qb)(ch:List Int):Option (List qb):=if qey (qbq l ch)then some (qbq l ch)else none
theorem ql4 {l:List qb}{c:Int}:(qb3 l c).length=l.length:=by
 unfold qb3
 split
 ·exact List.length_set
 ·rfl
theorem qqj:∀ {ch:List Int} {l:List qb},(qbq l ch).length=l.length
 | [],l=>rfl
 |c::ch,l=>by
  show(qbq (qb3 l c) ch).length=_
  rw[qqj,ql4]
theorem qzi {l:List qb}{c:Int}{p:qb}(h:l[c.toNat]?=some p):qb3 l c=l.set c.toNat (qa3 p (p.stock-1)):=by
 unfold qb3
 rw[h]
def bdS (k:Nat)(l:List qb):Prop:=∀p∈l,-1000+(k:Int)≤p.stock∧p.stock≤1000
theorem q6v {k:Nat}{l:List qb}{c:Int}(h:bdS (k+1) l):bdS k (qb3 l c):=by
 intro p hp
 unfold qb3 at hp
 split at hp
 ·next q hq=>
  rcases List.mem_or_eq_of_mem_set hp with hm|rfl
  ·have:=h p hm
   omega
  ·have:=h q (List.mem_of_getElem? hq)
   show -1000+(k:Int)≤q.stock-1∧q.stock-1≤1000
   omega
 ·have:=h p hp
  omega
theorem qs6:∀ {ch:List Int} {l:List qb} {i:Nat} {p:qb},l[i]?=some p→∃q,(qbq l ch)[i]?=some q∧q.stock≤p.stock
 | [],l,i,p,h=>⟨p,h,Int.le_refl _⟩
 |c::ch,l,i,p,h=>by
  have:∃q,(qb3 l c)[i]?=some q∧q.stock≤p.stock:=by
   unfold qb3
   split
   ·next r hr=>
    by_cases hi:c.toNat=i
    ·subst hi
     rw[h]at hr
     cases hr
     have hlt:=(List.getElem?_eq_some_iff.1 h).1
     exact⟨qa3 p (p.stock-1),by rw[List.getElem?_set_self hlt],by show p.stock-1≤p.stock;omega⟩
    ·exact⟨p,by rw[List.getElem?_set_ne hi];exact h,Int.le_refl _⟩
   ·exact⟨p,h,Int.le_refl _⟩
  obtain⟨q,h1,h2⟩:=this
  obtain⟨r,h3,h4⟩:=qs6 (ch:=ch) h1
  exact⟨r,h3,by omega⟩
theorem q4z {l:List qb}{c:Int}(h:0≤c∧c<(l.length:Int)):∃p,l[c.toNat]?=some p∧qe6 l.length l c=some p:=by
 have hlt:c.toNat<l.length:=by omega
 exact⟨l[c.toNat],List.getElem?_eq_getElem hlt,by unfold qe6;rw[if_pos h,List.getElem?_eq_getElem hlt]⟩
section
variable {ch:Option (List Int)}
theorem jhq {n:Nat}(hch:(ch.getD []).length≤1000):∀(k i:Nat) (l:List qb),i+k=(ch.getD []).length→l.length=n→qe3 l ((ch.getD []).drop i)→bdS k l→(∀p∈l,0≤p.stock) →
  ∃d,itO (qeo n ch) ((i:Int),l)=some d∧(match d with | .inl _=>none | .inr s=>some s.2)=qeg l ((ch.getD []).drop i)
 |0,i,l,hi,hn,hx,hb,hp=>by
  refine⟨.inr ((i:Int),l),k9 ?_,?_⟩
  ·unfold qeo
   dsimp only
   rw[dF (show ¬(i:Int)<((ch.getD []).length:Int) by omega)];rfl
  ·rw[List.drop_eq_nil_of_le (by omega)]
   have:qey l=true:=by
    unfold qey
    rw[List.all_eq_true]
    intro p hm
    have:=hp p hm
    rw[dF (by omega)];rfl
   unfold qeg
   show _=if qey l=true then some l else none
   rw[if_pos this]
 |k+1,i,l,hi,hn,hx,hb,hp=>by
  have hlt:i<(ch.getD []).length:=by omega
  have hc:(ch.getD [])[i]?=some (ch.getD [])[i]:=List.getElem?_eq_getElem hlt
  generalize (ch.getD [])[i]=c at hc
  rw[kh hc]at hx ⊢
  obtain⟨p,g1,g2⟩:=q4z (hx c (List.mem_cons_self ..))
  have hbp:=hb p (List.mem_of_getElem? g1)
  have hpp:=hp p (List.mem_of_getElem? g1)
  have hlt2:c.toNat<l.length:=(List.getElem?_eq_some_iff.1 g1).1
  rw[hn]at g2
  have e:qeo n ch ((i:Int),l)=cond (decide (p.stock=0)) (some (.inr (.inl l))) (some (.inl (((i+1:Nat):Int),qb3 l c))):=by
   unfold qeo
   dsimp only
   rw[kl hlt,cT,y8 hc,j6,g2,j6,yg hlt (by omega),yq (x:=p.stock-1) (by omega) (by omega),qzi g1]
  by_cases h0:p.stock=0
  ·rw[dT h0,cT]at e
   refine⟨_,k9 e,?_⟩
   have hd:(qb3 l c)[c.toNat]?=some (qa3 p (p.stock-1)):=by rw[qzi g1,List.getElem?_set_self hlt2]
   obtain⟨q,k1,k2⟩:=qs6 (ch:=(ch.getD []).drop (i+1)) hd
   have hq:q.stock<0:=by
    have:(qa3 p (p.stock-1)).stock=p.stock-1:=rfl
    omega
   have hno:qey (qbq (qb3 l c) ((ch.getD []).drop (i+1)))=false:=by
    unfold qey
    rw[List.all_eq_false]
    exact⟨q,List.mem_of_getElem? k1,by rw[dT hq];decide⟩
   unfold qeg
   show none=if qey (qbq (qb3 l c) ((ch.getD []).drop (i+1)))=true then _ else none
   rw[hno];rfl
  ·rw[dF h0,cF]at e
   obtain⟨d,j1,j2⟩:=jhq hch k (i+1) (qb3 l c) (by omega) (by rw[ql4,hn]) (fun x hm=>by
     rw[ql4];exact hx x (List.mem_cons_of_mem _ hm)) (q6v hb) (fun q hm=>by
     unfold qb3 at hm
     rw[g1]at hm
     rcases List.mem_or_eq_of_mem_set hm with hm|rfl
     ·exact hp q hm
     ·show 0≤p.stock-1;omega)
   exact⟨d,by rw[qbb e];exact j1,j2⟩
theorem jnm {n:Nat}(hch:(ch.getD []).length≤1000):∀(k i:Nat) (l:List qb),i+k=(ch.getD []).length→l.length=n→qe3 l ((ch.getD []).drop i)→bdS k l →
  ∃j,itO (qj6 n ch) ((i:Int),l)=some (j,qbq l ((ch.getD []).drop i))
 |0,i,l,hi,hn,hx,hb=>by
  refine⟨(i:Int),k9 ?_⟩
  unfold qj6
  dsimp only
  rw[dF (show ¬(i:Int)<((ch.getD []).length:Int) by omega),List.drop_eq_nil_of_le (by omega)];rfl
 |k+1,i,l,hi,hn,hx,hb=>by
  have hlt:i<(ch.getD []).length:=by omega
  have hc:(ch.getD [])[i]?=some (ch.getD [])[i]:=List.getElem?_eq_getElem hlt
  generalize (ch.getD [])[i]=c at hc
  rw[kh hc]at hx ⊢
  obtain⟨p,g1,g2⟩:=q4z (hx c (List.mem_cons_self ..))
  have hbp:=hb p (List.mem_of_getElem? g1)
  rw[hn]at g2
  have e:qj6 n ch ((i:Int),l)=some (.inl (((i+1:Nat):Int),qb3 l c)):=by
   unfold qj6
   dsimp only
   rw[kl hlt,cT,y8 hc,j6,g2,j6,yg hlt (by omega),yq (x:=p.stock-1) (by omega) (by omega),qzi g1]
  obtain⟨j,j1⟩:=jnm hch k (i+1) (qb3 l c) (by omega) (by rw[ql4,hn]) (fun x hm=>by
    rw[ql4];exact hx x (List.mem_cons_of_mem _ hm)) (q6v hb)
  exact⟨j,by rw[qbb e];exact j1⟩
theorem q6o {ps:Option (List qb)}(hn:(ps.getD []).length≤1073741824)(hc:(ch.getD []).length≤3)(hx:qe3 (ps.getD []) (ch.getD []))(hp:∀p∈ps.getD [],qaz p=0):f138 ps ch=some (match qeg (ps.getD []) (ch.getD [])with|some l=>(some l,true)|none=>(none,false)):=by
 obtain⟨d,g1,g2⟩:=jhq (ch:=ch) (n:=(ps.getD []).length) (by omega) (ch.getD []).length 0 (ps.getD []) (by omega) rfl (by rw[List.drop_zero];exact hx) (fun p h=>by have:=qc9 (hp p h);omega) (fun p h=>by have:=qc9 (hp p h);omega)
 rw[List.drop_zero]at g2
 have g1':itO (qeo (ps.getD []).length ch) (0,ps.getD [])=some d:=g1
 unfold f138
 rw[dT hn,cT,g1',j6]
 rcases d with d|d
 ·rw[←g2]
 ·have g2':some d.2=qeg (ps.getD []) (ch.getD []):=g2
  have hlen:d.2.length=(ps.getD []).length:=by
   unfold qeg at g2'
   split at g2'
   ·rw[Option.some.inj g2'];exact qqj
   ·cases g2'
  rw[←g2']
  dsimp only
  rw[dT hlen];rfl
theorem jnf {ps:Option (List qb)}(hn:(ps.getD []).length≤1073741824)(hc:(ch.getD []).length≤3)(hx:qe3 (ps.getD []) (ch.getD []))(hp:∀p∈ps.getD [],qaz p=0):f72 ps ch=some (match qeg (ps.getD []) (ch.getD [])with|some l=>(some l,true)|none=>(none,false)):=by
 obtain⟨j,g1⟩:=jnm (ch:=ch) (n:=(ps.getD []).length) (by omega) (ch.getD []).length 0 (ps.getD []) (by omega) rfl (by rw[List.drop_zero];exact hx) (fun p h=>by have:=qc9 (hp p h);omega)
 rw[List.drop_zero]at g1
 have g1':itO (qj6 (ps.getD []).length ch) (0,ps.getD [])=some (j,qbq (ps.getD []) (ch.getD [])):=g1
 have hlen:(qbq (ps.getD []) (ch.getD [])).length=(ps.getD []).length:=qqj
 obtain⟨d,k1,k2⟩:=qe5 (qbq (ps.getD []) (ch.getD [])) (qqg (ps.getD []).length (qbq (ps.getD []) (ch.getD []))) (fun p=>!decide (p.stock<0)) (fun d=>match d with | .inl _=>false | .inr _=>true) ⟨.inr _,by unfold qqg;rw[hlen,kc];rfl,rfl⟩ (fun i x hx' hi=>by
  have hix:qe6 (ps.getD []).length (qbq (ps.getD []) (ch.getD [])) (i:Int)=some x:=by
   unfold qe6
   rw[if_pos (by omega)]
   exact hx'
  unfold qqg
  rw[dT (show(i:Int)<((ps.getD []).length:Int) by omega),cT,hix,j6,yg hi (by omega)]
  cases decide (x.stock<0)with
  |true=>exact .inr ⟨rfl,.inl (),rfl,rfl⟩
  |false=>exact .inl ⟨rfl,rfl⟩)
 have k2':_=qey (qbq (ps.getD []) (ch.getD [])):=k2
 unfold f72 qeg
 rw[dT hn,cT,g1',j6]
 dsimp only
 rw[k1,j6]
 cases ho:qey (qbq (ps.getD []) (ch.getD []))with
 |true=>
  rw[ho]at k2'
  rcases d with d|d
  ·cases k2'
  ·dsimp only
   rw[dT hlen];rfl
 |false=>
  rw[ho]at k2'
  rcases d with d|d
  ·rfl
  ·cases k2'
end
def qlg (p q:qb):Bool:=(ki p false).all fun v=>qpv (ki q false) v
def qew (p q:qb):Bool:=qlg p q&&decide (p.cost≤q.cost)&&decide (q.stock≤p.stock)
theorem jgk {x y:ql}:eqE x y=eqE y x:=by
 unfold eqE
 rw[show decide (x.kind=y.kind)=decide (y.kind=x.kind)from decide_eq_decide.2 eq_comm,show decide (x.a=y.a)=decide (y.a=x.a)from decide_eq_decide.2 eq_comm,show decide (x.b=y.b)=decide (y.b=x.b)from decide_eq_decide.2 eq_comm]
theorem jkk {o:Option (List ql)}{x:ql}(hn:(o.getD []).length≤1073741824):f179 o x=some (qpv (o.getD []) x):=by
 unfold f179 f209
 obtain⟨d,g1,g2⟩:=qdc (o.getD []).length (fun i=>(i:Int)) (qju o x) (fun d=>match d with | .inl i=>decide (0≤i) | .inr _=>false) (fun i=>qpv ((o.getD []).drop i) x) ⟨.inr _,by unfold qju;rw[kc];rfl,by rw[List.drop_eq_nil_of_le (Nat.le_refl _)];rfl⟩ (fun i hlt=>by
  have hx:(o.getD [])[i]?=some (o.getD [])[i]:=List.getElem?_eq_getElem hlt
  generalize (o.getD [])[i]=e at hx
  rw[kh hx]
  unfold qju qpv
  rw[kl hlt,cT,y8 hx,j6,List.any_cons]
  rw[show(decide (x.kind=e.kind)&&decide (x.a=e.a)&&decide (x.b=e.b))=eqE x e from rfl,jgk]
  cases eqE e x with
  |true=>exact .inr ⟨.inl (i:Int),rfl,by simp⟩
  |false=>exact .inl ⟨by rw[cF,yg hlt (by omega)],rfl⟩)
 have g1':itO (qju o x) 0=some d:=g1
 have g2':_=qpv (o.getD []) x:=g2
 rw[g1',j6,←g2']
 rcases d with d|d<;>rfl
theorem q62 {p q:qb}(hp:okP p)(hq:okP q):f139 p q=some (qew p q):=by
 have v1:=qd1 (p:=p) (c:=false)
 have v2:=qd1 (p:=q) (c:=false)
 have key:qt8 (some (ki p false)) (some (ki q false)) true=some (!qlg p q):=by
  unfold qt8 q18
  obtain⟨d,g1,g2⟩:=qe5 (ki p false) (qia (some (ki p false)) (some (ki q false)) true) (fun v=>qpv (ki q false) v) (fun d=>match d with | .inl i=>!decide (0≤i) | .inr _=>true) ⟨.inr _,by unfold qia;simp only[Option.getD_some];rw[kc];rfl,rfl⟩ (fun i x hx hi=>by
   unfold qia f178
   simp only[Option.getD_some]
   rw[kl hi,cT,y8 hx,j6,jkk (o:=some (ki q false)) (by simp only[Option.getD_some];omega),j6,j6,yg hi (by omega)]
   simp only[Option.getD_some]
   cases qpv (ki q false) x with
   |true=>exact .inl ⟨rfl,rfl⟩
   |false=>exact .inr ⟨rfl,.inl (i:Int),rfl,by simp⟩)
  rw[g1,j6]
  unfold qlg
  rw[←g2]
  rcases d with d|d
  ·simp[j5]
  ·simp[j5]
 unfold f139 qew
 rw[qya hq,j6]
 dsimp only
 rw[cT,qya hp,j6]
 dsimp only
 rw[key,j6]
 cases qlg p q with
 |false=>rfl
 |true=>
  simp only[Bool.not_true,cF,Bool.true_and]
  cases decide (p.cost≤q.cost)<;>rfl
def qh5 (l:List qb)(i k:Nat):Bool:=match l[k]?,l[i]? with
 |some o,some p=>!decide ((k:Int)=(i:Int))&&(qew o p&&(decide ((k:Int)<(i:Int))||!qew p o))
 |_,_=>false
def qf2 (l:List qb)(i:Nat):Bool:=(List.range l.length).any fun k=>qh5 l i k
def qhz (l:List qb):List Int:=(List.range l.length).flatMap fun i=>if qf2 l i then [(i:Int)]else []
theorem je8 {δ:Type}{n:Nat}{P:Nat→Bool}{F:Bool×Int→Option ((Bool×Int)⊕δ)}{mk:Bool×Int→δ}(hend:∀t,F (t,(n:Int))=some (.inr (mk (t,(n:Int)))))(hstep:∀k t,k<n→F (t,(k:Int))=some (.inl (t||P k,((k+1:Nat):Int)))):itO F (false,0)=some (mk ((List.range n).any P,(n:Int))):=by
 have key:∀(k j:Nat) (t:Bool),j+k=n→itO F (t,(j:Int))=some (mk (t||((List.range n).drop j).any P,(n:Int))):=by
  intro k
  induction k with
  |zero=>
   intro j t hj
   have:j=n:=by omega
   subst this
   rw[k9 (hend t),List.drop_eq_nil_of_le (by simp)]
   simp
  |succ k ih=>
   intro j t hj
   have hlt:j<n:=by omega
   have hx:(List.range n)[j]?=some j:=List.getElem?_range hlt
   rw[qbb (hstep j t hlt),ih (j+1) _ (by omega),kh hx,List.any_cons,Bool.or_assoc]
 have:=key n 0 false (by omega)
 simpa using this
theorem jct {n:Nat}{Q:Nat→Bool}{G:Option (List Int)×Int×Bool→Option ((Option (List Int)×Int×Bool)⊕(Option (List Int)×Bool×Int))}(hn:n≤1000)(hend:∀a,G (za a,(n:Int),yx a)=some (.inr (za a,yx a,(n:Int))))
  (hstep:∀(i:Nat) (a:List Int),i<n→a.length≤1000→G (za a,(i:Int),yx a)=some (.inl (za (a++if Q i then [(i:Int)]else []),((i+1:Nat):Int),yx (a++if Q i then [(i:Int)]else [])))):
  itO G (none,0,false)=some (za ((List.range n).flatMap fun i=>if Q i then [(i:Int)]else []),yx ((List.range n).flatMap fun i=>if Q i then [(i:Int)]else []),(n:Int)):=by
 have hl:(List.range n).length=n:=by simp
 have:=qe8 (List.range n) (fun i=>(i:Int)) G (fun i=>if Q i then [(i:Int)]else []) [] (fun i a=>a.length≤i) (Nat.le_refl _) (fun a=>by rw[hl];exact hend a) (fun i x a hx hi hI=>by
  have hxi:x=i:=by
   rw[List.getElem?_range (by omega)]at hx
   exact(Option.some.inj hx).symm
  subst hxi
  refine⟨?_,hstep x a (by omega) (by omega)⟩
  rw[List.length_append]
  split
  ·simp;omega
  ·simp;omega)
 rw[hl,List.nil_append]at this
 exact this
section
variable {o:Option (List qb)}
theorem jpd (hq:∀p∈o.getD [],okP p)(hl:(o.getD []).length≤1000){i:Nat}{p:qb}(hp:(o.getD [])[i]?=some p){s0:Option (List Int)×Int×Bool}(hs:s0.2.1=(i:Int)):itO (qp8 o s0 p) (false,0)=some (qf2 (o.getD []) i,((o.getD []).length:Int)):=by
 have hpk:=hq p (List.mem_of_getElem? hp)
 refine je8 (mk:=id) (P:=fun k=>qh5 (o.getD []) i k) (fun t=>by unfold qp8;dsimp only;rw[kc];rfl) (fun k t hk=>?_)
 have hx:(o.getD [])[k]?=some (o.getD [])[k]:=List.getElem?_eq_getElem hk
 have hqk:=hq _ (List.getElem_mem hk)
 generalize (o.getD [])[k]=q at hx hqk
 unfold qp8 qh5
 dsimp only
 rw[kl hk,cT,y8 hx,j6,hs,yg hk (by omega),q62 hqk hpk,q62 hpk hqk,hx,hp]
 cases t with
 |true=>rfl
 |false=>
  simp only[j6,cF,Bool.false_or]
  cases decide ((k:Int)=(i:Int))with
  |true=>rfl
  |false=>
   cases qew q p with
   |false=>rfl
   |true=>
    cases decide ((k:Int)<(i:Int))with
    |true=>rfl
    |false=>simp
theorem jmd (hl:(o.getD []).length≤1000):f70 o=some (if qb2 (o.getD [])=0 then(za (qhz (o.getD [])),0)else(none,qb2 (o.getD []))):=by
 unfold f70
 rw[qye,j6]
 by_cases hz:qb2 (o.getD [])=0
 ·have hq:∀p∈o.getD [],okP p:=fun p h=>qv5 ((qca hz).2 p h)
  rw[dT hz,cT,if_pos hz]
  rw[jct (n:=(o.getD []).length) (Q:=qf2 (o.getD [])) (G:=qqs o) hl (fun a=>by unfold qqs;dsimp only;rw[kc];rfl) (fun i a hi ha=>by
   have hx:(o.getD [])[i]?=some (o.getD [])[i]:=List.getElem?_eq_getElem hi
   unfold qqs
   dsimp only
   rw[kl hi,cT,y8 hx,j6,jpd hq hl hx rfl,j6,yg hi (by omega)]
   dsimp only
   cases qf2 (o.getD []) i with
   |true=>
    rw[cT,qc3 (by omega)]
    simp[qc8]
   |false=>simp)]
  rfl
 ·rw[dF hz,if_neg hz];rfl
end
theorem jfh {a b:Option (List qb)}(hn:(a.getD []).length≤1073741824)(h:a.getD []=b.getD []):f74 a b=some true:=by
 unfold f74
 rw[h,dT rfl,cT]
 obtain⟨d,g1,g2⟩:=qe5 (a.getD []) (qpy a b) (fun _=>true) (fun d=>match d with | .inl _=>false | .inr _=>true) ⟨.inr _,by unfold qpy;rw[kc];rfl,rfl⟩ (fun i x hx hi=>by
  left
  unfold qpy
  rw[kl hi,cT,y8 hx,j6,←h,y8 hx,j6,yg hi (by omega)]
  simp)
 rw[g1,j6]
 rcases d with d|d
 ·simp at g2
 ·rfl
theorem jll {o:Option (List qb)}(hn:(o.getD []).length≤1073741824):f75 o=some (za (o.getD []),yx (o.getD [])):=by
 unfold f75
 have:=qo4 (o.getD []) (qq1 o) id (by omega) (fun a=>by unfold qq1;dsimp only;rw[kc];rfl) (fun i x a hx hi hl=>by
  unfold qq1
  dsimp only
  rw[kl hi,cT,y8 hx,j6,yg hi (by omega)]
  exact qc3 hl)
 rw[this,j6]
 simp
end Go.Z
