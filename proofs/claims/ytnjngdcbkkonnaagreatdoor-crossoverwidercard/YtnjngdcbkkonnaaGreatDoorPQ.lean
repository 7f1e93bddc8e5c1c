/- Chapter 4. -/
import Derived.Test.YtnjngdcbkkonnaaGreatDoorA8
import Derived.Test.YtnjngdcbkkonnaaGreatDoorPB
import Derived.Test.YtnjngdcbkkonnaaGreatDoorPH
set_option linter.unusedVariables false
set_option linter.unusedSimpArgs false
set_option maxRecDepth 100000
set_option maxHeartbeats 1000000
namespace Go.Z
open Go Go.Abs
def inB (n:Nat)(i:Int):Bool:=!(decide (i<0))&&!(decide ((n:Int)≤i))
def qoz (ps:List qb)(ch:List Int):Int:=if 3<ch.length then 5 else qbg (!ch.all fun i=>inB ps.length i) 10
theorem jkj {i:Int}{o:Option (List qb)}:f177 i o=some (!inB (o.getD []).length i):=by
 unfold f177 inB
 by_cases h:i<0
 ·rw[dT h];rfl
 ·rw[dF h,cF]
  simp
theorem jj0 {ch:Option (List Int)}{ps:Option (List qb)}(hn:(ch.getD []).length≤9223372036854775807):f176 ch ps=some (!(ch.getD []).all fun i=>inB (ps.getD []).length i):=by
 unfold f176 f208
 obtain⟨d,g1,g2⟩:=qe5 (ch.getD []) (qlj ch ps) (fun i=>inB (ps.getD []).length i) (fun d=>match d with | .inl i=>!decide (0≤i) | .inr _=>true) ⟨.inr _,by unfold qlj;rw[kc];rfl,rfl⟩ (fun i x hx hi=>by
  unfold qlj
  rw[kl hi,cT,y8 hx,j6,jkj,j6,yg hi hn]
  cases inB (ps.getD []).length x with
  |true=>exact .inl ⟨rfl,rfl⟩
  |false=>exact .inr ⟨rfl,.inl (i:Int),rfl,by simp⟩)
 rw[g1,j6]
 rw[←g2]
 rcases d with d|d
 ·simp[j5]
 ·simp[j5]
theorem jjr {ch:Option (List Int)}{ps:Option (List qb)}(hn:(ch.getD []).length≤9223372036854775807):f133 ps ch=some (y9 [qb2 (ps.getD []),qoz (ps.getD []) (ch.getD [])]):=by
 unfold f133
 rw[jj0 hn,j6,qye,j6,qfm,j6,qfm,j6,qgr (by simp),j6]
 congr 1
 unfold qoz
 by_cases h:3<(ch.getD []).length
 ·rw[if_pos h,dT (by omega)];rfl
 ·rw[if_neg h,dF (by omega)];rfl
theorem jop {o:Option (List Int)}(h:(o.getD []).length≤1073741824):f30 o=some (some (o.getD [])):=by
 unfold f30 apO
 rw[if_pos (by simpa using h)]
 cases o with
 |none=>rfl
 |some l=>cases l<;>rfl
structure jd (ps:List qb)(ch:List Int)(qs:List qb):Prop where
 len:qs.length=ch.length
 at_:∀(k:Nat) i,ch[k]?=some i→∃q,qs[k]?=some q∧yo ps i=some q
 mem:∀q∈qs,q∈ps
def qbk (c:Bool):List qb→List ql→List (List ql)
 | [],x=>[x]
 |p::l,x=>(ki p c).flatMap fun v=>qbk c l (x++[v])
section
variable {S D α β:Type}
theorem qru {g:S→α→Option (S⊕D)}:∀ {a b:List α} {s:S},qbh g (a++b) s=j5 (qbh g a s) fun r=>match r with | .inl s'=>qbh g b s' | .inr d=>some (.inr d)
 | [],b,s=>rfl
 |v::a,b,s=>by
  simp only[List.cons_append,qbh]
  cases g s v with
  |none=>rfl
  |some r=>
   cases r with
   |inl s'=>simp only[j6];exact qru
   |inr d=>rfl
theorem qyl {g:S→α→Option (S⊕D)}{h:β→List α}:∀ {l:List β} {s:S},qbh g (l.flatMap h) s=qbh (fun s v=>qbh g (h v) s) l s
 | [],s=>rfl
 |v::l,s=>by
  rw[List.flatMap_cons,qru]
  simp only[qbh]
  cases qbh g (h v) s with
  |none=>rfl
  |some r=>
   cases r with
   |inl s'=>simp only[j6];exact qyl
   |inr d=>rfl
theorem jdf {g:S→α→Option (S⊕D)}{x:α}{s:S}:qbh g [x] s=g s x:=by
 simp only[qbh]
 cases g s x with
 |none=>rfl
 |some r=>cases r<;>rfl
theorem qvb {g g':S→α→Option (S⊕D)}:∀ {l:List α} {s:S},(∀s,∀v∈l,g s v=g' s v)→qbh g l s=qbh g' l s
 | [],s,_=>rfl
 |v::l,s,h=>by
  simp only[qbh]
  rw[h s v (List.mem_cons_self ..)]
  cases g' s v with
  |none=>rfl
  |some r=>
   cases r with
   |inl s'=>simp only[j6];exact qvb fun s x hx=>h s x (List.mem_cons_of_mem _ hx)
   |inr d=>rfl
theorem q65 {x:List ql}(h:x.length≤1073741824):∃b,f198 (za x)=some (za x,b)∧(b||(za x).isNone)=true:=by
 cases x with
 |nil=>exact⟨false,rfl,rfl⟩
 |cons a l=>
  refine⟨true,?_,rfl⟩
  unfold f198 apO
  rw[if_pos (by simpa[za]using h)]
  rfl
theorem jgw {l:List β}{k:Nat}{x:β}(h:l[k]?=some x):yo l (k:Int)=some x:=by rw[qgl,h]
theorem jce {y:S→Option (List ql)→Option (S⊕D)}{ps:Option (List qb)}{ch:Option (List Int)}{c:Bool}{qs:List qb}(hp:jd (ps.getD []) (ch.getD []) qs)(ho:∀q∈qs,okP q)(hl:qs.length≤1000):
  ∀(m:Nat) (x:List ql) (s:S),x.length+m=qs.length→vis y ch ps c m (za x) s=qbh (fun s x=>y s (za x)) (qbk c (qs.drop x.length) x) s
 |0,x,s,hm=>by
  rw[List.drop_eq_nil_of_le (by omega)]
  show _=qbh _ [x] s
  rw[jdf]
  obtain⟨b,h1,h2⟩:=q65 (x:=x) (by omega)
  unfold vis
  rw[h1,j6]
 |m+1,x,s,hm=>by
  have hk:x.length<(ch.getD []).length:=by rw[←hp.len];omega
  obtain⟨q,g1,g2⟩:=hp.at_ x.length _ (List.getElem?_eq_getElem hk)
  rw[kh g1]
  show _=qbh _ ((ki q c).flatMap fun v=>qbk c (qs.drop (x.length+1)) (x++[v])) s
  rw[qyl]
  obtain⟨b,h1,h2⟩:=q65 (x:=x) (by omega)
  have hq:okP q:=ho q (List.mem_of_getElem? g1)
  unfold vis
  rw[yd,jgw (List.getElem?_eq_getElem hk),j6,g2,j6,qya hq,j6]
  simp only[Option.getD_some]
  rw[dT (qd1 (p:=q) (c:=c)),cT,h1,j6]
  simp only[h2,cT]
  refine qvb fun s v _=>?_
  rw[qqz (by omega),j6]
  have:=jce (y:=y) (c:=c) hp ho hl m (x++[v]) s (by rw[List.length_append];simp only[List.length_cons,List.length_nil];omega)
  rw[this]
  congr 2
  simp
theorem jis {y:S→Option (List ql)→Option (S⊕D)}{ps:Option (List qb)}{ch:Option (List Int)}{c:Bool}{qs:List qb}{s:S}(hp:jd (ps.getD []) (ch.getD []) qs)(ho:∀q∈qs,okP q)(hl:qs.length≤1000):vis y ch ps c (ch.getD []).length none s=qbh (fun s x=>y s (za x)) (qbk c qs []) s:=by
 have:=jce (y:=y) (c:=c) hp ho hl (ch.getD []).length [] s (by rw[hp.len];simp)
 exact this
end
def qge (c:Bool)(out:List (List ql))(p:qb):List (List ql):=out.flatMap fun x=>(ki p c).map fun v=>x++[v]
theorem q06 {c:Bool}:∀ {qs:List qb} {out:List (List ql)},qs.foldl (qge c) out=out.flatMap (qbk c qs)
 | [],out=>by
  show out=out.flatMap fun x=>[x]
  rw[qeq];simp
 |p::qs,out=>by
  rw[List.foldl_cons,q06]
  unfold qge
  rw[List.flatMap_assoc]
  congr 1
  funext x
  rw[List.flatMap_map]
  rfl
theorem je9 {c:Bool}{qs:List qb}:qs.foldl (qge c) [[]]=qbk c qs []:=by rw[q06];simp
theorem jgn {p:qb}{c:Bool}(h:okP p){v:ql}(hv:v∈ki p c):v∈ki p false:=by
 obtain⟨⟨a1,a2,a3,a4⟩,b1,b2,b3,b4⟩:=h
 have hs:∀ {a s:Int},0≤s→s≤1→∀ {x},x∈qap a s c→x∈qap a s false:=by
  intro a s h1 h2 x hx
  unfold qap at hx ⊢
  split at hx
  ·next h0=>rw[if_pos h0];exact hx
  ·next h0=>
   rw[if_neg h0]
   have:s=1:=by omega
   subst this
   cases c with
   |false=>exact hx
   |true=>
    simp only[if_true,Bool.false_eq_true,if_false,List.mem_cons,List.not_mem_nil,or_false]at hx ⊢
    omega
 unfold ki at hv ⊢
 obtain⟨a,ha,hv⟩:=List.mem_flatMap.1 hv
 obtain⟨b,hb,hv⟩:=List.mem_map.1 hv
 exact List.mem_flatMap.2 ⟨a,hs a3 a4 ha,List.mem_map.2 ⟨b,hs b3 b4 hb,hv⟩⟩
theorem q32 {c:Bool}:∀ {qs:List qb} {x y:List ql},y∈qbk c qs x→y.length=x.length+qs.length∧∀v∈y,v∈x∨∃q∈qs,v∈ki q c
 | [],x,y,h=>by
  have:y=x:=by simpa[qbk]using h
  subst this
  exact⟨rfl,fun v hv=>.inl hv⟩
 |p::qs,x,y,h=>by
  obtain⟨v,hv,hy⟩:=List.mem_flatMap.1 h
  obtain⟨h1,h2⟩:=q32 hy
  refine⟨by rw[h1,List.length_append];simp only[List.length_cons,List.length_nil];omega,fun u hu=>?_⟩
  rcases h2 u hu with hu|⟨q,hq,hu⟩
  ·rcases List.mem_append.1 hu with hu|hu
   ·exact .inl hu
   ·have:u=v:=by simpa using hu
    subst this
    exact .inr ⟨p,List.mem_cons_self ..,hv⟩
  ·exact .inr ⟨q,List.mem_cons_of_mem _ hq,hu⟩
theorem qwg:∀ {l:List qb} {ks:List (List UInt8)},qgj ks l=0→∀p∈l,qaz p=0
 | [],_,_,_,h=>by cases h
 |q::l,ks,h,p,hp=>by
  unfold qgj at h
  split at h
  ·next h1=>
   rcases List.mem_cons.1 hp with rfl|hp
   ·exact qao.1 h1 _ (List.mem_cons_self ..)
   ·exact qwg h p hp
  ·next h1=>exact absurd h h1
theorem qca {l:List qb}(h:qb2 l=0):l.length≤6∧∀p∈l,qaz p=0:=by
 unfold qb2 at h
 split at h
 ·cases h
 ·exact⟨by omega,qwg h⟩
theorem jbq {p:qb}(h:qaz p=0){v:ql}(hv:v∈ki p false):qa8 v=0:=by
 unfold qaz at h
 split at h
 ·next h1=>
  have h2:y9 ((ki p false).map qa8)=0:=by
   by_cases hz:y9 ((ki p false).map qa8)=0
   ·exact hz
   ·rw[dF hz]at h;cases h
  exact qao.1 h2 _ (List.mem_map.2 ⟨v,hv,rfl⟩)
 ·next h1=>exact absurd h h1
theorem jas {c:Bool}{ps qs:List qb}{ch:List Int}(hc:qb2 ps=0)(hp:jd ps ch qs)(hn:ch.length≤3):(∀q∈qs,okP q)∧∀x∈qbk c qs [],qa0 x=0:=by
 have h1:∀q∈qs,qaz q=0:=fun q hq=>(qca hc).2 q (hp.mem q hq)
 refine⟨fun q hq=>qv5 (h1 q hq),fun x hx=>?_⟩
 obtain⟨g1,g2⟩:=q32 hx
 unfold qa0
 rw[if_neg (by rw[g1,hp.len];simp;omega)]
 refine qao.2 fun e he=>?_
 obtain⟨v,hv,rfl⟩:=List.mem_map.1 he
 rcases g2 v hv with hv|⟨q,hq,hv⟩
 ·cases hv
 ·exact jbq (h1 q hq) (jgn (qv5 (h1 q hq)) hv)
structure jq (v:qh):Prop where
 a:0≤v.num
 b:v.num≤9223372036854775807
 c:1≤v.den
 d:v.den≤9223372036854775807
def qdr (x y:qh):Bool:=decide (x.num*y.den<y.num*x.den)
theorem qy8 {a b:qh}(ha:jq a)(hb:jq b):f127 a b=some (qdr b a):=jfe ha.a ha.b (by have:=ha.c;omega) ha.d hb.a hb.b (by have:=hb.c;omega) hb.d
theorem jbb {a b:qh}(ha:jq a)(hb:jq b):f58 200 a b=some (qdr a b):=jjm ha.a ha.b ha.c ha.d hb.a hb.b hb.c hb.d
def qlo (s:jb):qh:=⟨s.a,s.b⟩
def qhi (s:jb):qh:=⟨s.c,s.d⟩
def mkQ (x y:qh):jb:=⟨x.num,x.den,y.num,y.den⟩
def j27 (s:Option jb)(v:qh):jb:=match s with
 |none=>mkQ v v
 |some s=>mkQ (cond (qdr v (qlo s)) v (qlo s)) (cond (qdr (qhi s) v) v (qhi s))
theorem qzw {x:List ql}{w:Int}(hl:qa0 x=0)(hw:yj w 1 8=0):(lev w x).2=17∨((lev w x).2=0∧jq (lev w x).1):=by
 rcases jly (o:=some x) hl hw with h|⟨h1,h2,h3,h4,h5⟩
 ·exact .inl h
 ·exact .inr ⟨h1,h2,h3,h4,h5⟩
def ext (w:Int):List (List ql)→Option jb→Option (Option jb)
 | [],s=>some s
 |x::l,s=>if(lev w x).2=0 then ext w l (some (j27 s (lev w x).1))else none
def qgh (p:qb)(v:ql):Bool:=decide (max (v.a-p.pa) (p.pa-v.a)=p.sa)&&decide (max (v.b-p.pb) (p.pb-v.b)=p.sb)
theorem qu9 {a s:Int}(h:okN a s):(qap a s false).filter (fun x=>decide (max (x-a) (a-x)=s))=qap a s true:=by
 obtain⟨h1,h2,h3,h4⟩:=h
 unfold qap
 by_cases hs:s=0
 ·rw[if_pos hs,if_pos hs]
  simp only[List.filter_cons,List.filter_nil,decide_eq_true_eq]
  rw[if_pos (by omega)]
 ·rw[if_neg hs,if_neg hs]
  have:s=1:=by omega
  subst this
  simp only[Bool.false_eq_true,if_false,if_true,List.filter_cons,List.filter_nil,decide_eq_true_eq]
  rw[if_pos (by omega),if_neg (by omega),if_pos (by omega)]
theorem q0c {E:ql→Bool}{P Q:Int→Bool}{f:Int→Int→ql}(hE:∀a b,E (f a b)=(P a&&Q b)){lb:List Int}:∀ {la:List Int},(la.flatMap fun a=>lb.map (f a)).filter E=(la.filter P).flatMap fun a=>(lb.filter Q).map (f a)
 | []=>rfl
 |a::la=>by
  rw[List.flatMap_cons,List.filter_append,q0c hE,List.filter_map,List.filter_cons]
  cases hp:P a with
  |true=>
   rw[if_pos rfl,List.flatMap_cons]
   congr 2
   congr 1
   funext b
   show E (f a b)=_
   rw[hE,hp,Bool.true_and]
  |false=>
   have:lb.filter (E ∘ f a)=[]:=by
    rw[List.filter_eq_nil_iff]
    intro b _
    show ¬E (f a b)=true
    rw[hE,hp]
    simp
   rw[this]
   simp
theorem q5k {p:qb}{c:Bool}(h:okP p):(ki p false).filter (fun v=>qgh p v||!c)=ki p c:=by
 cases c with
 |false=>
  rw[List.filter_eq_self]
  intro v _
  simp
 |true=>
  have e:(fun v=>qgh p v||!true)=qgh p:=by funext v;simp
  rw[e]
  unfold ki
  rw[q0c (P:=fun x=>decide (max (x-p.pa) (p.pa-x)=p.sa)) (Q:=fun x=>decide (max (x-p.pb) (p.pb-x)=p.sb)) (fun a b=>rfl),qu9 h.1,qu9 h.2]
theorem qij {α β:Type}{P:α→Bool}{g:α→β}:∀ {l:List α},(l.flatMap fun v=>if P v then [g v]else [])=(l.filter P).map g
 | []=>rfl
 |v::l=>by
  rw[List.flatMap_cons,qij,List.filter_cons]
  cases P v<;>rfl
theorem jbp {p:qb}(h:okP p){v:ql}(hv:v∈ki p false):(p.pa-1≤v.a∧v.a≤p.pa+1)∧p.pb-1≤v.b∧v.b≤p.pb+1:=by
 have key:∀ {a s x:Int},x∈qap a s false→a-1≤x∧x≤a+1:=by
  intro a s x hx
  unfold qap at hx
  split at hx
  ·simp only[List.mem_cons,List.not_mem_nil,or_false]at hx;omega
  ·simp only[Bool.false_eq_true,if_false,List.mem_cons,List.not_mem_nil,or_false]at hx;omega
 unfold ki at hv
 obtain⟨a,ha,hv⟩:=List.mem_flatMap.1 hv
 obtain⟨b,hb,rfl⟩:=List.mem_map.1 hv
 exact⟨key ha,key hb⟩
theorem q03 {α β:Type}(c:Bool)(l:List α)(f:Bool×Option (List β)×Int×Bool→Option ((Bool×Option (List β)×Int×Bool)⊕(Bool×Option (List β)×Bool×Int)))(h:α→List β)(a0:List β)(I:Nat→List β→Prop)(hI:I 0 a0)
  (hend:∀a,f (c,za a,(l.length:Int),yx a)=some (.inr (c,za a,yx a,(l.length:Int))))
  (hstep:∀(i:Nat) x a,l[i]?=some x→i<l.length→I i a→I (i+1) (a++h x)∧f (c,za a,(i:Int),yx a)=some (.inl (c,za (a++h x),((i+1:Nat):Int),yx (a++h x)))):
  itO f (c,za a0,0,yx a0)=some (c,za (a0++l.flatMap h),yx (a0++l.flatMap h),(l.length:Int)):=by
 have key:∀(k i:Nat),i+k=l.length→∀a,I i a→itO f (c,za a,(i:Int),yx a)=some (c,za (a++(l.drop i).flatMap h),yx (a++(l.drop i).flatMap h),(l.length:Int)):=by
  intro k
  induction k with
  |zero=>
   intro i hi a _
   have:i=l.length:=by omega
   subst this
   rw[List.drop_eq_nil_of_le (Nat.le_refl _),List.flatMap_nil,List.append_nil,k9 (hend a)]
  |succ k ih=>
   intro i hi a ha
   obtain⟨x,hx⟩:∃x,l[i]?=some x:=⟨_,List.getElem?_eq_getElem (by omega)⟩
   obtain⟨h1,h2⟩:=hstep i x a hx (by omega) ha
   rw[qbb h2,ih (i+1) (by omega) _ h1,kh hx,List.flatMap_cons,List.append_assoc]
 have:=key l.length 0 (by omega) a0 hI
 rwa [List.drop_zero]at this
theorem q9m {x:List ql}{v:ql}(h:x.length≤1000):j5 (apO (some []) ((za x).getD [])) (fun y=>apO y [v])=some (za (x++[v])):=by
 have e:apO (some []) ((za x).getD [])=some (some x):=by
  unfold apO
  rw[yd,if_pos (by simp;omega)]
  cases x<;>rfl
 rw[e,j6]
 unfold apO
 rw[if_pos (by simp;omega)]
 cases x<;>rfl
theorem jc7 {ps:Option (List qb)}{ch:Option (List Int)}{c o:Bool}{L:List (List ql)}{i0:Int}{p:qb}{w:Bool}{st:Bool×Option (List (Option (List ql)))×Int×Bool}{x:List ql}{k:Nat}(hk:L[k]?=some x)(hx:x.length≤1000)(hst:st.2.2.1=(k:Int))(h:okP p)
  {j:Nat} {v:ql} {a:List (Option (List ql))} (hj:(ki p false)[j]?=some v) (hl:a.length<1073741824):
  qs4 ps ch (c,za (L.map za),i0,o) p (some (ki p false),w) st (c,za a,(j:Int),yx a)=some (.inl (c,za (a++if qgh p v||!c then [za (x++[v])]else []),((j+1:Nat):Int),yx (a++if qgh p v||!c then [za (x++[v])]else []))):=by
 have hjl:j<(ki p false).length:=(List.getElem?_eq_some_iff.1 hj).1
 obtain⟨⟨n1,n2⟩,n3,n4⟩:=jbp h (List.mem_of_getElem? hj)
 obtain⟨⟨a1,a2,a3,a4⟩,b1,b2,b3,b4⟩:=h
 have hv9:=qd1 (p:=p) (c:=false)
 have hidx:yo ((za (L.map za)).getD []) st.2.2.1=some (za x):=by
  rw[hst,yd,qgl,List.getElem?_map,hk];rfl
 have hap:∀ {γ:Type} {q:Option (List (Option (List ql)))→Option γ},(j5 (apO (some []) ((za x).getD [])) fun v1=>j5 (apO v1 [v]) fun v2=>cond (yx a) (j5 (apO (za a) [v2]) q) (cond (za a).isNone (j5 (apO (za a) [v2]) q) none))=q (za (a++[za (x++[v])])):=by
  intro γ q
  have e:=q9m (v:=v) hx
  cases h1:apO (some []) ((za x).getD [])with
  |none=>rw[h1]at e;cases e
  |some y=>
   rw[h1,j6]at e
   rw[j6,e,j6,qc3 hl]
 unfold qs4
 dsimp only
 simp only[Option.getD_some]
 rw[kl hjl,cT,y8 hj,j6,qba (x:=v.a-p.pa) (by omega),qba (x:=p.pa-v.a) (by omega),qba (x:=v.b-p.pb) (by omega),qba (x:=p.pb-v.b) (by omega),yg hjl (by omega),hidx]
 unfold qgh
 cases decide (max (v.a-p.pa) (p.pa-v.a)=p.sa)with
 |true=>
  cases decide (max (v.b-p.pb) (p.pb-v.b)=p.sb)with
  |true=>
   simp only[cT,j6]
   rw[hap]
   simp[qc8]
  |false=>
   cases c with
   |true=>simp
   |false=>
    simp only[cT,cF,j6]
    rw[hap]
    simp[qc8]
 |false=>
  cases c with
  |true=>simp
  |false=>
   simp only[cF,j6]
   rw[hap]
   simp[qc8]
theorem jdo {c:Bool}{L:List (List ql)}{p:qb}:(qge c L p).length≤9*L.length:=by
 unfold qge
 induction L with
 |nil=>simp
 |cons x L ih=>
  have:=qd1 (p:=p) (c:=c)
  rw[List.flatMap_cons,List.length_append,List.length_map,List.length_cons]
  omega
theorem jay {ps:Option (List qb)}{ch:Option (List Int)}{c:Bool}{L:List (List ql)}{i:Nat}{k:Int}{p:qb}(hi:(ch.getD [])[i]?=some k)(hn:(ch.getD []).length≤1000)(hp:yo (ps.getD []) k=some p)(h:okP p)(hL:L.length≤100000)(hx:∀x∈L,x.length≤1000):
  qrm ps ch (c,za (L.map za),(i:Int),yx (L.map za))=some (.inl (c,za ((qge c L p).map za),((i+1:Nat):Int),yx ((qge c L p).map za))):=by
 have hil:i<(ch.getD []).length:=(List.getElem?_eq_some_iff.1 hi).1
 unfold qrm
 dsimp only
 rw[kl hil,cT,y8 hi,j6,hp,j6,q6j h,j6,yg hil (by omega)]
 have key:=q03 c L (qwc ps ch (c,za (L.map za),(i:Int),yx (L.map za)) p (some (ki p false),true)) (fun x=>(ki p false).flatMap fun v=>if qgh p v||!c then [za (x++[v])]else []) [] (fun j a=>a.length≤9*j) (by simp) (fun a=>by
   unfold qwc
   dsimp only
   rw[yd,List.length_map,kc];rfl) (fun j x a hj hjl ha=>by
   have hin:=q03 c (ki p false) (qs4 ps ch (c,za (L.map za),(i:Int),yx (L.map za)) p (some (ki p false),true) (c,za a,(j:Int),yx a)) (fun v=>if qgh p v||!c then [za (x++[v])]else []) a (fun m b=>b.length≤a.length+m) (by simp) (fun b=>by
     unfold qs4
     dsimp only
     simp only[Option.getD_some]
     rw[kc];rfl) (fun m v b hm hml hb=>by
     have hv9:=qd1 (p:=p) (c:=false)
     refine⟨?_,jc7 hj (hx x (List.mem_of_getElem? hj)) rfl h hm (by omega)⟩
     rw[List.length_append]
     split<;>simp<;>omega)
   have hfl:((ki p false).flatMap fun v=>if qgh p v||!c then [za (x++[v])]else []).length≤9:=by
    rw[qij (P:=fun v=>qgh p v||!c) (g:=fun v=>za (x++[v])),List.length_map]
    exact Nat.le_trans (List.length_filter_le _ _) qd1
   refine⟨by rw[List.length_append];omega,?_⟩
   unfold qwc
   dsimp only
   rw[yd,List.length_map,kl hjl,cT,hin,j6,yg hjl (by omega)])
 have e0:((none:Option (List (Option (List ql)))),(0:Int),false)=(za [],0,yx ([]:List (Option (List ql)))):=rfl
 have e1:(L.flatMap fun x=>(ki p false).flatMap fun v=>if qgh p v||!c then [za (x++[v])]else [])=(qge c L p).map za:=by
  unfold qge
  rw[List.map_flatMap]
  congr 1
  funext x
  rw[qij (P:=fun v=>qgh p v||!c) (g:=fun v=>za (x++[v])),q5k h,List.map_map]
  rfl
 rw[List.nil_append,e1]at key
 rw[e0,key,j6]
theorem jho {ps:Option (List qb)}{ch:Option (List Int)}{c:Bool}{qs:List qb}(hp:jd (ps.getD []) (ch.getD []) qs)(ho:∀q∈qs,okP q)(hn:(ch.getD []).length≤3):∀ {k i:Nat} {L:List (List ql)},(ch.getD []).length=i+k→L.length≤9^i→(∀x∈L,x.length=i) →
  itO (qrm ps ch) (c,za (L.map za),(i:Int),yx (L.map za))=some (c,za (((qs.drop i).foldl (qge c) L).map za),yx (((qs.drop i).foldl (qge c) L).map za),((ch.getD []).length:Int))
 |0,i,L,hk,hL,hx=>by
  rw[List.drop_eq_nil_of_le (by rw[hp.len];omega)]
  refine k9 ?_
  unfold qrm
  dsimp only
  rw[dF (show ¬(i:Int)<((ch.getD []).length:Int) by omega),cF]
  have:(i:Int)=((ch.getD []).length:Int):=by omega
  rw[this];rfl
 |k+1,i,L,hk,hL,hx=>by
  have hil:i<(ch.getD []).length:=by omega
  obtain⟨q,g1,g2⟩:=hp.at_ i _ (List.getElem?_eq_getElem hil)
  have hpow:9^i≤729:=by
   match i,(show i≤3 by omega)with
   |0,_=>decide
   |1,_=>decide
   |2,_=>decide
   |3,_=>decide
  have hs:=jay (c:=c) (L:=L) (List.getElem?_eq_getElem hil) (by omega) g2 (ho q (List.mem_of_getElem? g1)) (by omega) (fun x hm=>by rw[hx x hm];omega)
  rw[qbb hs,kh g1,List.foldl_cons]
  refine jho (k:=k) (i:=i+1) hp ho hn (by omega) ?_ ?_
  ·have:=jdo (c:=c) (L:=L) (p:=q)
   rw[Nat.pow_succ]
   omega
  ·intro y hy
   obtain⟨x,hm,hy⟩:=List.mem_flatMap.1 hy
   obtain⟨v,_,rfl⟩:=List.mem_map.1 hy
   rw[List.length_append,hx x hm];rfl
theorem jic {ps:Option (List qb)}{ch:Option (List Int)}{c:Bool}{qs:List qb}(hp:jd (ps.getD []) (ch.getD []) qs)(ho:∀q∈qs,okP q)(hn:(ch.getD []).length≤3):je7 ps ch c=some (za ((qbk c qs []).map za),yx ((qbk c qs []).map za)):=by
 unfold je7
 have:=jho (c:=c) hp ho hn (k:=(ch.getD []).length) (i:=0) (L:=[[]]) (by omega) (by decide) (by simp)
 have e:(c,za (([[]]:List (List ql)).map za),((0:Nat):Int),yx (([[]]:List (List ql)).map za))=(c,some [none],0,true):=rfl
 rw[e,List.drop_zero,je9]at this
 rw[this,j6]
theorem q3h {c:Bool}:∀ {qs:List qb} {x:List ql},(qbk c qs x).length≤9^qs.length
 | [],x=>by simp[qbk]
 |p::qs,x=>by
  show((ki p c).flatMap fun v=>qbk c qs (x++[v])).length≤_
  have hv:=qd1 (p:=p) (c:=c)
  have:∀l:List ql,(l.flatMap fun v=>qbk c qs (x++[v])).length≤l.length*9^qs.length:=by
   intro l
   induction l with
   |nil=>simp
   |cons v l ih=>
    have:=q3h (c:=c) (qs:=qs) (x:=x++[v])
    rw[List.flatMap_cons,List.length_append,List.length_cons,Nat.succ_mul]
    omega
  refine Nat.le_trans (this _) ?_
  rw[List.length_cons,Nat.pow_succ,Nat.mul_comm]
  exact Nat.mul_le_mul_left _ hv
end Go.Z
