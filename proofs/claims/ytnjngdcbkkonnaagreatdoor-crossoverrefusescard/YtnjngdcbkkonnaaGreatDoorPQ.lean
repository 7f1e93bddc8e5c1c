/- Chapter 4. -/
import Derived.Test.YtnjngdcbkkonnaaGreatDoorA8
import Derived.Test.YtnjngdcbkkonnaaGreatDoorPB
import Derived.Test.YtnjngdcbkkonnaaGreatDoorPH
set_option linter.unusedVariables false
set_option linter.unusedSimpArgs false
set_option maxRecDepth 100000
set_option maxHeartbeats 1000000
namespace Go.Z
open Go Go.Abs
theorem jkt {o:Option (List Int)}(h:(o.getD []).length≤1073741824):f30 o=some (some (o.getD [])):=by
 unfold f30 apO
 rw[if_pos (by simpa using h)]
 cases o with
 |none=>rfl
 |some l=>cases l<;>rfl
structure jd (ps:List qb)(ch:List Int)(qs:List qb):Prop where
 len:qs.length=ch.length
 at_:∀(k:Nat) i,ch[k]?=some i→∃q,qs[k]?=some q∧yd ps i=some q
 mem:∀q∈qs,q∈ps
def qb1 (c:Bool):List qb→List qk→List (List qk)
 | [],x=>[x]
 |p::l,x=>(ki p c).flatMap fun v=>qb1 c l (x++[v])
section
variable {S D α β:Type}
theorem qsp {g:S→α→Option (S⊕D)}:∀ {a b:List α} {s:S},qbg g (a++b) s=j5 (qbg g a s) fun r=>match r with | .inl s'=>qbg g b s' | .inr d=>some (.inr d)
 | [],b,s=>rfl
 |v::a,b,s=>by
  simp only[List.cons_append,qbg]
  cases g s v with
  |none=>rfl
  |some r=>
   cases r with
   |inl s'=>simp only[j6];exact qsp
   |inr d=>rfl
theorem qyo {g:S→α→Option (S⊕D)}{h:β→List α}:∀ {l:List β} {s:S},qbg g (l.flatMap h) s=qbg (fun s v=>qbg g (h v) s) l s
 | [],s=>rfl
 |v::l,s=>by
  rw[List.flatMap_cons,qsp]
  simp only[qbg]
  cases qbg g (h v) s with
  |none=>rfl
  |some r=>
   cases r with
   |inl s'=>simp only[j6];exact qyo
   |inr d=>rfl
theorem q9i {g:S→α→Option (S⊕D)}{x:α}{s:S}:qbg g [x] s=g s x:=by
 simp only[qbg]
 cases g s x with
 |none=>rfl
 |some r=>cases r<;>rfl
theorem qvc {g g':S→α→Option (S⊕D)}:∀ {l:List α} {s:S},(∀s,∀v∈l,g s v=g' s v)→qbg g l s=qbg g' l s
 | [],s,_=>rfl
 |v::l,s,h=>by
  simp only[qbg]
  rw[h s v (List.mem_cons_self ..)]
  cases g' s v with
  |none=>rfl
  |some r=>
   cases r with
   |inl s'=>simp only[j6];exact qvc fun s x hx=>h s x (List.mem_cons_of_mem _ hx)
   |inr d=>rfl
theorem q50 {x:List qk}(h:x.length≤1073741824):∃b,f198 (zb x)=some (zb x,b)∧(b||(zb x).isNone)=true:=by
 cases x with
 |nil=>exact⟨false,rfl,rfl⟩
 |cons a l=>
  refine⟨true,?_,rfl⟩
  unfold f198 apO
  rw[if_pos (by simpa[zb]using h)]
  rfl
theorem jd5 {l:List β}{k:Nat}{x:β}(h:l[k]?=some x):yd l (k:Int)=some x:=by rw[qgg,h]
theorem jac {y:S→Option (List qk)→Option (S⊕D)}{ps:Option (List qb)}{ch:Option (List Int)}{c:Bool}{qs:List qb}(hp:jd (ps.getD []) (ch.getD []) qs)(ho:∀q∈qs,okP q)(hl:qs.length≤1000):
  ∀(m:Nat) (x:List qk) (s:S),x.length+m=qs.length→vis y ch ps c m (zb x) s=qbg (fun s x=>y s (zb x)) (qb1 c (qs.drop x.length) x) s
 |0,x,s,hm=>by
  rw[List.drop_eq_nil_of_le (by omega)]
  show _=qbg _ [x] s
  rw[q9i]
  obtain⟨b,h1,h2⟩:=q50 (x:=x) (by omega)
  unfold vis
  rw[h1,j6]
 |m+1,x,s,hm=>by
  have hk:x.length<(ch.getD []).length:=by rw[←hp.len];omega
  obtain⟨q,g1,g2⟩:=hp.at_ x.length _ (List.getElem?_eq_getElem hk)
  rw[kl g1]
  show _=qbg _ ((ki q c).flatMap fun v=>qb1 c (qs.drop (x.length+1)) (x++[v])) s
  rw[qyo]
  obtain⟨b,h1,h2⟩:=q50 (x:=x) (by omega)
  have hq:okP q:=ho q (List.mem_of_getElem? g1)
  unfold vis
  rw[ya,jd5 (List.getElem?_eq_getElem hk),j6,g2,j6,q16 hq,j6]
  simp only[Option.getD_some]
  rw[dT (qds (p:=q) (c:=c)),cT,h1,j6]
  simp only[h2,cT]
  refine qvc fun s v _=>?_
  rw[qqv (by omega),j6]
  have:=jac (y:=y) (c:=c) hp ho hl m (x++[v]) s (by rw[List.length_append];simp only[List.length_cons,List.length_nil];omega)
  rw[this]
  congr 2
  simp
theorem jib {y:S→Option (List qk)→Option (S⊕D)}{ps:Option (List qb)}{ch:Option (List Int)}{c:Bool}{qs:List qb}{s:S}(hp:jd (ps.getD []) (ch.getD []) qs)(ho:∀q∈qs,okP q)(hl:qs.length≤1000):vis y ch ps c (ch.getD []).length none s=qbg (fun s x=>y s (zb x)) (qb1 c qs []) s:=by
 have:=jac (y:=y) (c:=c) hp ho hl (ch.getD []).length [] s (by rw[hp.len];simp)
 exact this
end
def qgb (c:Bool)(out:List (List qk))(p:qb):List (List qk):=out.flatMap fun x=>(ki p c).map fun v=>x++[v]
theorem q0o {c:Bool}:∀ {qs:List qb} {out:List (List qk)},qs.foldl (qgb c) out=out.flatMap (qb1 c qs)
 | [],out=>by
  show out=out.flatMap fun x=>[x]
  rw[qep];simp
 |p::qs,out=>by
  rw[List.foldl_cons,q0o]
  unfold qgb
  rw[List.flatMap_assoc]
  congr 1
  funext x
  rw[List.flatMap_map]
  rfl
theorem jcl {c:Bool}{qs:List qb}:qs.foldl (qgb c) [[]]=qb1 c qs []:=by rw[q0o];simp
theorem jeb {p:qb}{c:Bool}(h:okP p){v:qk}(hv:v∈ki p c):v∈ki p false:=by
 obtain⟨⟨a1,a2,a3,a4⟩,b1,b2,b3,b4⟩:=h
 have hs:∀ {a s:Int},0≤s→s≤1→∀ {x},x∈qaq a s c→x∈qaq a s false:=by
  intro a s h1 h2 x hx
  unfold qaq at hx ⊢
  split at hx
  ·next h0=>rw[if_pos h0];exact hx
  ·next h0=>
   rw[if_neg h0]
   have:s=1:=by omega
   subst this
   cases c with
   |false=>exact hx
   |true=>
    simp only[if_true,Bool.false_eq_true,if_false,List.mem_cons,List.not_mem_nil,or_false]at hx ⊢
    omega
 unfold ki at hv ⊢
 obtain⟨a,ha,hv⟩:=List.mem_flatMap.1 hv
 obtain⟨b,hb,hv⟩:=List.mem_map.1 hv
 exact List.mem_flatMap.2 ⟨a,hs a3 a4 ha,List.mem_map.2 ⟨b,hs b3 b4 hb,hv⟩⟩
theorem q21 {c:Bool}:∀ {qs:List qb} {x y:List qk},y∈qb1 c qs x→y.length=x.length+qs.length∧∀v∈y,v∈x∨∃q∈qs,v∈ki q c
 | [],x,y,h=>by
  have:y=x:=by simpa[qb1]using h
  subst this
  exact⟨rfl,fun v hv=>.inl hv⟩
 |p::qs,x,y,h=>by
  obtain⟨v,hv,hy⟩:=List.mem_flatMap.1 h
  obtain⟨h1,h2⟩:=q21 hy
  refine⟨by rw[h1,List.length_append];simp only[List.length_cons,List.length_nil];omega,fun u hu=>?_⟩
  rcases h2 u hu with hu|⟨q,hq,hu⟩
  ·rcases List.mem_append.1 hu with hu|hu
   ·exact .inl hu
   ·have:u=v:=by simpa using hu
    subst this
    exact .inr ⟨p,List.mem_cons_self ..,hv⟩
  ·exact .inr ⟨q,List.mem_cons_of_mem _ hq,hu⟩
theorem qyh:∀ {l:List qb} {ks:List (List UInt8)},qsk ks l=0→∀p∈l,qca p=0
 | [],_,_,_,h=>by cases h
 |q::l,ks,h,p,hp=>by
  unfold qsk at h
  split at h
  ·next h1=>
   rcases List.mem_cons.1 hp with rfl|hp
   ·exact qbc.1 h1 _ (List.mem_cons_self ..)
   ·exact qyh h p hp
  ·next h1=>exact absurd h h1
theorem qcv {l:List qb}(h:qcs l=0):l.length≤6∧∀p∈l,qca p=0:=by
 unfold qcs at h
 split at h
 ·cases h
 ·exact⟨by omega,qyh h⟩
theorem q0m {p:qb}(h:qca p=0){v:qk}(hv:v∈ki p false):qa7 v=0:=by
 unfold qca at h
 split at h
 ·next h1=>
  have h2:kf ((ki p false).map qa7)=0:=by
   by_cases hz:kf ((ki p false).map qa7)=0
   ·exact hz
   ·rw[dF hz]at h;cases h
  exact qbc.1 h2 _ (List.mem_map.2 ⟨v,hv,rfl⟩)
 ·next h1=>exact absurd h h1
theorem q9n {c:Bool}{ps qs:List qb}{ch:List Int}(hc:qcs ps=0)(hp:jd ps ch qs)(hn:ch.length≤3):(∀q∈qs,okP q)∧∀x∈qb1 c qs [],qa0 x=0:=by
 have h1:∀q∈qs,qca q=0:=fun q hq=>(qcv hc).2 q (hp.mem q hq)
 refine⟨fun q hq=>qql (h1 q hq),fun x hx=>?_⟩
 obtain⟨g1,g2⟩:=q21 hx
 unfold qa0
 rw[if_neg (by rw[g1,hp.len];simp;omega)]
 refine qbc.2 fun e he=>?_
 obtain⟨v,hv,rfl⟩:=List.mem_map.1 he
 rcases g2 v hv with hv|⟨q,hq,hv⟩
 ·cases hv
 ·exact q0m (h1 q hq) (jeb (qql (h1 q hq)) hv)
structure jr (v:qh):Prop where
 a:0≤v.num
 b:v.num≤9223372036854775807
 c:1≤v.den
 d:v.den≤9223372036854775807
def qeq (x y:qh):Bool:=decide (x.num*y.den<y.num*x.den)
theorem qzv {a b:qh}(ha:jr a)(hb:jr b):f127 a b=some (qeq b a):=jex ha.a ha.b (by have:=ha.c;omega) ha.d hb.a hb.b (by have:=hb.c;omega) hb.d
theorem jbz {a b:qh}(ha:jr a)(hb:jr b):f58 200 a b=some (qeq a b):=jit ha.a ha.b ha.c ha.d hb.a hb.b hb.c hb.d
def qlo (s:jc):qh:=⟨s.a,s.b⟩
def qhi (s:jc):qh:=⟨s.c,s.d⟩
def mkQ (x y:qh):jc:=⟨x.num,x.den,y.num,y.den⟩
def j3d (s:Option jc)(v:qh):jc:=match s with
 |none=>mkQ v v
 |some s=>mkQ (cond (qeq v (qlo s)) v (qlo s)) (cond (qeq (qhi s) v) v (qhi s))
theorem q6c {x:List qk}{w:Int}(hl:qa0 x=0)(hw:yf w 1 8=0):(lev w x).2=17∨((lev w x).2=0∧jr (lev w x).1):=by
 rcases jmy (o:=some x) hl hw with h|⟨h1,h2,h3,h4,h5⟩
 ·exact .inl h
 ·exact .inr ⟨h1,h2,h3,h4,h5⟩
def ext (w:Int):List (List qk)→Option jc→Option (Option jc)
 | [],s=>some s
 |x::l,s=>if(lev w x).2=0 then ext w l (some (j3d s (lev w x).1))else none
def qf6 (p:qb)(v:qk):Bool:=decide (max (v.a-p.pa) (p.pa-v.a)=p.sa)&&decide (max (v.b-p.pb) (p.pb-v.b)=p.sb)
theorem qvj {a s:Int}(h:okN a s):(qaq a s false).filter (fun x=>decide (max (x-a) (a-x)=s))=qaq a s true:=by
 obtain⟨h1,h2,h3,h4⟩:=h
 unfold qaq
 by_cases hs:s=0
 ·rw[if_pos hs,if_pos hs]
  simp only[List.filter_cons,List.filter_nil,decide_eq_true_eq]
  rw[if_pos (by omega)]
 ·rw[if_neg hs,if_neg hs]
  have:s=1:=by omega
  subst this
  simp only[Bool.false_eq_true,if_false,if_true,List.filter_cons,List.filter_nil,decide_eq_true_eq]
  rw[if_pos (by omega),if_neg (by omega),if_pos (by omega)]
theorem qz2 {E:qk→Bool}{P Q:Int→Bool}{f:Int→Int→qk}(hE:∀a b,E (f a b)=(P a&&Q b)){lb:List Int}:∀ {la:List Int},(la.flatMap fun a=>lb.map (f a)).filter E=(la.filter P).flatMap fun a=>(lb.filter Q).map (f a)
 | []=>rfl
 |a::la=>by
  rw[List.flatMap_cons,List.filter_append,qz2 hE,List.filter_map,List.filter_cons]
  cases hp:P a with
  |true=>
   rw[if_pos rfl,List.flatMap_cons]
   congr 2
   congr 1
   funext b
   show E (f a b)=_
   rw[hE,hp,Bool.true_and]
  |false=>
   have:lb.filter (E ∘ f a)=[]:=by
    rw[List.filter_eq_nil_iff]
    intro b _
    show ¬E (f a b)=true
    rw[hE,hp]
    simp
   rw[this]
   simp
theorem q5c {p:qb}{c:Bool}(h:okP p):(ki p false).filter (fun v=>qf6 p v||!c)=ki p c:=by
 cases c with
 |false=>
  rw[List.filter_eq_self]
  intro v _
  simp
 |true=>
  have e:(fun v=>qf6 p v||!true)=qf6 p:=by funext v;simp
  rw[e]
  unfold ki
  rw[qz2 (P:=fun x=>decide (max (x-p.pa) (p.pa-x)=p.sa)) (Q:=fun x=>decide (max (x-p.pb) (p.pb-x)=p.sb)) (fun a b=>rfl),qvj h.1,qvj h.2]
theorem qib {α β:Type}{P:α→Bool}{g:α→β}:∀ {l:List α},(l.flatMap fun v=>if P v then [g v]else [])=(l.filter P).map g
 | []=>rfl
 |v::l=>by
  rw[List.flatMap_cons,qib,List.filter_cons]
  cases P v<;>rfl
theorem jaw {p:qb}(h:okP p){v:qk}(hv:v∈ki p false):(p.pa-1≤v.a∧v.a≤p.pa+1)∧p.pb-1≤v.b∧v.b≤p.pb+1:=by
 have key:∀ {a s x:Int},x∈qaq a s false→a-1≤x∧x≤a+1:=by
  intro a s x hx
  unfold qaq at hx
  split at hx
  ·simp only[List.mem_cons,List.not_mem_nil,or_false]at hx;omega
  ·simp only[Bool.false_eq_true,if_false,List.mem_cons,List.not_mem_nil,or_false]at hx;omega
 unfold ki at hv
 obtain⟨a,ha,hv⟩:=List.mem_flatMap.1 hv
 obtain⟨b,hb,rfl⟩:=List.mem_map.1 hv
 exact⟨key ha,key hb⟩
theorem qz6 {α β:Type}(c:Bool)(l:List α)(f:Bool×Option (List β)×Int×Bool→Option ((Bool×Option (List β)×Int×Bool)⊕(Bool×Option (List β)×Bool×Int)))(h:α→List β)(a0:List β)(I:Nat→List β→Prop)(hI:I 0 a0)
  (hend:∀a,f (c,zb a,(l.length:Int),kh a)=some (.inr (c,zb a,kh a,(l.length:Int))))
  (hstep:∀(i:Nat) x a,l[i]?=some x→i<l.length→I i a→I (i+1) (a++h x)∧f (c,zb a,(i:Int),kh a)=some (.inl (c,zb (a++h x),((i+1:Nat):Int),kh (a++h x)))):
  itO f (c,zb a0,0,kh a0)=some (c,zb (a0++l.flatMap h),kh (a0++l.flatMap h),(l.length:Int)):=by
 have key:∀(k i:Nat),i+k=l.length→∀a,I i a→itO f (c,zb a,(i:Int),kh a)=some (c,zb (a++(l.drop i).flatMap h),kh (a++(l.drop i).flatMap h),(l.length:Int)):=by
  intro k
  induction k with
  |zero=>
   intro i hi a _
   have:i=l.length:=by omega
   subst this
   rw[List.drop_eq_nil_of_le (Nat.le_refl _),List.flatMap_nil,List.append_nil,qab (hend a)]
  |succ k ih=>
   intro i hi a ha
   obtain⟨x,hx⟩:∃x,l[i]?=some x:=⟨_,List.getElem?_eq_getElem (by omega)⟩
   obtain⟨h1,h2⟩:=hstep i x a hx (by omega) ha
   rw[qbi h2,ih (i+1) (by omega) _ h1,kl hx,List.flatMap_cons,List.append_assoc]
 have:=key l.length 0 (by omega) a0 hI
 rwa [List.drop_zero]at this
theorem q7a {x:List qk}{v:qk}(h:x.length≤1000):j5 (apO (some []) ((zb x).getD [])) (fun y=>apO y [v])=some (zb (x++[v])):=by
 have e:apO (some []) ((zb x).getD [])=some (some x):=by
  unfold apO
  rw[ya,if_pos (by simp;omega)]
  cases x<;>rfl
 rw[e,j6]
 unfold apO
 rw[if_pos (by simp;omega)]
 cases x<;>rfl
theorem jba {ps:Option (List qb)}{ch:Option (List Int)}{c o:Bool}{L:List (List qk)}{i0:Int}{p:qb}{w:Bool}{st:Bool×Option (List (Option (List qk)))×Int×Bool}{x:List qk}{k:Nat}(hk:L[k]?=some x)(hx:x.length≤1000)(hst:st.2.2.1=(k:Int))(h:okP p)
  {j:Nat} {v:qk} {a:List (Option (List qk))} (hj:(ki p false)[j]?=some v) (hl:a.length<1073741824):
  qis ps ch (c,zb (L.map zb),i0,o) p (some (ki p false),w) st (c,zb a,(j:Int),kh a)=some (.inl (c,zb (a++if qf6 p v||!c then [zb (x++[v])]else []),((j+1:Nat):Int),kh (a++if qf6 p v||!c then [zb (x++[v])]else []))):=by
 have hjl:j<(ki p false).length:=(List.getElem?_eq_some_iff.1 hj).1
 obtain⟨⟨n1,n2⟩,n3,n4⟩:=jaw h (List.mem_of_getElem? hj)
 obtain⟨⟨a1,a2,a3,a4⟩,b1,b2,b3,b4⟩:=h
 have hv9:=qds (p:=p) (c:=false)
 have hidx:yd ((zb (L.map zb)).getD []) st.2.2.1=some (zb x):=by
  rw[hst,ya,qgg,List.getElem?_map,hk];rfl
 have hap:∀ {γ:Type} {q:Option (List (Option (List qk)))→Option γ},(j5 (apO (some []) ((zb x).getD [])) fun v1=>j5 (apO v1 [v]) fun v2=>cond (kh a) (j5 (apO (zb a) [v2]) q) (cond (zb a).isNone (j5 (apO (zb a) [v2]) q) none))=q (zb (a++[zb (x++[v])])):=by
  intro γ q
  have e:=q7a (v:=v) hx
  cases h1:apO (some []) ((zb x).getD [])with
  |none=>rw[h1]at e;cases e
  |some y=>
   rw[h1,j6]at e
   rw[j6,e,j6,qbk hl]
 unfold qis
 dsimp only
 simp only[Option.getD_some]
 rw[kc hjl,cT,yn hj,j6,qa5 (x:=v.a-p.pa) (by omega),qa5 (x:=p.pa-v.a) (by omega),qa5 (x:=v.b-p.pb) (by omega),qa5 (x:=p.pb-v.b) (by omega),yb hjl (by omega),hidx]
 unfold qf6
 cases decide (max (v.a-p.pa) (p.pa-v.a)=p.sa)with
 |true=>
  cases decide (max (v.b-p.pb) (p.pb-v.b)=p.sb)with
  |true=>
   simp only[cT,j6]
   rw[hap]
   simp[qck]
  |false=>
   cases c with
   |true=>simp
   |false=>
    simp only[cT,cF,j6]
    rw[hap]
    simp[qck]
 |false=>
  cases c with
  |true=>simp
  |false=>
   simp only[cF,j6]
   rw[hap]
   simp[qck]
theorem q96 {c:Bool}{L:List (List qk)}{p:qb}:(qgb c L p).length≤9*L.length:=by
 unfold qgb
 induction L with
 |nil=>simp
 |cons x L ih=>
  have:=qds (p:=p) (c:=c)
  rw[List.flatMap_cons,List.length_append,List.length_map,List.length_cons]
  omega
theorem q9s {ps:Option (List qb)}{ch:Option (List Int)}{c:Bool}{L:List (List qk)}{i:Nat}{k:Int}{p:qb}(hi:(ch.getD [])[i]?=some k)(hn:(ch.getD []).length≤1000)(hp:yd (ps.getD []) k=some p)(h:okP p)(hL:L.length≤100000)(hx:∀x∈L,x.length≤1000):
  qjf ps ch (c,zb (L.map zb),(i:Int),kh (L.map zb))=some (.inl (c,zb ((qgb c L p).map zb),((i+1:Nat):Int),kh ((qgb c L p).map zb))):=by
 have hil:i<(ch.getD []).length:=(List.getElem?_eq_some_iff.1 hi).1
 unfold qjf
 dsimp only
 rw[kc hil,cT,yn hi,j6,hp,j6,qys h,j6,yb hil (by omega)]
 have key:=qz6 c L (qlz ps ch (c,zb (L.map zb),(i:Int),kh (L.map zb)) p (some (ki p false),true)) (fun x=>(ki p false).flatMap fun v=>if qf6 p v||!c then [zb (x++[v])]else []) [] (fun j a=>a.length≤9*j) (by simp) (fun a=>by
   unfold qlz
   dsimp only
   rw[ya,List.length_map,yu];rfl) (fun j x a hj hjl ha=>by
   have hin:=qz6 c (ki p false) (qis ps ch (c,zb (L.map zb),(i:Int),kh (L.map zb)) p (some (ki p false),true) (c,zb a,(j:Int),kh a)) (fun v=>if qf6 p v||!c then [zb (x++[v])]else []) a (fun m b=>b.length≤a.length+m) (by simp) (fun b=>by
     unfold qis
     dsimp only
     simp only[Option.getD_some]
     rw[yu];rfl) (fun m v b hm hml hb=>by
     have hv9:=qds (p:=p) (c:=false)
     refine⟨?_,jba hj (hx x (List.mem_of_getElem? hj)) rfl h hm (by omega)⟩
     rw[List.length_append]
     split<;>simp<;>omega)
   have hfl:((ki p false).flatMap fun v=>if qf6 p v||!c then [zb (x++[v])]else []).length≤9:=by
    rw[qib (P:=fun v=>qf6 p v||!c) (g:=fun v=>zb (x++[v])),List.length_map]
    exact Nat.le_trans (List.length_filter_le _ _) qds
   refine⟨by rw[List.length_append];omega,?_⟩
   unfold qlz
   dsimp only
   rw[ya,List.length_map,kc hjl,cT,hin,j6,yb hjl (by omega)])
 have e0:((none:Option (List (Option (List qk)))),(0:Int),false)=(zb [],0,kh ([]:List (Option (List qk)))):=rfl
 have e1:(L.flatMap fun x=>(ki p false).flatMap fun v=>if qf6 p v||!c then [zb (x++[v])]else [])=(qgb c L p).map zb:=by
  unfold qgb
  rw[List.map_flatMap]
  congr 1
  funext x
  rw[qib (P:=fun v=>qf6 p v||!c) (g:=fun v=>zb (x++[v])),q5c h,List.map_map]
  rfl
 rw[List.nil_append,e1]at key
 rw[e0,key,j6]
theorem jf4 {ps:Option (List qb)}{ch:Option (List Int)}{c:Bool}{qs:List qb}(hp:jd (ps.getD []) (ch.getD []) qs)(ho:∀q∈qs,okP q)(hn:(ch.getD []).length≤3):∀ {k i:Nat} {L:List (List qk)},(ch.getD []).length=i+k→L.length≤9^i→(∀x∈L,x.length=i) →
  itO (qjf ps ch) (c,zb (L.map zb),(i:Int),kh (L.map zb))=some (c,zb (((qs.drop i).foldl (qgb c) L).map zb),kh (((qs.drop i).foldl (qgb c) L).map zb),((ch.getD []).length:Int))
 |0,i,L,hk,hL,hx=>by
  rw[List.drop_eq_nil_of_le (by rw[hp.len];omega)]
  refine qab ?_
  unfold qjf
  dsimp only
  rw[dF (show ¬(i:Int)<((ch.getD []).length:Int) by omega),cF]
  have:(i:Int)=((ch.getD []).length:Int):=by omega
  rw[this];rfl
 |k+1,i,L,hk,hL,hx=>by
  have hil:i<(ch.getD []).length:=by omega
  obtain⟨q,g1,g2⟩:=hp.at_ i _ (List.getElem?_eq_getElem hil)
  have hpow:9^i≤729:=by
   match i,(show i≤3 by omega)with
   |0,_=>decide
   |1,_=>decide
   |2,_=>decide
   |3,_=>decide
  have hs:=q9s (c:=c) (L:=L) (List.getElem?_eq_getElem hil) (by omega) g2 (ho q (List.mem_of_getElem? g1)) (by omega) (fun x hm=>by rw[hx x hm];omega)
  rw[qbi hs,kl g1,List.foldl_cons]
  refine jf4 (k:=k) (i:=i+1) hp ho hn (by omega) ?_ ?_
  ·have:=q96 (c:=c) (L:=L) (p:=q)
   rw[Nat.pow_succ]
   omega
  ·intro y hy
   obtain⟨x,hm,hy⟩:=List.mem_flatMap.1 hy
   obtain⟨v,_,rfl⟩:=List.mem_map.1 hy
   rw[List.length_append,hx x hm];rfl
theorem jhc {ps:Option (List qb)}{ch:Option (List Int)}{c:Bool}{qs:List qb}(hp:jd (ps.getD []) (ch.getD []) qs)(ho:∀q∈qs,okP q)(hn:(ch.getD []).length≤3):f112 ps ch c=some (zb ((qb1 c qs []).map zb),kh ((qb1 c qs []).map zb)):=by
 unfold f112
 have:=jf4 (c:=c) hp ho hn (k:=(ch.getD []).length) (i:=0) (L:=[[]]) (by omega) (by decide) (by simp)
 have e:(c,zb (([[]]:List (List qk)).map zb),((0:Nat):Int),kh (([[]]:List (List qk)).map zb))=(c,some [none],0,true):=rfl
 rw[e,List.drop_zero,jcl]at this
 rw[this,j6]
theorem q2o {c:Bool}:∀ {qs:List qb} {x:List qk},(qb1 c qs x).length≤9^qs.length
 | [],x=>by simp[qb1]
 |p::qs,x=>by
  show((ki p c).flatMap fun v=>qb1 c qs (x++[v])).length≤_
  have hv:=qds (p:=p) (c:=c)
  have:∀l:List qk,(l.flatMap fun v=>qb1 c qs (x++[v])).length≤l.length*9^qs.length:=by
   intro l
   induction l with
   |nil=>simp
   |cons v l ih=>
    have:=q2o (c:=c) (qs:=qs) (x:=x++[v])
    rw[List.flatMap_cons,List.length_append,List.length_cons,Nat.succ_mul]
    omega
  refine Nat.le_trans (this _) ?_
  rw[List.length_cons,Nat.pow_succ,Nat.mul_comm]
  exact Nat.mul_le_mul_left _ hv
end Go.Z
