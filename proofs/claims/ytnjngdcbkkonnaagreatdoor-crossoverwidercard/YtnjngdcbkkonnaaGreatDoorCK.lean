/- Chapter 4. -/
import Derived.Test.YtnjngdcbkkonnaaGreatDoorTK
import Derived.Test.YtnjngdcbkkonnaaGreatDoorLZ
import Derived.Test.YtnjngdcbkkonnaaGreatDoorA8
import Derived.Test.YtnjngdcbkkonnaaGreatDoorA13
import Derived.Test.YtnjngdcbkkonnaaGreatDoorQH
set_option linter.unusedVariables false
set_option linter.unusedSimpArgs false
set_option maxRecDepth 100000
set_option maxHeartbeats 4000000
noncomputable section
namespace Go.Z
open Go Go.Abs Go.Proofs
theorem q0z:∀ {l:List qb},cellsOf ((l.map zd).flatMap qa.flat)=pcl l
 | []=>rfl
 |p::l=>by
  rw[List.map_cons,List.flatMap_cons,qbj,←q0z]
  simp only[cellsOf,List.map_append]
  rfl
theorem qsw:∀ {l:List qb},((l.map zd).flatMap qa.flat).all qcg=true
 | []=>rfl
 |p::l=>by
  rw[List.map_cons,List.flatMap_cons,List.all_append,qsw]
  rfl
theorem q8l {h0 r:Nat}{h h':ze}{l:List qb}(hn:newBox h0 h r (.cells (pcl l))=some h'):qcn h0 h r (sl 8 zd (some l)) true=some ⟨.ms (h0+r) 0 l.length,false,none,h'⟩:=by
 show qcn h0 h r (.list false 8 (l.map zd)) true=_
 simp only[qcn,qsw,cT,q0z,hn,List.length_map]
 rfl
theorem qyi:∀ {l:List qb},qcv 8 l.length ((pcl l).map (·.1))=l.map zd
 | []=>rfl
 |p::l=>by
  rw[qbj,List.map_append,List.length_cons]
  have e:(pc8 p).map (·.1)=[.str p.name,.str p.kd,.int .i64 p.pa,.int .i64 p.pb,.int .i64 p.sa,.int .i64 p.sb,.int .i64 p.cost,.int .i64 p.stock]:=rfl
  rw[e]
  show qa.agg _::qcv 8 l.length ((pcl l).map (·.1))=_
  rw[qyi]
  rfl
theorem qxz:∀ {l:List qb},(pcl l).all (fun c=>qcg c.1)=true
 | []=>rfl
 |p::l=>by
  rw[qbj,List.all_append,qxz]
  rfl
theorem q01 {h:ze}{b:Nat}{l:List qb}(hb:yi h b=some (pcl l))(hl:0<l.length):qhn h (.ms b 0 l.length)=some (sl 8 zd (some l)):=by
 have e:(pcl l).length / l.length=8:=by rw[qh4,Nat.mul_comm];exact Nat.mul_div_cancel _ hl
 unfold qhn
 simp only[hb]
 have e2:Nat.beq (l.length*8) (pcl l).length=true:=by rw[qh4];exact Nat.beq_refl _
 rw[e,e2,qxz]
 show some (qa.list false 8 (qcv 8 l.length ((pcl l).map (·.1))))=_
 rw[qyi]
 rfl
end Go.Z
namespace Go.Z
open Go Go.Abs Go.Proofs
def qlr (a b:qq)(n:Nat)(ch:Option (List Int))(s:Int×List qb):qd:=⟨[(6,.ms 2 0 n,false),(15,sl 1 zg ch,false),(16,.int .i64 ((ch.getD []).length:Int),false),(17,.int .i64 s.1,false)],[a,b,.cells (pcl s.2)]⟩
def qox (a b:qq)(n:Nat)(ch:Option (List Int)):List qb⊕(Int×List qb)→qj×qd
 | .inl l=>(.ret,⟨[(4,.list true 0 [],false),(5,.bool false,false)],[a,b,.cells (pcl l)]⟩)
 | .inr s=>(.exit 0,⟨[(6,.ms 2 0 n,false),(15,sl 1 zg ch,false),(16,.int .i64 ((ch.getD []).length:Int),false),(17,.int .i64 s.1,false),(18,.bool false,false)],[a,b,.cells (pcl s.2)]⟩)
theorem jrw (a b:qq)(n:Nat)(ch:Option (List Int))(s r)(h:qeo n ch s=some r):yt prY qfh (qlr a b n ch) (qox a b n ch) s r:=by
 unfold qeo at h
 rcases j4 h with⟨h1,k⟩|⟨h1,k⟩
 ·obtain⟨c,h2,k⟩:=j0 k
  obtain⟨p,h3,k⟩:=j0 k
  rcases j4 k with⟨h4,k⟩|⟨h4,k⟩
  ·cases k
   have h4':p.stock=0:=by simpa using h4
   exact zc (by simp only[go_sem,seval,qfh,qlr,qox,h1,zm h2,qfp h3,qhb h3,h4,h4']<;>rfl)
  ·cases k
   have h4':¬p.stock=0:=by simpa using h4
   exact qby (st':=⟨[(6,.ms 2 0 n,false),(15,sl 1 zg ch,false),(16,.int .i64 ((ch.getD []).length:Int),false),(17,.int .i64 (j9 .i64 (s.1+1)),false)],[a,b,.cells (pcl (s.2.set c.toNat (qa3 p (j9 .i64 (p.stock-1)))))]⟩) (by simp only[go_sem,seval,qfh,qlr,h1,zm h2,qfp h3,qhb h3,qsp h3,h4,h4']<;>rfl) (qfw (Nat.le_refl _))
 ·cases k
  exact zc (by simp only[go_sem,seval,qfh,qlr,h1,qox]<;>rfl)
theorem jrh (a b:qq)(n:Nat)(ch:Option (List Int)){s d}(h:itO (qeo n ch) s=some d):X prY (.loop qfh) (qlr a b n ch s)=some (qox a b n ch d):=kg (jrw a b n ch) (fun d=>by rcases d with d|d<;>(intro hh;cases hh)) h
theorem j2a {a b:qq}{ps:Option (List qb)}{ch:Option (List Int)}{r}(h:f138 ps ch=some r):∃l,ye prY (X prY) 138 [sl 8 zd ps,sl 1 zg ch] [a,b]=some (.tup [match r.1 with|some m=>.ms 2 0 m.length|none=>.list true 0 [],.bool r.2],false,[a,b,.cells (pcl l)])∧∀m,r.1=some m→l=m:=by
 unfold f138 at h
 rw[kr (show prY.fns 138=some c138 from rfl) (by simp)]
 rcases j4 h with⟨h1,k⟩|⟨h1,k⟩
 ·have hn:(ps.getD []).length≤1073741824:=of_decide_eq_true h1
  obtain⟨d,h2,k⟩:=j0 k
  have wl:=jrh a b (ps.getD []).length ch h2
  cases d with
  |inl l=>
   cases k
   refine⟨l,?_,fun m hm=>by cases hm⟩
   simp only[qlr,qox]at wl
   simp only[go_sem,seval,c138,q8o hn,q9v,wl]<;>rfl
  |inr s=>
   dsimp only at k
   rcases j4 k with⟨h3,k⟩|⟨h3,k⟩
   ·cases k
    have h3':s.2.length=(ps.getD []).length:=of_decide_eq_true h3
    refine⟨s.2,?_,fun m hm=>Option.some.inj hm⟩
    simp only[qlr,qox]at wl
    simp only[go_sem,seval,c138,q8o hn,q9v,wl,h3']<;>rfl
   ·cases k
 ·cases k
set_option maxHeartbeats 1000000
def gd (ps:List qb)(bs:List qi)(c:List Int):Prop:=(flt ps bs c).isNone=true
theorem jij {ps:List qb}{bs:List qi}{s:BS}{c:List Int}(h:s.2.2=true):(qcl ps bs s c).2.2=true∧(qcl ps bs s c).2.1≤s.2.1:=by
 unfold qcl
 split
 ·next h1=>
  rw[h]at h1
  simp only[Bool.not_true,Bool.false_or,Bool.and_eq_true,decide_eq_true_eq]at h1
  refine⟨rfl,?_⟩
  show cst ps c≤s.2.1
  omega
 ·exact⟨h,Int.le_refl _⟩
theorem q64 {ps:List qb}{bs:List qi}:∀ {L:List (List Int)} {s:BS},s.2.2=true→(L.foldl (qcl ps bs) s).2.2=true∧(L.foldl (qcl ps bs) s).2.1≤s.2.1
 | [],s,h=>⟨h,Int.le_refl _⟩
 |c::L,s,h=>by
  rw[List.foldl_cons]
  obtain⟨h1,h2⟩:=jij (ps:=ps) (bs:=bs) (c:=c) h
  obtain⟨h3,h4⟩:=q64 (L:=L) h1
  exact⟨h3,by omega⟩
theorem q7i {ps:List qb}{bs:List qi}{c:List Int}(hg:gd ps bs c):∀ {L:List (List Int)} {s:BS},c∈L→(L.foldl (qcl ps bs) s).2.2=true∧(L.foldl (qcl ps bs) s).2.1≤cst ps c
 | [],s,h=>by cases h
 |x::L,s,h=>by
  rw[List.foldl_cons]
  rcases List.mem_cons.1 h with rfl|h
  ·have:(qcl ps bs s c).2.2=true∧(qcl ps bs s c).2.1≤cst ps c:=by
    unfold qcl
    rw[show(flt ps bs c).isNone=true from hg,Bool.true_and]
    split
    ·exact⟨rfl,Int.le_refl _⟩
    ·next h1=>
     simp only[Bool.or_eq_true,Bool.not_eq_true',decide_eq_true_eq,not_or,Bool.not_eq_false]at h1
     exact⟨h1.1,by omega⟩
   obtain⟨h3,h4⟩:=q64 (ps:=ps) (bs:=bs) (L:=L) this.1
   exact⟨h3,by omega⟩
  ·exact q7i hg h
theorem q7e {ps:List qb}{bs:List qi}:∀ {L:List (List Int)} {s:BS},(L.foldl (qcl ps bs) s).2.2=true→(L.foldl (qcl ps bs) s)=s∨∃c∈L,gd ps bs c∧(L.foldl (qcl ps bs) s)=(za c,cst ps c,true)
 | [],s,_=>.inl rfl
 |x::L,s,h=>by
  rw[List.foldl_cons]at h ⊢
  rcases q7e h with h1|⟨c,h1,h2,h3⟩
  ·rw[h1]
   unfold qcl
   split
   ·next h2=>
    simp only[Bool.and_eq_true]at h2
    exact .inr ⟨x,List.mem_cons_self ..,h2.1,rfl⟩
   ·exact .inl rfl
  ·exact .inr ⟨c,List.mem_cons_of_mem _ h1,h2,h3⟩
theorem q21 {ps:List qb}{bs:List qi}{L:List (List Int)}(h:(qax ps bs L).2.2=true):∃c∈L,gd ps bs c∧qax ps bs L=(za c,cst ps c,true):=by
 rcases q7e h with h1|h1
 ·have e:qax ps bs L=(none,0,false):=h1
  rw[e]at h;cases h
 ·exact h1
theorem qmy {ps ps':List qb}{bs bs':List qi}{L L':List (List Int)}(hm:∀c∈L,gd ps bs c→∃c'∈L',gd ps' bs' c'∧cst ps' c'≤cst ps c)(h:(qax ps bs L).2.2=true):(qax ps' bs' L').2.2=true∧(qax ps' bs' L').2.1≤(qax ps bs L).2.1:=by
 obtain⟨c,h1,h2,h3⟩:=q21 h
 obtain⟨c',k1,k2,k3⟩:=hm c h1 h2
 obtain⟨j1,j2⟩:=q7i k2 (L:=L') (s:=(none,0,false)) k1
 refine⟨j1,?_⟩
 rw[h3]
 show(qax ps' bs' L').2.1≤cst ps c
 have:(qax ps' bs' L').2.1≤cst ps' c':=j2
 omega
theorem q0m {ps ps':List qb}{bs bs':List qi}{L L':List (List Int)}(hm:∀c∈L,gd ps bs c→∃c'∈L',gd ps' bs' c'∧cst ps' c'≤cst ps c)(hm':∀c∈L',gd ps' bs' c→∃c'∈L,gd ps bs c'∧cst ps c'≤cst ps' c):(qax ps bs L).2=(qax ps' bs' L').2:=by
 cases h:(qax ps bs L).2.2 with
 |true=>
  obtain⟨h1,h2⟩:=qmy hm h
  obtain⟨_,h3⟩:=qmy hm' h1
  exact Prod.ext (show(qax ps bs L).2.1=(qax ps' bs' L').2.1 by omega) (by rw[h,h1])
 |false=>
  cases h':(qax ps' bs' L').2.2 with
  |true=>
   have:=(qmy hm' h').1
   rw[h]at this;cases this
  |false=>exact Prod.ext (by rw[(qy5 h).2,(qy5 h').2]) (by rw[h,h'])
theorem qu5 {ls:List (List ql)}:∀ {bs:List qi} {i:Nat},qdy ls i bs=none↔∀b∈bs,∀x∈ls,qcd b x=true
 | [],i=>⟨fun _ _ h=>(by cases h),fun _=>rfl⟩
 |b::bs,i=>by
  simp only[qdy]
  cases hf:ls.find? (fun x=>!qcd b x)with
  |some x=>
   refine⟨fun h=>(by cases h),fun h=>?_⟩
   have h1:=List.find?_some hf
   have h2:=h b (List.mem_cons_self ..) x (List.mem_of_find?_eq_some hf)
   simp[h2]at h1
  |none=>
   have h1:∀x∈ls,qcd b x=true:=fun x hx=>by
    have:=List.find?_eq_none.1 hf x hx
    simpa using this
   show qdy ls (i+1) bs=none↔_
   rw[qu5]
   constructor
   ·intro h c hc
    rcases List.mem_cons.1 hc with rfl|hc
    ·exact h1
    ·exact h c hc
   ·intro h c hc
    exact h c (List.mem_cons_of_mem _ hc)
theorem qxo {ps:List qb}{bs:List qi}{c:List Int}:gd ps bs c↔∀b∈bs,∀x∈qbk false (qf3 ps c) [],qcd b x=true:=by
 unfold gd flt
 rw[Option.isNone_iff_eq_none]
 exact qu5
def qcc (b:qi):qi:=⟨b.w,0,1,b.mn,b.md⟩
theorem jxc:qcs ⟨0,1⟩=0:=by
 unfold qcs low
 decide
theorem jep {b:qi}(h:qdg b=0):qdg (qcc b)=0∧qdr (bMo (qcc b)) (bLe (qcc b))=false:=by
 obtain⟨h1,h2,h3⟩:=qgp h
 obtain⟨⟨h4,h5⟩,h6,h7⟩:=qkd h3
 refine⟨?_,?_⟩
 ·refine qao.2 fun x hx=>?_
  simp only[List.mem_cons,List.not_mem_nil,or_false]at hx
  rcases hx with rfl|rfl|rfl
  ·exact h1
  ·exact jxc
  ·exact h3
 ·unfold qdr bMo bLe qcc
  have h4':0≤b.mn:=h4
  exact dF (by dsimp only;omega)
theorem q5d:∀ {l:List qi} {last:Int},qfb last l=0→qfb last (l.map qcc)=0
 | [],_,_=>rfl
 |b::l,last,h=>by
  rw[List.map_cons]
  unfold qfb at h ⊢
  split at h
  ·next h1=>
   obtain⟨k1,k2⟩:=jep h1
   rw[if_pos k1,k2,Bool.false_or]
   split at h
   ·cases h
   ·next h2=>
    simp only[Bool.or_eq_true,decide_eq_true_eq,not_or]at h2
    show(if decide (b.w≤last)=true then 11 else qfb b.w (l.map qcc))=0
    rw[dF h2.2]
    exact q5d h
  ·next h1=>exact absurd h h1
theorem jj9 {l:List qi}(h:qdq l=0):qdq (l.map qcc)=0:=by
 obtain⟨⟨h1,h2⟩,_⟩:=qg0 h
 unfold qdq at h ⊢
 rw[List.length_map]
 rw[if_neg (by omega),if_neg (by omega)]at h ⊢
 exact q5d h
theorem jel {b:qi}{x:List ql}(hb:qdg b=0)(hx:qa0 x=0)(h:qcd b x=true):qcd (qcc b) x=true:=by
 unfold qcd at h ⊢
 simp only[Bool.and_eq_true,Bool.not_eq_true',decide_eq_true_eq]at h ⊢
 obtain⟨⟨h1,h2⟩,h3⟩:=h
 refine⟨⟨h1,?_⟩,h3⟩
 rcases qzw hx (qgp hb).1 with k|⟨_,k⟩
 ·have h1':(lev b.w x).2=0:=h1
  rw[h1']at k;cases k
 ·obtain⟨k1,k2,k3,k4⟩:=k
  unfold qdr bLe qcc
  exact dF (by dsimp only;omega)
theorem jnv {ps:List qb}{bs:List qi}{c:List Int}(hb:qdq bs=0)(hx:∀x∈qbk false (qf3 ps c) [],qa0 x=0)(h:gd ps bs c):gd ps (bs.map qcc) c:=by
 rw[qxo]at h ⊢
 intro b hm x hxm
 obtain⟨a,ha,rfl⟩:=List.mem_map.1 hm
 exact jel ((qg0 hb).2 a ha) (hx x hxm) (h a ha x hxm)
theorem jgd:∀ {l:List qi} {a b:Int},b≤a→qfb a l=0→qfb b l=0
 | [],_,_,_,_=>rfl
 |x::l,a,b,hab,h=>by
  unfold qfb at h ⊢
  split at h
  ·next h1=>
   rw[if_pos h1]
   split at h
   ·cases h
   ·next h2=>
    simp only[Bool.or_eq_true,decide_eq_true_eq,not_or]at h2
    rw[if_neg (by simp only[Bool.or_eq_true,decide_eq_true_eq,not_or];exact⟨h2.1,by omega⟩)]
    exact h
  ·next h1=>exact absurd h h1
theorem jeb {l:List qi}(h:qdq l=0)(h1:1<l.length):qdq (l.drop 1)=0:=by
 obtain⟨⟨_,h8⟩,hb⟩:=qg0 h
 cases l with
 |nil=>simp at h1
 |cons b l=>
  rw[List.length_cons]at h1 h8
  unfold qdq at h ⊢
  rw[List.length_cons,if_neg (by omega),if_neg (by omega)]at h
  rw[show(b::l).drop 1=l from rfl,if_neg (by omega),if_neg (by omega)]
  have hw:=(qdf (qgp (hb b (List.mem_cons_self ..))).1).1
  unfold qfb at h
  split at h
  ·split at h
   ·cases h
   ·exact jgd (by omega) h
  ·next h1=>exact absurd h h1
theorem ji5 {ps:List qb}{bs:List qi}{c:List Int}(h:gd ps bs c):gd ps (bs.drop 1) c:=by
 rw[qxo]at h ⊢
 exact fun b hb=>h b (List.mem_of_mem_drop hb)
def mor (p:qb):qb:=qa3 p (min 100 (p.stock+1))
theorem jcx {p:qb}{x:Int}(h:qaz p=0)(h0:0≤x)(h1:x≤100):qaz (qa3 p x)=0:=by
 unfold qaz at h ⊢
 split at h
 ·next ha=>
  have k:qha (qa3 p x)=0:=by
   refine qao.2 fun y hy=>?_
   have ha':=qao.1 ha
   simp only[List.mem_cons,List.not_mem_nil,or_false]at hy
   rcases hy with rfl|rfl|rfl|rfl|rfl|rfl
   ·exact ha' _ (by simp[qa3])
   ·exact ha' _ (by simp[qa3])
   ·exact ha' _ (by simp[qa3])
   ·exact ha' _ (by simp[qa3])
   ·exact ha' _ (by simp[qa3])
   ·exact qfn.2 ⟨h0,h1⟩
  rw[if_pos k]
  exact h
 ·next ha=>exact absurd h ha
theorem jf4 {p:qb}(h:qaz p=0):qaz (mor p)=0:=by
 have:=qc9 h
 exact jcx h (by omega) (by omega)
theorem q3m:∀ {l:List qb} {seen:List (List UInt8)},qgj seen l=0→qgj seen (l.map mor)=0
 | [],_,_=>rfl
 |p::l,seen,h=>by
  rw[List.map_cons]
  unfold qgj at h ⊢
  split at h
  ·next h1=>
   obtain⟨k1,k2⟩:=qmh h1
   have k3:y9 [qaz (mor p),qbg (decide ((mor p).name∈seen)) 9]=0:=qao.2 fun x hx=>by
    simp only[List.mem_cons,List.not_mem_nil,or_false]at hx
    rcases hx with rfl|rfl
    ·exact jf4 k1
    ·exact k2
   rw[if_pos k3]
   exact q3m h
  ·next h1=>exact absurd h h1
theorem jjo {l:List qb}(h:qb2 l=0):qb2 (l.map mor)=0:=by
 have h6:=(qca h).1
 unfold qb2 at h ⊢
 rw[List.length_map]
 rw[if_neg (by omega)]at h ⊢
 exact q3m h
theorem q4p {ps:List qb}:∀ {c:List Int},qf3 (ps.map mor) c=(qf3 ps c).map mor
 | []=>rfl
 |i::c=>by
  show(match(ps.map mor)[i.toNat]? with|some p=>[p]|none=>[])++qf3 (ps.map mor) c=List.map mor ((match ps[i.toNat]? with|some p=>[p]|none=>[])++qf3 ps c)
  rw[List.map_append,q4p,List.getElem?_map]
  cases ps[i.toNat]?<;>rfl
theorem q69:∀ {qs:List qb} {x:List ql},qbk false (qs.map mor) x=qbk false qs x
 | [],x=>rfl
 |p::qs,x=>by
  show(ki p false).flatMap (fun v=>qbk false (qs.map mor) (x++[v]))=(ki p false).flatMap (fun v=>qbk false qs (x++[v]))
  congr 1
  funext v
  exact q69
theorem jef {qs:List qb}:qce (qs.map mor)=qce qs:=by
 unfold qce
 rw[List.foldl_map]
 rfl
theorem jlt {ps:List qb}{bs:List qi}{c:List Int}(h:gd ps bs c):gd (ps.map mor) bs c:=by
 rw[qxo]at h ⊢
 rw[q4p,q69]
 exact h
theorem ji4 {ps:List qb}{c:List Int}:cst (ps.map mor) c=cst ps c:=by
 unfold cst
 rw[q4p,jef]
theorem qjb {l:List qb}:qey l=true↔∀p∈l,0≤p.stock:=by
 unfold qey
 rw[List.all_eq_true]
 constructor
 ·intro h p hp
  have:=h p hp
  simp only[Bool.not_eq_true',decide_eq_false_iff_not]at this
  omega
 ·intro h p hp
  have:=h p hp
  rw[dF (by omega)];rfl
theorem qfj {l:List qb}{c:Int}{i:Nat}:(qb3 l c)[i]?=if c.toNat=i then l[i]?.map (fun p=>qa3 p (p.stock-1))else l[i]?:=by
 unfold qb3
 split
 ·next p hp=>
  by_cases h:c.toNat=i
  ·subst h
   rw[if_pos rfl,hp,List.getElem?_set_self (List.getElem?_eq_some_iff.1 hp).1];rfl
  ·rw[if_neg h,List.getElem?_set_ne h]
 ·next hp=>
  by_cases h:c.toNat=i
  ·subst h
   rw[if_pos rfl,hp];rfl
  ·rw[if_neg h]
def leS (l m:List qb):Prop:=∀(i:Nat) (q:qb),m[i]?=some q→∃p:qb,l[i]?=some p∧p.stock≤q.stock
theorem jih {l m:List qb}{c:Int}(h:leS l m):leS (qb3 l c) (qb3 m c):=by
 intro i q hq
 rw[qfj]at hq
 by_cases hi:c.toNat=i
 ·rw[if_pos hi]at hq
  cases hm:m[i]? with
  |none=>rw[hm]at hq;cases hq
  |some y=>
   rw[hm]at hq
   obtain⟨p,h1,h2⟩:=h i y hm
   refine⟨qa3 p (p.stock-1),by rw[qfj,if_pos hi,h1];rfl,?_⟩
   have:qa3 y (y.stock-1)=q:=Option.some.inj hq
   subst this
   show p.stock-1≤y.stock-1
   omega
 ·rw[if_neg hi]at hq
  obtain⟨p,h1,h2⟩:=h i q hq
  exact⟨p,by rw[qfj,if_neg hi,h1],h2⟩
theorem q2x:∀ {ch:List Int} {l m:List qb},leS l m→leS (qbq l ch) (qbq m ch)
 | [],_,_,h=>h
 |c::ch,l,m,h=>q2x (ch:=ch) (jih h)
theorem jn6 {l m:List qb}(h:leS l m)(ho:qey l=true):qey m=true:=by
 rw[qjb]at ho ⊢
 intro q hq
 obtain⟨i,hi⟩:=List.getElem?_of_mem hq
 obtain⟨p,h1,h2⟩:=h i q hi
 have:=ho p (List.mem_of_getElem? h1)
 omega
theorem qpk {l:List qb}{c:List Int}:qd2 l c=qey (qbq l c):=by
 unfold qd2 qeg
 split
 ·next h=>rw[h];rfl
 ·next h=>simp only[Option.isSome_none];simpa using h
theorem jj2 {l m:List qb}{c:List Int}(h:leS l m)(hs:qd2 l c=true):qd2 m c=true:=by
 rw[qpk]at hs ⊢
 exact jn6 (q2x h) hs
theorem q7b {ps:List qb}{c:List Int}{i:Nat}(hi:i<ps.length)(hs:qd2 ps (c++[(i:Int)])=true):c++[(i:Int)]∈qec ps c:=List.mem_flatMap.2 ⟨i,List.mem_range.2 hi,by rw[if_pos hs];exact List.mem_singleton.2 rfl⟩
theorem jcc {l m:List qb}(hl:l.length=m.length)(h:leS l m):∀ {k:Nat} {c:List Int},c∈lvl l k→c∈lvl m k
 |0,c,hc=>hc
 |k+1,c,hc=>by
  obtain⟨a,ha,hx⟩:=List.mem_flatMap.1 hc
  obtain⟨i,hi,rfl,hs⟩:=qh2 hx
  exact List.mem_flatMap.2 ⟨a,jcc hl h ha,q7b (by omega) (jj2 h hs)⟩
theorem jb1 {l m:List qb}(hl:l.length=m.length)(h:leS l m):∀ {k:Nat} {c:List Int},c∈chE l k→c∈chE m k
 |0,c,hc=>hc
 |k+1,c,hc=>by
  rcases List.mem_append.1 hc with hc|hc
  ·exact List.mem_append.2 (.inl (jb1 hl h hc))
  ·exact List.mem_append.2 (.inr (jcc hl h hc))
theorem jjy {l:List qb}(h:∀p∈l,qaz p=0):leS l (l.map mor):=by
 intro i q hq
 rw[List.getElem?_map]at hq
 cases hl:l[i]? with
 |none=>rw[hl]at hq;cases hq
 |some p=>
  rw[hl]at hq
  have hqe:mor p=q:=Option.some.inj hq
  subst hqe
  have:=qc9 (h p (List.mem_of_getElem? hl))
  refine⟨p,rfl,?_⟩
  show p.stock≤min 100 (p.stock+1)
  omega
def qex (l:List qb)(c:Int):List qb:=match l[c.toNat]? with
 |some p=>l.set c.toNat (qa3 p (p.stock+1))
 |none=>l
def jgy (l:List qb)(ch:List Int):List qb:=ch.foldl qex l
theorem qv7 {l:List qb}{c:Int}{i:Nat}:(qex l c)[i]?=if c.toNat=i then l[i]?.map (fun p=>qa3 p (p.stock+1))else l[i]?:=by
 unfold qex
 split
 ·next p hp=>
  by_cases h:c.toNat=i
  ·subst h
   rw[if_pos rfl,hp,List.getElem?_set_self (List.getElem?_eq_some_iff.1 hp).1];rfl
  ·rw[if_neg h,List.getElem?_set_ne h]
 ·next hp=>
  by_cases h:c.toNat=i
  ·subst h
   rw[if_pos rfl,hp];rfl
  ·rw[if_neg h]
theorem jd4 {l:List qb}{c:Int}:(qex l c).length=l.length:=by
 unfold qex
 split
 ·exact List.length_set
 ·rfl
theorem jb0 {p:qb}{x:Int}:qa3 (qa3 p x) p.stock=p:=rfl
theorem jiu {l:List qb}{c:Int}:qex (qb3 l c) c=l:=by
 refine List.ext_getElem? fun i=>?_
 rw[qv7,qfj]
 by_cases h:c.toNat=i
 ·rw[if_pos h,if_pos h]
  cases l[i]? with
  |none=>rfl
  |some p=>
   show some (qa3 (qa3 p (p.stock-1)) ((p.stock-1)+1))=some p
   rw[show p.stock-1+1=p.stock by omega,jb0]
 ·rw[if_neg h,if_neg h]
theorem jgv {l:List qb}{a c:Int}:qex (qb3 l a) c=qb3 (qex l c) a:=by
 refine List.ext_getElem? fun i=>?_
 rw[qv7,qfj,qfj,qv7]
 by_cases h:c.toNat=i
 ·by_cases h':a.toNat=i
  ·rw[if_pos h,if_pos h',if_pos h',if_pos h]
   cases l[i]? with
   |none=>rfl
   |some p=>
    show some (qa3 (qa3 p (p.stock-1)) ((p.stock-1)+1))=some (qa3 (qa3 p (p.stock+1)) ((p.stock+1)-1))
    rw[show p.stock-1+1=p.stock+1-1 by omega];rfl
  ·rw[if_pos h,if_neg h',if_neg h',if_pos h]
 ·rw[if_neg h]
  by_cases h':a.toNat=i
  ·rw[if_pos h',if_pos h',if_neg h]
  ·rw[if_neg h',if_neg h',if_neg h]
theorem q3r {c:Int}:∀ {ch:List Int} {l:List qb},qex (qbq l ch) c=qbq (qex l c) ch
 | [],l=>rfl
 |a::ch,l=>by
  show qex (qbq (qb3 l a) ch) c=qbq (qb3 (qex l c) a) ch
  rw[q3r,jgv]
theorem q3g:∀ {ch:List Int} {l:List qb},jgy (qbq l ch) ch=l
 | [],l=>rfl
 |c::ch,l=>by
  show jgy (qex (qbq (qb3 l c) ch) c) ch=l
  rw[q3r,jiu,q3g]
def qj4 (Q:Nat→Bool):Nat→List qb→List qb
 |_,[]=>[]
 |i,p::l=>if Q i then qj4 Q (i+1) l else p::qj4 Q (i+1) l
def qdh (l:List qb):List qb:=qj4 (qf2 l) 0 l
theorem qwb {Q:Nat→Bool}:∀ {l:List qb} {i:Nat},(qj4 Q i l).Sublist l
 | [],_=>List.Sublist.slnil
 |p::l,i=>by
  unfold qj4
  split
  ·exact(qwb (l:=l) (i:=i+1)).cons p
  ·exact(qwb (l:=l) (i:=i+1)).cons_cons p
theorem q4l {Q:Nat→Bool}{p:qb}:∀ {l:List qb} {i k:Nat},l[k]?=some p→Q (i+k)=false→p∈qj4 Q i l
 | [],i,k,h,_=>by cases h
 |x::l,i,0,h,hq=>by
  have hx:x=p:=by simpa using h
  subst hx
  unfold qj4
  rw[show Q i=false from hq]
  exact List.mem_cons_self ..
 |x::l,i,k+1,h,hq=>by
  have h':l[k]?=some p:=by simpa using h
  have:=q4l (i:=i+1) h' (by rw[show i+1+k=i+(k+1) by omega];exact hq)
  unfold qj4
  split
  ·exact this
  ·exact List.mem_cons_of_mem _ this
theorem qv3:∀ {l m:List qb} {s t:List (List UInt8)},m.Sublist l→(∀x∈t,x∈s)→qgj s l=0→qgj t m=0
 | [],m,s,t,hm,_,_=>by
  obtain rfl:=List.eq_nil_of_sublist_nil hm
  rfl
 |p::l,m,s,t,hm,ht,h=>by
  unfold qgj at h
  split at h
  ·next h1=>
   obtain⟨k1,k2⟩:=qmh h1
   cases hm with
   |cons _ hm=>exact qv3 hm (fun x hx=>List.mem_append.2 (.inl (ht x hx))) h
   |cons_cons _ hm=>
    have hn:p.name ∉ s:=by
     intro hin
     rw[dT hin]at k2
     cases k2
    have hn':p.name ∉ t:=fun hin=>hn (ht _ hin)
    unfold qgj
    rw[dF hn',k1]
    rw[if_pos (by decide)]
    refine qv3 hm (fun x hx=>?_) h
    rcases List.mem_append.1 hx with hx|hx
    ·exact List.mem_append.2 (.inl (ht x hx))
    ·exact List.mem_append.2 (.inr hx)
  ·next h1=>exact absurd h h1
theorem few_sub {l:List qb}:(qdh l).Sublist l:=qwb
theorem jj5 {l:List qb}(h:qb2 l=0):qb2 (qdh l)=0:=by
 have h6:=(qca h).1
 have hl:=(few_sub (l:=l)).length_le
 unfold qb2 at h ⊢
 rw[if_neg (by omega)]at h ⊢
 exact qv3 few_sub (fun x hx=>hx) h
theorem q6z {ps:List qb}(hp:∀p∈ps,qaz p=0){c:List Int}(h:c∈chE ps 1):c=[]∨∃(i:Nat) (p:qb),ps[i]?=some p∧1≤p.stock∧c=[(i:Int)]:=by
 rcases List.mem_append.1 h with h|h
 ·exact .inl (List.mem_singleton.1 h)
 ·obtain⟨a,ha,hx⟩:=List.mem_flatMap.1 h
  obtain rfl:=List.mem_singleton.1 ha
  obtain⟨i,hi,rfl,hs⟩:=qh2 hx
  refine .inr ⟨i,ps[i],List.getElem?_eq_getElem hi,?_,rfl⟩
  rw[qpk,qjb]at hs
  have:qa3 ps[i] (ps[i].stock-1)∈qbq ps ([]++[(i:Int)]):=by
   refine List.mem_of_getElem? (i:=i) ?_
   show(qb3 ps (i:Int))[i]?=_
   rw[qfj,if_pos (by simp),List.getElem?_eq_getElem hi];rfl
  have h1:=hs _ this
  have h2:0≤ps[i].stock-1:=h1
  omega
theorem jc0 {ps:List qb}(hp:∀p∈ps,qaz p=0){i:Nat}{p:qb}(hi:ps[i]?=some p)(hs:1≤p.stock):[(i:Int)]∈chE ps 1:=by
 refine List.mem_append.2 (.inr (List.mem_flatMap.2 ⟨[],List.mem_singleton.2 rfl,?_⟩))
 refine q7b (c:=[]) (List.getElem?_eq_some_iff.1 hi).1 ?_
 rw[qpk,qjb]
 intro q hq
 obtain⟨k,hk⟩:=List.getElem?_of_mem hq
 have hk':(qb3 ps (i:Int))[k]?=some q:=hk
 rw[qfj]at hk'
 split at hk'
 ·next h=>
  have:i=k:=by simpa using h
  subst this
  rw[hi]at hk'
  have:qa3 p (p.stock-1)=q:=Option.some.inj hk'
  subst this
  show 0≤p.stock-1
  omega
 ·have:=qc9 (hp q (List.mem_of_getElem? hk'))
  omega
theorem jcm {ps:List qb}{i:Nat}{p:qb}(hi:ps[i]?=some p):qf3 ps [(i:Int)]=[p]:=by
 show(match ps[((i:Int)).toNat]? with|some p=>[p]|none=>[])++[]=_
 rw[show((i:Int)).toNat=i from rfl,hi];rfl
theorem q7f {p:qb}{x:List ql}:x∈qbk false [p] []↔∃v∈ki p false,x=[v]:=by
 show x∈(ki p false).flatMap (fun v=>[[]++[v]])↔_
 rw[List.mem_flatMap]
 simp
theorem quf {ps:List qb}{i:Nat}{p:qb}(hi:ps[i]?=some p):cst ps [(i:Int)]=p.cost:=by
 unfold cst qce
 rw[jcm hi]
 show 0+p.cost=p.cost
 omega
theorem qw2 {ps:List qb}{bs:List qi}{i:Nat}{p:qb}(hi:ps[i]?=some p):gd ps bs [(i:Int)]↔∀b∈bs,∀v∈ki p false,qcd b [v]=true:=by
 rw[qxo,jcm hi]
 constructor
 ·intro h b hb v hv
  exact h b hb [v] (q7f.2 ⟨v,hv,rfl⟩)
 ·intro h b hb x hx
  obtain⟨v,hv,rfl⟩:=q7f.1 hx
  exact h b hb v hv
theorem qyo {ps ps':List qb}{bs:List qi}(h:gd ps bs []):gd ps' bs []:=h
theorem qt0 {ps:List qb}:cst ps []=0:=rfl
theorem q7l {x y:ql}:eqE x y=true↔x=y:=by
 unfold eqE
 simp only[Bool.and_eq_true,decide_eq_true_eq]
 constructor
 ·rintro ⟨⟨h1,h2⟩,h3⟩
  cases x;cases y
  simp_all
 ·rintro rfl
  exact⟨⟨rfl,rfl⟩,rfl⟩
theorem q43 {l:List ql}{x:ql}:qpv l x=true↔x∈l:=by
 unfold qpv
 rw[List.any_eq_true]
 constructor
 ·rintro ⟨e,h1,h2⟩
  rw[←q7l.1 h2];exact h1
 ·intro h
  exact⟨x,h,q7l.2 rfl⟩
theorem q8c {p q:qb}:qlg p q=true↔∀v∈ki p false,v∈ki q false:=by
 unfold qlg
 rw[List.all_eq_true]
 exact⟨fun h v hv=>q43.1 (h v hv),fun h v hv=>q43.2 (h v hv)⟩
theorem qpt {p q:qb}:qew p q=true↔(∀v∈ki p false,v∈ki q false)∧p.cost≤q.cost∧q.stock≤p.stock:=by
 unfold qew
 simp only[Bool.and_eq_true,decide_eq_true_eq,q8c,and_assoc]
theorem qv9 {p:qb}:qew p p=true:=qpt.2 ⟨fun _ h=>h,Int.le_refl _,Int.le_refl _⟩
theorem qm9 {p q r:qb}(h:qew p q=true)(h':qew q r=true):qew p r=true:=by
 obtain⟨h1,h2,h3⟩:=qpt.1 h
 obtain⟨k1,k2,k3⟩:=qpt.1 h'
 exact qpt.2 ⟨fun v hv=>k1 v (h1 v hv),by omega,by omega⟩
theorem qmn {l:List qb}{i k:Nat}:qh5 l i k=true↔∃o p,l[k]?=some o∧l[i]?=some p∧k≠i∧qew o p=true∧(k<i∨qew p o=false):=by
 unfold qh5
 cases h1:l[k]? with
 |none=>simp
 |some o=>
  cases h2:l[i]? with
  |none=>simp
  |some p=>
   simp only[Bool.and_eq_true,Bool.or_eq_true,Bool.not_eq_true',decide_eq_true_eq,decide_eq_false_iff_not,Option.some.injEq]
   constructor
   ·rintro ⟨h3,h4,h5⟩
    exact⟨o,p,rfl,rfl,by omega,h4,h5.imp (fun h=>by omega) id⟩
   ·rintro ⟨o',p',rfl,rfl,h3,h4,h5⟩
    exact⟨by omega,h4,h5.imp (fun h=>by omega) id⟩
theorem q74 {l:List qb}{a b c:Nat}(h:qh5 l b a=true)(h':qh5 l c b=true):qh5 l c a=true:=by
 obtain⟨x,y,h1,h2,h3,h4,h5⟩:=qmn.1 h
 obtain⟨y',z,k1,k2,k3,k4,k5⟩:=qmn.1 h'
 rw[h2]at k1
 obtain rfl:=Option.some.inj k1
 have hxz:=qm9 h4 k4
 have key:a<c∨qew z x=false:=by
  cases hzx:qew z x with
  |false=>exact .inr rfl
  |true=>
   have e1:qew z y=true:=qm9 hzx h4
   have e2:qew y x=true:=qm9 k4 hzx
   left
   rw[e1]at k5
   rw[e2]at h5
   have m1:a<b:=by rcases h5 with h5|h5;exact h5;cases h5
   have m2:b<c:=by rcases k5 with k5|k5;exact k5;cases k5
   omega
 refine qmn.2 ⟨x,z,h1,k2,?_,hxz,key⟩
 intro hac
 subst hac
 rw[h1]at k2
 obtain rfl:=Option.some.inj k2
 rcases key with k|k
 ·omega
 ·rw[qv9]at k;cases k
theorem jet {l:List qb}{a:Nat}:qh5 l a a=false:=by
 cases h:qh5 l a a with
 |false=>rfl
 |true=>
  obtain⟨_,_,_,_,h3,_⟩:=qmn.1 h
  exact absurd rfl h3
theorem q28 {p q:Nat→Bool}{a:Nat}(hpa:p a=false)(hqa:q a=true)(hpq:∀x,p x=true→q x=true):∀ {l:List Nat},a∈l→l.countP p<l.countP q
 | [],h=>by cases h
 |x::l,h=>by
  have hle:l.countP p≤l.countP q:=List.countP_mono_left fun x _ hx=>hpq x hx
  rw[List.countP_cons,List.countP_cons]
  by_cases hx:x=a
  ·subst hx
   rw[hpa,hqa]
   simp;omega
  ·have hm:a∈l:=by
    rcases List.mem_cons.1 h with h|h
    ·exact absurd h.symm hx
    ·exact h
   have ih:=q28 hpa hqa hpq hm
   cases hp:p x with
   |true=>rw[hpq x hp];simp;omega
   |false=>simp;omega
theorem q5h {l:List qb}:∀(n i:Nat) (p:qb),(List.range l.length).countP (qh5 l i)≤n→l[i]?=some p→∃(m:Nat) (q:qb),l[m]?=some q∧qf2 l m=false∧qew q p=true:=by
 intro n
 induction n with
 |zero=>
  intro i p hc hi
  refine⟨i,p,hi,?_,qv9⟩
  cases hd:qf2 l i with
  |false=>rfl
  |true=>
   obtain⟨k,h1,h2⟩:=List.any_eq_true.1 hd
   have:=List.countP_pos_iff.2 ⟨k,h1,h2⟩
   omega
 |succ n ih=>
  intro i p hc hi
  cases hd:qf2 l i with
  |false=>exact⟨i,p,hi,hd,qv9⟩
  |true=>
   obtain⟨k,h1,h2⟩:=List.any_eq_true.1 hd
   obtain⟨o,p',k1,k2,k3,k4,k5⟩:=qmn.1 h2
   rw[hi]at k2
   obtain rfl:=Option.some.inj k2
   have hlt:=q28 (p:=qh5 l k) (q:=qh5 l i) (a:=k) jet h2 (fun x hx=>q74 hx h2) h1
   obtain⟨m,q,j1,j2,j3⟩:=ih k o (by omega) k1
   exact⟨m,q,j1,j2,qm9 j3 k4⟩
theorem jek {l:List qb}{bs:List qi}(hp:∀p∈l,qaz p=0):(qax (qdh l) bs (chE (qdh l) 1)).2=(qax l bs (chE l 1)).2:=by
 have hq:∀p∈qdh l,qaz p=0:=fun p h=>hp p (few_sub.subset h)
 refine q0m (fun c hc hg=>?_) (fun c hc hg=>?_)
 ·rcases q6z hq hc with rfl|⟨i,p,h1,h2,rfl⟩
  ·exact⟨[],List.mem_append.2 (.inl (List.mem_singleton.2 rfl)),qyo hg,by rw[qt0,qt0];omega⟩
  ·obtain⟨k,hk⟩:=List.getElem?_of_mem (few_sub.subset (List.mem_of_getElem? h1))
   exact⟨[(k:Int)],jc0 hp hk h2,(qw2 hk).2 ((qw2 h1).1 hg),by rw[quf hk,quf h1];omega⟩
 ·rcases q6z hp hc with rfl|⟨i,p,h1,h2,rfl⟩
  ·exact⟨[],List.mem_append.2 (.inl (List.mem_singleton.2 rfl)),qyo hg,by rw[qt0,qt0];omega⟩
  ·obtain⟨m,q,k1,k2,k3⟩:=q5h _ i p (Nat.le_refl _) h1
   obtain⟨j1,j2,j3⟩:=qpt.1 k3
   obtain⟨k,hk⟩:=List.getElem?_of_mem (show q∈qdh l from q4l (Q:=qf2 l) (i:=0) k1 (by rw[Nat.zero_add];exact k2))
   exact⟨[(k:Int)],jc0 hq hk (by omega),(qw2 hk).2 fun b hb v hv=>(qw2 h1).1 hg b hb v (j1 v hv),by rw[quf hk,quf h1];exact j2⟩
theorem jbt {l:List qb}{bs:List qi}:(qax (qdh l) bs (chE (qdh l) 0)).2=(qax l bs (chE l 0)).2:=q0m (fun c hc hg=>by
  obtain rfl:=List.mem_singleton.1 hc
  exact⟨[],List.mem_singleton.2 rfl,qyo hg,Int.le_refl _⟩) (fun c hc hg=>by
  obtain rfl:=List.mem_singleton.1 hc
  exact⟨[],List.mem_singleton.2 rfl,qyo hg,Int.le_refl _⟩)
end Go.Z
namespace Go.Z
open Go Go.Abs Go.Proofs
def dc5 (b:qi):List (qa×Bool):=[(.int .i64 b.w,false),(.int .i64 b.ln,false),(.int .i64 b.ld,false),(.int .i64 b.mn,false),(.int .i64 b.md,false)]
def dcl (l:List qi):List (qa×Bool):=l.flatMap dc5
theorem qei {p:qi}{l:List qi}:dcl (p::l)=dc5 p++dcl l:=by simp[dcl]
theorem qyt:∀ {l:List qi},(dcl l).length=l.length*5
 | []=>rfl
 |p::l=>by rw[qei,List.length_append,qyt,List.length_cons];show 5+_=_;omega
theorem jaw:∀ {l:List qi} {i:Nat} {b:qi},l[i]?=some b→qab (dcl l) (i*5+1) [.int .i64 0,.int .i64 1]=some (dcl (l.set i (qcc b)))
 | [],i,p,h=>by simp at h
 |q::l,0,p,h=>by
  simp only[List.getElem?_cons_zero,Option.some.injEq]at h
  subst h
  rw[List.set_cons_zero,qei,qei]
  rfl
 |q::l,i+1,p,h=>by
  simp only[List.getElem?_cons_succ]at h
  rw[List.set_cons_succ,qei,qei,show(i+1)*5+1=(dc5 q).length+(i*5+1) by show _=5+_;omega,jb4,jaw h]
  rfl
def qvt (n:Nat)(l:List qi)(i:Int):Option qi:=if 0≤i∧i<n then l[i.toNat]? else none
theorem q0n {n:Nat}{l:List qi}{i:Int}{v:qi}(hv:qvt n l i=some v):0≤i∧i<n∧l[i.toNat]?=some v:=by
 unfold qvt at hv
 split at hv
 ·next hi=>exact⟨hi.1,hi.2,hv⟩
 ·cases hv
theorem jiv {h:ze}{n b:Nat}{k:IntKind}{l:List qi}{i:Int}{v:qi}(hv:qvt n l i=some v):ql1 5 h (some (.ms b 0 n)) (some (.int k i))=some ⟨.ptr b (i.toNat*5),false,none,h⟩:=by
 obtain⟨h1,h2,_⟩:=q0n hv
 simp only[ql1,qib,qzn h1 h2,val,Nat.zero_add]
theorem jnp {n:Nat}{l:List qi}{i:Int}{v:qi}(hv:qvt n l i=some v):qab (dcl l) (i.toNat*5+1) [.int .i64 0,.int .i64 1]=some (dcl (l.set i.toNat (qcc v))):=jaw (q0n hv).2.2
theorem q0l:∀ {l:List qi},cellsOf ((l.map yf).flatMap qa.flat)=dcl l
 | []=>rfl
 |p::l=>by
  rw[List.map_cons,List.flatMap_cons,qei,←q0l]
  simp only[cellsOf,List.map_append]
  rfl
theorem q0d:∀ {l:List qi},((l.map yf).flatMap qa.flat).all qcg=true
 | []=>rfl
 |p::l=>by
  rw[List.map_cons,List.flatMap_cons,List.all_append,q0d]
  rfl
theorem qxb {h0 r:Nat}{h h':ze}{l:List qi}(hn:newBox h0 h r (.cells (dcl l))=some h'):qcn h0 h r (sl 5 yf (some l)) true=some ⟨.ms (h0+r) 0 l.length,false,none,h'⟩:=by
 show qcn h0 h r (.list false 5 (l.map yf)) true=_
 simp only[qcn,q0d,cT,q0l,hn,List.length_map]
 rfl
theorem qw4:∀ {l:List qi},qcv 5 l.length ((dcl l).map (·.1))=l.map yf
 | []=>rfl
 |p::l=>by
  rw[qei,List.map_append,List.length_cons]
  have e:(dc5 p).map (·.1)=[.int .i64 p.w,.int .i64 p.ln,.int .i64 p.ld,.int .i64 p.mn,.int .i64 p.md]:=rfl
  rw[e]
  show qa.agg _::qcv 5 l.length ((dcl l).map (·.1))=_
  rw[qw4]
  rfl
theorem qwp:∀ {l:List qi},(dcl l).all (fun c=>qcg c.1)=true
 | []=>rfl
 |p::l=>by
  rw[qei,List.all_append,qwp]
  rfl
theorem q00 {h:ze}{b:Nat}{l:List qi}(hb:yi h b=some (dcl l))(hl:0<l.length):qhn h (.ms b 0 l.length)=some (sl 5 yf (some l)):=by
 have e:(dcl l).length / l.length=5:=by rw[qyt,Nat.mul_comm];exact Nat.mul_div_cancel _ hl
 unfold qhn
 simp only[hb]
 have e2:Nat.beq (l.length*5) (dcl l).length=true:=by rw[qyt];exact Nat.beq_refl _
 rw[e,e2,qwp]
 show some (qa.list false 5 (qcv 5 l.length ((dcl l).map (·.1))))=_
 rw[qw4]
 rfl
def qiw (n:Nat)(s:Int×List qi):Option ((Int×List qi)⊕(Int×List qi)):=
 cond (decide (s.1<(n:Int)))
  (j5 (qvt n s.2 s.1) fun v=>some (.inl (j9 .i64 (s.1+1),s.2.set s.1.toNat (qcc v))))
  (some (.inr s))
section
variable (P B X':qa)(z c e:Int)
def qof (n:Nat)(s:Int×List qi):qd:=⟨[(0,P,false),(1,B,false),(7,.int .i64 z,false),(8,X',false),(9,.int .i64 c,false),(10,.int .i64 e,false),(11,.ms 0 0 n,false),(83,.int .i64 (n:Int),false),(84,.int .i64 s.1,false)],[.cells (dcl s.2)]⟩
def qrp (n:Nat)(s:Int×List qi):qj×qd:=(.exit 0,⟨[(0,P,false),(1,B,false),(7,.int .i64 z,false),(8,X',false),(9,.int .i64 c,false),(10,.int .i64 e,false),(11,.ms 0 0 n,false),(83,.int .i64 (n:Int),false),(84,.int .i64 s.1,false),(85,.bool false,false)],[.cells (dcl s.2)]⟩)
theorem jqy (n:Nat)(s:Int×List qi)(r)(h:qiw n s=some r):yt prY qyr (qof P B X' z c e n) (qrp P B X' z c e n) s r:=by
 unfold qiw at h
 rcases j4 h with⟨h1,h⟩|⟨h1,h⟩
 ·obtain⟨v,h2,h⟩:=j0 h
  cases h
  exact qby (st':=⟨[(0,P,false),(1,B,false),(7,.int .i64 z,false),(8,X',false),(9,.int .i64 c,false),(10,.int .i64 e,false),(11,.ms 0 0 n,false),(83,.int .i64 (n:Int),false),(84,.int .i64 (j9 .i64 (s.1+1)),false)],[.cells (dcl (s.2.set s.1.toNat (qcc v)))]⟩) (by simp only[go_sem,seval,qyr,qof,h1,jiv h2,jnp h2]<;>rfl) (qfw (Nat.le_refl _))
 ·cases h
  exact zc (by simp only[go_sem,seval,qyr,qof,h1,qrp]<;>rfl)
theorem jhx (n:Nat){s:Int×List qi}{r}(h:itO (qiw n) s=some r):X prY (.loop qyr) (qof P B X' z c e n s)=some (qrp P B X' z c e n r):=kg (jqy P B X' z c e n) (fun d hh=>by cases hh) h
def qkh (n:Nat)(s:Int×List qb):Option ((Int×List qb)⊕(Int×List qb)):=
 cond (decide (s.1<(n:Int)))
  (j5 (qe6 n s.2 s.1) fun v=>some (.inl (j9 .i64 (s.1+1),s.2.set s.1.toNat (qa3 v (min 100 (j9 .i64 (v.stock+1)))))))
  (some (.inr s))
def qsy (w:qq)(nb n:Nat)(s:Int×List qb):qd:=⟨[(0,P,false),(1,B,false),(7,.int .i64 z,false),(8,X',false),(9,.int .i64 c,false),(10,.int .i64 e,false),(11,.ms 0 0 nb,false),(13,.ms 1 0 n,false),(96,.int .i64 (n:Int),false),(97,.int .i64 s.1,false)],[w,.cells (pcl s.2)]⟩
def qyb (w:qq)(nb n:Nat)(s:Int×List qb):qj×qd:=(.exit 2,⟨[(0,P,false),(1,B,false),(7,.int .i64 z,false),(8,X',false),(9,.int .i64 c,false),(10,.int .i64 e,false),(11,.ms 0 0 nb,false),(13,.ms 1 0 n,false),(96,.int .i64 (n:Int),false),(97,.int .i64 s.1,false),(98,.bool false,false)],[w,.cells (pcl s.2)]⟩)
theorem jw9 (w:qq)(nb n:Nat)(s:Int×List qb)(r)(h:qkh n s=some r):yt prY qqn (qsy P B X' z c e w nb n) (qyb P B X' z c e w nb n) s r:=by
 unfold qkh at h
 rcases j4 h with⟨h1,h⟩|⟨h1,h⟩
 ·obtain⟨v,h2,h⟩:=j0 h
  cases h
  exact qby (st':=⟨[(0,P,false),(1,B,false),(7,.int .i64 z,false),(8,X',false),(9,.int .i64 c,false),(10,.int .i64 e,false),(11,.ms 0 0 nb,false),(13,.ms 1 0 n,false),(96,.int .i64 (n:Int),false),(97,.int .i64 (j9 .i64 (s.1+1)),false)],[w,.cells (pcl (s.2.set s.1.toNat (qa3 v (min 100 (j9 .i64 (v.stock+1))))))]⟩) (by simp only[go_sem,seval,qqn,qsy,h1,qfp h2,qhb h2,qsp h2]<;>rfl) (qfw (Nat.le_refl _))
 ·cases h
  exact zc (by simp only[go_sem,seval,qqn,qsy,h1,qyb]<;>rfl)
theorem jwu (w:qq)(nb n:Nat){s:Int×List qb}{r}(h:itO (qkh n) s=some r):X prY (.loop qqn) (qsy P B X' z c e w nb n s)=some (qyb P B X' z c e w nb n r):=kg (jw9 P B X' z c e w nb n) (fun d hh=>by cases hh) h
def qko (x:Option (List Int))(n:Nat)(s:Int×List qb):Option ((Int×List qb)⊕(Int×List qb)):=
 cond (decide (s.1<((x.getD []).length:Int)))
  (j5 (yo (x.getD []) s.1) fun i=>cond (decide (i<0)) none (cond (decide ((n:Int)≤i)) none (j5 (qe6 n s.2 i) fun v=>some (.inl (j9 .i64 (s.1+1),s.2.set i.toNat (qa3 v (j9 .i64 (v.stock+1))))))))
  (some (.inr s))
def qs0 (a b:qq)(x:Option (List Int))(n:Nat)(s:Int×List qb):qd:=⟨[(0,P,false),(38,.ms 2 0 n,false),(268,sl 1 zg x,false),(269,.int .i64 ((x.getD []).length:Int),false),(270,.int .i64 s.1,false)],[a,b,.cells (pcl s.2)]⟩
def qxg (a b:qq)(x:Option (List Int))(n:Nat)(s:Int×List qb):qj×qd:=(.exit 6,⟨[(0,P,false),(38,.ms 2 0 n,false),(268,sl 1 zg x,false),(269,.int .i64 ((x.getD []).length:Int),false),(270,.int .i64 s.1,false),(271,.bool false,false)],[a,b,.cells (pcl s.2)]⟩)
theorem jt0 (a b:qq)(x:Option (List Int))(n:Nat)(s:Int×List qb)(r)(h:qko x n s=some r):yt prY qxv (qs0 P a b x n) (qxg P a b x n) s r:=by
 unfold qko at h
 rcases j4 h with⟨h1,h⟩|⟨h1,h⟩
 ·obtain⟨i,h2,h⟩:=j0 h
  rcases j4 h with⟨h3,h⟩|⟨h3,h⟩
  ·cases h
  ·rcases j4 h with⟨h4,h⟩|⟨h4,h⟩
   ·cases h
   ·obtain⟨v,h5,h⟩:=j0 h
    cases h
    exact qby (st':=⟨[(0,P,false),(38,.ms 2 0 n,false),(268,sl 1 zg x,false),(269,.int .i64 ((x.getD []).length:Int),false),(270,.int .i64 (j9 .i64 (s.1+1)),false)],[a,b,.cells (pcl (s.2.set i.toNat (qa3 v (j9 .i64 (v.stock+1)))))]⟩) (by simp only[go_sem,seval,qxv,qs0,h1,zm h2,h3,h4,qfp h5,qhb h5,qsp h5]<;>rfl) (qfw (Nat.le_refl _))
 ·cases h
  exact zc (by simp only[go_sem,seval,qxv,qs0,h1,qxg]<;>rfl)
theorem js9 (a b:qq)(x:Option (List Int))(n:Nat){s:Int×List qb}{r}(h:itO (qko x n) s=some r):X prY (.loop qxv) (qs0 P a b x n s)=some (qxg P a b x n r):=kg (jt0 P a b x n) (fun d hh=>by cases hh) h
end
end Go.Z
end
