/- Chapter 4. -/
import Derived.Test.YtnjngdcbkkonnaaGreatDoorA8
import Derived.Test.YtnjngdcbkkonnaaGreatDoorZL
import Derived.Test.YtnjngdcbkkonnaaGreatDoorZP
import Derived.Test.YtnjngdcbkkonnaaGreatDoorPB
set_option linter.unusedVariables false
set_option linter.unusedSimpArgs false
set_option maxRecDepth 100000
set_option maxHeartbeats 4000000
noncomputable section
namespace Go.Z
open Go Go.Abs Go.Proofs
def pc8 (p:qb):List (qa×Bool):=[(.str p.name,false),(.str p.kd,false),(.int .i64 p.pa,false),(.int .i64 p.pb,false),(.int .i64 p.sa,false),(.int .i64 p.sb,false),(.int .i64 p.cost,false),(.int .i64 p.stock,false)]
def pcl (l:List qb):List (qa×Bool):=l.flatMap pc8
theorem qbj {p:qb}{l:List qb}:pcl (p::l)=pc8 p++pcl l:=by simp[pcl]
theorem qh4:∀ {l:List qb},(pcl l).length=l.length*8
 | []=>rfl
 |p::l=>by rw[qbj,List.length_append,qh4,List.length_cons];show 8+_=_;omega
def qa3 (p:qb)(x:Int):qb:={ p with stock:=x }
theorem jnl {c:List (qa×Bool)}{cs:List (qa×Bool)}{o n:Nat}:qam (c++cs) (c.length+o) n=qam cs o n:=by
 simp only[q4r,List.length_append]
 by_cases h:o+n≤cs.length
 ·simp only[h,show c.length+o+n≤c.length+cs.length by omega,decide_true,jf0]
  rw[List.drop_append,List.drop_eq_nil_of_le (by omega)]
  simp
 ·simp only[h,show ¬c.length+o+n≤c.length+cs.length by omega,decide_false,ldC]
theorem jb4 {c:List (qa×Bool)}{cs:List (qa×Bool)}{o:Nat}{vs:List qa}:qab (c++cs) (c.length+o) vs=(qab cs o vs).map (c++·):=by
 simp only[qq6,List.length_append]
 by_cases h:o+vs.length≤cs.length
 ·simp only[h,show c.length+o+vs.length≤c.length+cs.length by omega,decide_true,Bool.true_and]
  cases vs.all zh with
  |false=>rfl
  |true=>
   simp only[q3z,Option.map_some]
   congr 1
   rw[List.take_append,List.take_of_length_le (by omega),List.drop_append,List.drop_eq_nil_of_le (by omega)]
   simp[Nat.add_assoc]
 ·simp only[h,show ¬c.length+o+vs.length≤c.length+cs.length by omega,decide_false,Bool.false_and,stC]
  rfl
theorem jc6:∀ {l:List qb} {i:Nat} {p:qb},l[i]?=some p→qam (pcl l) (i*8+7) 1=some [.int .i64 p.stock]
 | [],i,p,h=>by simp at h
 |q::l,0,p,h=>by
  simp only[List.getElem?_cons_zero,Option.some.injEq]at h
  subst h
  rw[qbj]
  rfl
 |q::l,i+1,p,h=>by
  simp only[List.getElem?_cons_succ]at h
  rw[qbj,show(i+1)*8+7=(pc8 q).length+(i*8+7) by show _=8+_;omega,jnl,jc6 h]
theorem jc9:∀ {l:List qb} {i:Nat} {p:qb} {x:Int},l[i]?=some p→qab (pcl l) (i*8+7) [.int .i64 x]=some (pcl (l.set i (qa3 p x)))
 | [],i,p,x,h=>by simp at h
 |q::l,0,p,x,h=>by
  simp only[List.getElem?_cons_zero,Option.some.injEq]at h
  subst h
  rw[List.set_cons_zero,qbj,qbj]
  rfl
 |q::l,i+1,p,x,h=>by
  simp only[List.getElem?_cons_succ]at h
  rw[List.set_cons_succ,qbj,qbj,show(i+1)*8+7=(pc8 q).length+(i*8+7) by show _=8+_;omega,jb4,jc9 h]
  rfl
def qe6 (n:Nat)(l:List qb)(i:Int):Option qb:=if 0≤i∧i<n then l[i.toNat]? else none
theorem qss {n:Nat}{l:List qb}{i:Int}{v:qb}(hv:qe6 n l i=some v):0≤i∧i<n∧l[i.toNat]?=some v:=by
 unfold qe6 at hv
 split at hv
 ·next hi=>exact⟨hi.1,hi.2,hv⟩
 ·cases hv
section
variable {p:qo}{xc:XC}{h0:Nat}{al:Option (List Nat)}{e:Env}{h:ze}
theorem qfp {n b:Nat}{k:IntKind}{l:List qb}{i:Int}{v:qb}(hv:qe6 n l i=some v):ql1 8 h (some (.ms b 0 n)) (some (.int k i))=some ⟨.ptr b (i.toNat*8),false,none,h⟩:=by
 obtain⟨h1,h2,_⟩:=qss hv
 simp only[ql1,qib,qzn h1 h2,val,Nat.zero_add]
theorem qhb {n:Nat}{l:List qb}{i:Int}{v:qb}(hv:qe6 n l i=some v):qam (pcl l) (i.toNat*8+7) 1=some [.int .i64 v.stock]:=jc6 (qss hv).2.2
theorem qsp {n:Nat}{l:List qb}{i x:Int}{v:qb}(hv:qe6 n l i=some v):qab (pcl l) (i.toNat*8+7) [.int .i64 x]=some (pcl (l.set i.toNat (qa3 v x))):=jc9 (qss hv).2.2
def qqt:qb:=⟨[],[],0,0,0,0,0,0⟩
theorem q5j {n:Nat}:cellsOf (List.replicate n [qa.str [],.str [],.int .i64 0,.int .i64 0,.int .i64 0,.int .i64 0,.int .i64 0,.int .i64 0]).flatten=pcl (List.replicate n qqt):=by
 induction n with
 |zero=>rfl
 |succ n ih=>
  simp only[List.replicate_succ,List.flatten_cons,qbj]
  simp only[cellsOf]at ih ⊢
  simp only[List.map_append,ih];rfl
theorem q8o {r b n:Nat}(hn:n≤1073741824):q92 h0 r 8 b [.str [],.str [],.int .i64 0,.int .i64 0,.int .i64 0,.int .i64 0,.int .i64 0,.int .i64 0] h (some (.int .i64 (n:Int))) (some (.int .i64 (n:Int)))=ifR (decide (b≤4096)) (qbx (newBox h0 h r (.cells (pcl (List.replicate n qqt)))) (.ms (h0+r) 0 n)):=by
 show(bif Nat.beq n n&&Nat.ble n 1073741824&&Nat.ble b 4096&&Nat.beq 8 8&&Nat.blt 0 8&&true then _ else _)=_
 simp only[qle,qb0,qdj,hn,decide_true,Bool.true_and,Bool.and_true,show(0:Nat)<8 from by decide]
 rw[q5j]
 by_cases hb:b≤4096
 ·simp only[hb,decide_true,cT,ifR,qbx]
  cases newBox h0 h r (.cells (pcl (List.replicate n qqt)))<;>rfl
 ·simp only[hb,decide_false,cF,ifR]
def q10 (sz len o b:Nat)(vy:qa)(h:ze)(cs:Option (List (qa×Bool))):Option qn:=match cs with
 |some cs=>(match qk6 sz len vy with
  |some (n,vs)=>(match qab cs o vs with
   |some cs'=>bif Nat.beq vs.length (n*sz)then(match yu h b (.cells cs')with
    |some h'=>val h' (.int .i64 n)
    |none=>none)else none
   |none=>none)
  |none=>none)
 |none=>none
@[go_sem] theorem jx9 {sz b o len:Nat}{vy:qa}:q9h h0 al sz h (some (.ms b o len)) (some vy)=ifR (kf h0 al b) (q10 sz len o b vy h (yi h b)):=by
 unfold q9h q10
 simp only[ifR]
 cases kf h0 al b<;>rfl
theorem qwy {l:List qb}:(l.map zd).flatMap qa.flat=(pcl l).map (·.1):=by
 induction l with
 |nil=>rfl
 |cons q l ih=>rw[List.map_cons,List.flatMap_cons,ih,qbj,List.map_append];rfl
theorem jkc {l:List qb}:((pcl l).map (·.1)).all zh=true:=by
 induction l with
 |nil=>rfl
 |cons q l ih=>rw[qbj,List.map_append,List.all_append,ih];rfl
theorem q34 {l:List qb}:((pcl l).map (·.1)).map (·,false)=pcl l:=by
 induction l with
 |nil=>rfl
 |cons q l ih=>rw[qbj,List.map_append,List.map_append,ih];rfl
def jl7 (r:Option ze)(n:Nat):Option qn:=match r with
 |some h'=>some ⟨.int .i64 n,false,none,h'⟩
 |none=>none
@[go_sem] theorem jzd {n:Nat}:jl7 (some h) n=some ⟨.int .i64 n,false,none,h⟩:=rfl
theorem q9v {b:Nat}{o:Option (List qb)}:q10 8 (o.getD []).length 0 b (sl 8 zd o) h (some (pcl (List.replicate (o.getD []).length qqt)))=jl7 (yu h b (.cells (pcl (o.getD [])))) (o.getD []).length:=by
 have hs:qk6 8 (o.getD []).length (sl 8 zd o)=some ((o.getD []).length,(pcl (o.getD [])).map (·.1)):=by
  cases o with
  |none=>rfl
  |some l=>
   show(bif Nat.beq 8 8||(l.map zd).isEmpty then some (min (l.map zd).length l.length,((l.map zd).take l.length).flatMap qa.flat)else none)=_
   rw[show Nat.beq 8 8=true from rfl,Bool.true_or,cT,List.length_map,Nat.min_self,List.take_of_length_le (by rw[List.length_map];exact Nat.le_refl _),qwy]
   rfl
 unfold q10
 simp only[hs]
 have hl:((pcl (o.getD [])).map (·.1)).length=(o.getD []).length*8:=by rw[List.length_map,qh4]
 have hst:qab (pcl (List.replicate (o.getD []).length qqt)) 0 ((pcl (o.getD [])).map (·.1))=some (pcl (o.getD [])):=by
  simp only[qq6,hl,qh4,List.length_replicate,Nat.zero_add,Nat.le_refl,decide_true,jkc,Bool.and_self,q3z]
  rw[List.take_zero,List.nil_append,q34,List.drop_eq_nil_of_le (by rw[qh4,List.length_replicate];exact Nat.le_refl _),List.append_nil]
 simp only[hst,hl,Nat.beq_refl,cT]
 cases yu h b (.cells (pcl (o.getD [])))<;>rfl
theorem jus {r b t:Nat}{o:Option (List qb)}(hn:(o.getD []).length≤1073741824):q16 h0 r 8 b h (some t) (some (.list false 8 [])) (some (sl 8 zd o))=ifR (decide (b≤4096)) (q41 (some t) (.ms (h0+r) 0 (o.getD []).length) (newBox h0 h r (.cells (pcl (o.getD []))))):=by
 have hc:cellsOf (((o.getD []).map zd).flatMap qa.flat)=pcl (o.getD []):=by
  rw[qwy];exact q34
 simp only[q16,Option.isSome_some,qle,decide_true,Bool.and_self,cT,jc3,List.length_map,qb0,qdj,hn,Bool.true_and,hc]
 by_cases hb:b≤4096
 ·simp only[hb,decide_true,Bool.and_self,cT,ifR,q41,show(0:Nat)<8 from by decide]
 ·simp only[hb,decide_false,Bool.false_and,cF,ifR]
theorem q33:∀ {l:List qb},qcv 8 l.length ((pcl l).map (·.1))=l.map zd
 | []=>rfl
 |q::l=>by
  rw[qbj,List.map_append,List.length_cons,List.map_cons,←q33]
  rfl
theorem qwq {s:Nat}{env:Env}{l:List qb}{o:Bool}(hs:Abs.look s env=some (.ms 0 0 l.length,o))(he:(env.all fun y=>Nat.beq y.1 s||Abs.below 0 y.2.1)=true):
  qsa s 8 ⟨env,[.cells (pcl l)]⟩=some ⟨(s,sl 8 zd (some l),false)::env,[]⟩:=by
 unfold qsa
 simp only[hs]
 have h1:((pcl l).all fun c=>Abs.below 0 c.1&&!c.1.isAgg)=true:=by
  rw[List.all_eq_true];intro x hx
  obtain⟨q,_,hq⟩:=List.mem_flatMap.1 hx
  simp only[pc8,List.mem_cons,List.not_mem_nil,or_false]at hq
  rcases hq with rfl|rfl|rfl|rfl|rfl|rfl|rfl|rfl<;>rfl
 have h2:Nat.beq (l.length*8) (pcl l).length=true:=by rw[qh4];exact Nat.beq_refl _
 simp only[h1,h2,he,show Nat.blt 0 8=true from rfl,Bool.and_self,cT]
 rw[q33];rfl
end
def qeo (n:Nat)(ch:Option (List Int))(s:Int×List qb):Option ((Int×List qb)⊕(List qb⊕(Int×List qb))):=
 cond (decide (s.1<((ch.getD []).length:Int))) (j5 (yo (ch.getD []) s.1) fun c=>j5 (qe6 n s.2 c) fun p=>
  cond (decide (p.stock=0)) (some (.inr (.inl s.2))) (some (.inl (j9 .i64 (s.1+1),s.2.set c.toNat (qa3 p (j9 .i64 (p.stock-1))))))) (some (.inr (.inr s)))
def qql (n:Nat)(ch:Option (List Int))(s:Int×List qb):qd:=⟨[(6,.ms 0 0 n,false),(15,sl 1 zg ch,false),(16,.int .i64 ((ch.getD []).length:Int),false),(17,.int .i64 s.1,false)],[.cells (pcl s.2)]⟩
def qtx (n:Nat)(ch:Option (List Int)):List qb⊕(Int×List qb)→qj×qd
 | .inl l=>(.ret,⟨[(4,.list true 0 [],false),(5,.bool false,false)],[.cells (pcl l)]⟩)
 | .inr s=>(.exit 0,⟨[(6,.ms 0 0 n,false),(15,sl 1 zg ch,false),(16,.int .i64 ((ch.getD []).length:Int),false),(17,.int .i64 s.1,false),(18,.bool false,false)],[.cells (pcl s.2)]⟩)
theorem j3a (n:Nat)(ch:Option (List Int))(s r)(h:qeo n ch s=some r):yt pr qfh (qql n ch) (qtx n ch) s r:=by
 unfold qeo at h
 rcases j4 h with⟨h1,k⟩|⟨h1,k⟩
 ·obtain⟨c,h2,k⟩:=j0 k
  obtain⟨p,h3,k⟩:=j0 k
  rcases j4 k with⟨h4,k⟩|⟨h4,k⟩
  ·cases k
   have h4':p.stock=0:=by simpa using h4
   exact zc (by simp only[go_sem,seval,qfh,qql,qtx,h1,zm h2,qfp h3,qhb h3,h4,h4']<;>rfl)
  ·cases k
   have h4':¬p.stock=0:=by simpa using h4
   exact qby (st':=⟨[(6,.ms 0 0 n,false),(15,sl 1 zg ch,false),(16,.int .i64 ((ch.getD []).length:Int),false),(17,.int .i64 (j9 .i64 (s.1+1)),false)],[.cells (pcl (s.2.set c.toNat (qa3 p (j9 .i64 (p.stock-1)))))]⟩) (by simp only[go_sem,seval,qfh,qql,h1,zm h2,qfp h3,qhb h3,qsp h3,h4,h4']<;>rfl) (qfw (Nat.le_refl _))
 ·cases k
  exact zc (by simp only[go_sem,seval,qfh,qql,h1,qtx]<;>rfl)
theorem j2x (n:Nat)(ch:Option (List Int)){s d}(h:itO (qeo n ch) s=some d):X pr (.loop qfh) (qql n ch s)=some (qtx n ch d):=kg (j3a n ch) (fun d=>by rcases d with d|d<;>(intro hh;cases hh)) h
def f138 (ps:Option (List qb))(ch:Option (List Int)):Option (Option (List qb)×Bool):=
 cond (decide ((ps.getD []).length≤1073741824)) (j5 (itO (qeo (ps.getD []).length ch) (0,ps.getD [])) fun d=>match d with
  | .inl _=>some (none,false)
  | .inr s=>cond (decide (s.2.length=(ps.getD []).length)) (some (some s.2,true)) none) none
def sqL:qe→qe
 | .seq a _=>a
 |x=>x
def sqR:qe→qe
 | .seq _ b=>b
 |x=>x
def g138:ja:=.seq (.code (sqL c138.body)) (.seq (.code (sqL (sqR c138.body))) (.seq (.code (sqL (sqR (sqR c138.body)))) (.seq (.code (sqL (sqR (sqR (sqR c138.body))))) (.shut 6 8 (.code (sqR (sqR (sqR (sqR c138.body)))))))))
theorem j3f {ps:Option (List qb)}{ch:Option (List Int)}{r}(h:f138 ps ch=some r):qa6 Tryz.prog 138 [sl 8 zd ps,sl 1 zg ch] (.tup [sl 8 zd r.1,.bool r.2]) false:=by
 unfold f138 at h
 rcases j4 h with⟨h1,k⟩|⟨h1,k⟩
 ·have hn:(ps.getD []).length≤1073741824:=of_decide_eq_true h1
  obtain⟨d,h2,k⟩:=j0 k
  have wl:=j2x (ps.getD []).length ch h2
  have e1:X pr (sqL c138.body) ⟨qbp 0 [sl 8 zd ps,sl 1 zg ch],[]⟩=some (.normal,⟨[(0,sl 8 zd ps,false),(1,sl 1 zg ch,false)],[]⟩):=by simp only[go_sem,seval,c138,sqL]<;>rfl
  have e2:X pr (sqL (sqR c138.body)) ⟨[(0,sl 8 zd ps,false),(1,sl 1 zg ch,false)],[]⟩=some (.normal,⟨[(0,sl 8 zd ps,false),(1,sl 1 zg ch,false),(6,.ms 0 0 (ps.getD []).length,false)],[.cells (pcl (List.replicate (ps.getD []).length qqt))]⟩):=by simp only[go_sem,seval,c138,sqL,sqR,q8o hn]<;>rfl
  have e3:X pr (sqL (sqR (sqR c138.body))) ⟨[(0,sl 8 zd ps,false),(1,sl 1 zg ch,false),(6,.ms 0 0 (ps.getD []).length,false)],[.cells (pcl (List.replicate (ps.getD []).length qqt))]⟩=some (.normal,⟨[(1,sl 1 zg ch,false),(6,.ms 0 0 (ps.getD []).length,false)],[.cells (pcl (ps.getD []))]⟩):=by simp only[go_sem,seval,c138,sqL,sqR,q9v]<;>rfl
  cases d with
  |inl l=>
   cases k
   simp only[qql,qtx]at wl
   have e4:X pr (sqL (sqR (sqR (sqR c138.body)))) ⟨[(1,sl 1 zg ch,false),(6,.ms 0 0 (ps.getD []).length,false)],[.cells (pcl (ps.getD []))]⟩=some (.ret,⟨[(4,.list true 0 [],false),(5,.bool false,false)],[.cells (pcl l)]⟩):=by simp only[go_sem,seval,c138,sqL,sqR,wl]<;>rfl
   have hg:qw pr g138 ⟨qbp 0 [sl 8 zd ps,sl 1 zg ch],[]⟩ .ret ⟨[(4,.list true 0 [],false),(5,.bool false,false)],[.cells (pcl l)]⟩:=.seqN rfl (.code e1) (.seqN rfl (.code e2) (.seqN rfl (.code e3) (.seqX rfl (.code e4) (by intro hh;cases hh))))
   exact qq2 (okM ok0) (show pr.fns 138=some c138 from rfl) (show c138.body=g138.erase from rfl) (by simp[c138]) hg (.inr rfl) (show qaj _ c138.results=some [(.list true 0 [],false),(.bool false,false)]from rfl) rfl rfl
  |inr s=>
   dsimp only at k
   rcases j4 k with⟨h3,k⟩|⟨h3,k⟩
   ·cases k
    have h3':s.2.length=(ps.getD []).length:=of_decide_eq_true h3
    simp only[qql,qtx]at wl
    have e4:X pr (sqL (sqR (sqR (sqR c138.body)))) ⟨[(1,sl 1 zg ch,false),(6,.ms 0 0 (ps.getD []).length,false)],[.cells (pcl (ps.getD []))]⟩=some (.normal,⟨[(6,.ms 0 0 (ps.getD []).length,false),(15,sl 1 zg ch,false),(16,.int .i64 ((ch.getD []).length:Int),false),(17,.int .i64 s.1,false),(18,.bool false,false)],[.cells (pcl s.2)]⟩):=by simp only[go_sem,seval,c138,sqL,sqR,wl]<;>rfl
    have hsh:=qwq (s:=6) (env:=[(6,.ms 0 0 (ps.getD []).length,false),(15,sl 1 zg ch,false),(16,.int .i64 ((ch.getD []).length:Int),false),(17,.int .i64 s.1,false),(18,.bool false,false)]) (l:=s.2) (o:=false) (by rw[h3'];rfl) (by
     have hb:Abs.below 0 (sl 1 zg ch)=true:=by simp only[go_sem,seval]
     show(true&&(Abs.below 0 (sl 1 zg ch)&&(true&&(true&&(true&&true)))))=true
     rw[hb];rfl)
    have e5:X pr (sqR (sqR (sqR (sqR c138.body)))) ⟨(6,sl 8 zd (some s.2),false)::[(6,.ms 0 0 (ps.getD []).length,false),(15,sl 1 zg ch,false),(16,.int .i64 ((ch.getD []).length:Int),false),(17,.int .i64 s.1,false),(18,.bool false,false)],[]⟩=some (.ret,⟨[(4,sl 8 zd (some s.2),false),(5,.bool true,false)],[]⟩):=by simp only[go_sem,seval,c138,sqL,sqR]<;>rfl
    have hg:qw pr g138 ⟨qbp 0 [sl 8 zd ps,sl 1 zg ch],[]⟩ .ret ⟨[(4,sl 8 zd (some s.2),false),(5,.bool true,false)],[]⟩:=.seqN rfl (.code e1) (.seqN rfl (.code e2) (.seqN rfl (.code e3) (.seqN rfl (.code e4) (.shut hsh (.code e5)))))
    exact qq2 (okM ok0) (show pr.fns 138=some c138 from rfl) (show c138.body=g138.erase from rfl) (by simp[c138]) hg (.inr rfl) (show qaj _ c138.results=some [(sl 8 zd (some s.2),false),(.bool true,false)]from rfl) rfl (by
     have hb:Abs.below 0 (sl 8 zd (some s.2))=true:=by simp only[go_sem,seval]
     show(Abs.below 0 (sl 8 zd (some s.2))&&(true&&true))=true
     rw[hb];rfl)
   ·cases k
 ·cases k
def qj6 (n:Nat)(ch:Option (List Int))(s:Int×List qb):Option ((Int×List qb)⊕(Int×List qb)):=
 cond (decide (s.1<((ch.getD []).length:Int))) (j5 (yo (ch.getD []) s.1) fun c=>j5 (qe6 n s.2 c) fun p=>
  some (.inl (j9 .i64 (s.1+1),s.2.set c.toNat (qa3 p (j9 .i64 (p.stock-1)))))) (some (.inr s))
def q3a (n:Nat)(ch:Option (List Int))(s:Int×List qb):qd:=⟨[(1,sl 1 zg ch,false),(6,.ms 0 0 n,false),(7,.int .i64 s.1,false)],[.cells (pcl s.2)]⟩
def jah (n:Nat)(ch:Option (List Int))(s:Int×List qb):qj×qd:=(.exit 0,⟨[(1,sl 1 zg ch,false),(6,.ms 0 0 n,false),(7,.int .i64 s.1,false),(15,.bool false,false)],[.cells (pcl s.2)]⟩)
theorem b72 (n:Nat)(ch:Option (List Int))(s r)(h:qj6 n ch s=some r):yt pr qwd (q3a n ch) (jah n ch) s r:=by
 unfold qj6 at h
 rcases j4 h with⟨h1,k⟩|⟨h1,k⟩
 ·obtain⟨c,h2,k⟩:=j0 k
  obtain⟨p,h3,k⟩:=j0 k
  cases k
  exact qby (st':=⟨[(1,sl 1 zg ch,false),(6,.ms 0 0 n,false),(7,.int .i64 (j9 .i64 (s.1+1)),false)],[.cells (pcl (s.2.set c.toNat (qa3 p (j9 .i64 (p.stock-1)))))]⟩) (by simp only[go_sem,seval,qwd,q3a,h1,zm h2,qfp h3,qhb h3,qsp h3]<;>rfl) (qfw (Nat.le_refl _))
 ·cases k
  exact zc (by simp only[go_sem,seval,qwd,q3a,h1,jah]<;>rfl)
theorem l72 (n:Nat)(ch:Option (List Int)){s d}(h:itO (qj6 n ch) s=some d):X pr (.loop qwd) (q3a n ch s)=some (jah n ch d):=kg (b72 n ch) (fun d hh=>by cases hh) h
def qqg (n:Nat)(l:List qb)(i:Int):Option (Int⊕(Unit⊕Int)):=
 cond (decide (i<(n:Int))) (j5 (qe6 n l i) fun p=>cond (decide (p.stock<0)) (some (.inr (.inl ()))) (some (.inl (j9 .i64 (i+1))))) (some (.inr (.inr i)))
def qqx (n:Nat)(l:List qb)(i:Int):qd:=⟨[(6,.ms 0 0 n,false),(8,.int .i64 i,false)],[.cells (pcl l)]⟩
def qtp (n:Nat)(l:List qb):Unit⊕Int→qj×qd
 | .inl _=>(.ret,⟨[(4,.list true 0 [],false),(5,.bool false,false)],[.cells (pcl l)]⟩)
 | .inr i=>(.exit 2,⟨[(6,.ms 0 0 n,false),(8,.int .i64 i,false),(32,.bool false,false)],[.cells (pcl l)]⟩)
theorem j1b (n:Nat)(l:List qb)(i r)(h:qqg n l i=some r):yt pr qup (qqx n l) (qtp n l) i r:=by
 unfold qqg at h
 rcases j4 h with⟨h1,k⟩|⟨h1,k⟩
 ·obtain⟨p,h3,k⟩:=j0 k
  rcases j4 k with⟨h4,k⟩|⟨h4,k⟩
  ·cases k
   exact zc (by simp only[go_sem,seval,qup,qqx,qtp,h1,qfp h3,qhb h3,h4]<;>rfl)
  ·cases k
   exact qby (st':=⟨[(6,.ms 0 0 n,false),(8,.int .i64 (j9 .i64 (i+1)),false)],[.cells (pcl l)]⟩) (by simp only[go_sem,seval,qup,qqx,h1,qfp h3,qhb h3,h4]<;>rfl) (qfw (Nat.le_refl _))
 ·cases k
  exact zc (by simp only[go_sem,seval,qup,qqx,h1,qtp]<;>rfl)
theorem j4f (n:Nat)(l:List qb){i d}(h:itO (qqg n l) i=some d):X pr (.loop qup) (qqx n l i)=some (qtp n l d):=kg (j1b n l) (fun d=>by rcases d with d|d<;>(intro hh;cases hh)) h
def f72 (ps:Option (List qb))(ch:Option (List Int)):Option (Option (List qb)×Bool):=
 cond (decide ((ps.getD []).length≤1073741824)) (j5 (itO (qj6 (ps.getD []).length ch) (0,ps.getD [])) fun s=>j5 (itO (qqg (ps.getD []).length s.2) 0) fun d=>match d with
  | .inl _=>some (none,false)
  | .inr _=>cond (decide (s.2.length=(ps.getD []).length)) (some (some s.2,true)) none) none
def g72:ja:=.seq (.code (sqL c72.body)) (.seq (.code (sqL (sqR c72.body))) (.seq (.code (sqL (sqR (sqR c72.body)))) (.seq (.code (sqL (sqR (sqR (sqR c72.body))))) (.shut 6 8 (.code (sqR (sqR (sqR (sqR c72.body)))))))))
theorem T72 {ps:Option (List qb)}{ch:Option (List Int)}{r}(h:f72 ps ch=some r):qa6 Tryz.prog 72 [sl 8 zd ps,sl 1 zg ch] (.tup [sl 8 zd r.1,.bool r.2]) false:=by
 unfold f72 at h
 rcases j4 h with⟨h1,k⟩|⟨h1,k⟩
 ·have hn:(ps.getD []).length≤1073741824:=of_decide_eq_true h1
  obtain⟨s,h2,k⟩:=j0 k
  obtain⟨d,h3,k⟩:=j0 k
  have wl:=l72 (ps.getD []).length ch h2
  have wk:=j4f (ps.getD []).length s.2 h3
  simp only[q3a,jah]at wl
  have e1:X pr (sqL c72.body) ⟨qbp 0 [sl 8 zd ps,sl 1 zg ch],[]⟩=some (.normal,⟨[(0,sl 8 zd ps,false),(1,sl 1 zg ch,false)],[]⟩):=by simp only[go_sem,seval,c72,sqL]<;>rfl
  have e2:X pr (sqL (sqR c72.body)) ⟨[(0,sl 8 zd ps,false),(1,sl 1 zg ch,false)],[]⟩=some (.normal,⟨[(1,sl 1 zg ch,false),(6,.ms 0 0 (ps.getD []).length,false)],[.cells (pcl (ps.getD []))]⟩):=by simp only[go_sem,seval,c72,sqL,sqR,jus hn]<;>rfl
  have e3:X pr (sqL (sqR (sqR c72.body))) ⟨[(1,sl 1 zg ch,false),(6,.ms 0 0 (ps.getD []).length,false)],[.cells (pcl (ps.getD []))]⟩=some (.normal,⟨[(1,sl 1 zg ch,false),(6,.ms 0 0 (ps.getD []).length,false),(7,.int .i64 s.1,false),(15,.bool false,false)],[.cells (pcl s.2)]⟩):=by simp only[go_sem,seval,c72,sqL,sqR,wl]<;>rfl
  cases d with
  |inl u=>
   cases k
   simp only[qqx,qtp]at wk
   have e4:X pr (sqL (sqR (sqR (sqR c72.body)))) ⟨[(1,sl 1 zg ch,false),(6,.ms 0 0 (ps.getD []).length,false),(7,.int .i64 s.1,false),(15,.bool false,false)],[.cells (pcl s.2)]⟩=some (.ret,⟨[(4,.list true 0 [],false),(5,.bool false,false)],[.cells (pcl s.2)]⟩):=by simp only[go_sem,seval,c72,sqL,sqR,wk]<;>rfl
   have hg:qw pr g72 ⟨qbp 0 [sl 8 zd ps,sl 1 zg ch],[]⟩ .ret ⟨[(4,.list true 0 [],false),(5,.bool false,false)],[.cells (pcl s.2)]⟩:=.seqN rfl (.code e1) (.seqN rfl (.code e2) (.seqN rfl (.code e3) (.seqX rfl (.code e4) (by intro hh;cases hh))))
   exact qq2 (okM ok0) (show pr.fns 72=some c72 from rfl) (show c72.body=g72.erase from rfl) (by simp[c72]) hg (.inr rfl) (show qaj _ c72.results=some [(.list true 0 [],false),(.bool false,false)]from rfl) rfl rfl
  |inr i=>
   dsimp only at k
   rcases j4 k with⟨h4,k⟩|⟨h4,k⟩
   ·cases k
    have h4':s.2.length=(ps.getD []).length:=of_decide_eq_true h4
    simp only[qqx,qtp]at wk
    have e4:X pr (sqL (sqR (sqR (sqR c72.body)))) ⟨[(1,sl 1 zg ch,false),(6,.ms 0 0 (ps.getD []).length,false),(7,.int .i64 s.1,false),(15,.bool false,false)],[.cells (pcl s.2)]⟩=some (.normal,⟨[(6,.ms 0 0 (ps.getD []).length,false),(8,.int .i64 i,false),(32,.bool false,false)],[.cells (pcl s.2)]⟩):=by simp only[go_sem,seval,c72,sqL,sqR,wk]<;>rfl
    have hsh:=qwq (s:=6) (env:=[(6,.ms 0 0 (ps.getD []).length,false),(8,.int .i64 i,false),(32,.bool false,false)]) (l:=s.2) (o:=false) (by rw[h4'];rfl) rfl
    have e5:X pr (sqR (sqR (sqR (sqR c72.body)))) ⟨(6,sl 8 zd (some s.2),false)::[(6,.ms 0 0 (ps.getD []).length,false),(8,.int .i64 i,false),(32,.bool false,false)],[]⟩=some (.ret,⟨[(4,sl 8 zd (some s.2),false),(5,.bool true,false)],[]⟩):=by simp only[go_sem,seval,c72,sqL,sqR]<;>rfl
    have hg:qw pr g72 ⟨qbp 0 [sl 8 zd ps,sl 1 zg ch],[]⟩ .ret ⟨[(4,sl 8 zd (some s.2),false),(5,.bool true,false)],[]⟩:=.seqN rfl (.code e1) (.seqN rfl (.code e2) (.seqN rfl (.code e3) (.seqN rfl (.code e4) (.shut hsh (.code e5)))))
    exact qq2 (okM ok0) (show pr.fns 72=some c72 from rfl) (show c72.body=g72.erase from rfl) (by simp[c72]) hg (.inr rfl) (show qaj _ c72.results=some [(sl 8 zd (some s.2),false),(.bool true,false)]from rfl) rfl (by
     have hb:Abs.below 0 (sl 8 zd (some s.2))=true:=by simp only[go_sem,seval]
     show(Abs.below 0 (sl 8 zd (some s.2))&&(true&&true))=true
     rw[hb];rfl)
   ·cases k
 ·cases k
end Go.Z
namespace Go.Z
open Go Go.Abs Go.Proofs
theorem q7s {α:Type}{z:Nat}{f:α→qa}(hf:∀a b,f a=f b→a=b):∀ {x y:Option (List α)},sl z f x=sl z f y→x=y:=by
 intro x y h
 cases x with
 |none=>
  cases y with
  |none=>rfl
  |some l=>simp[sl]at h
 |some l=>
  cases y with
  |none=>simp[sl]at h
  |some l'=>
   simp only[sl,qa.list.injEq,true_and]at h
   have:∀l l':List α,l.map f=l'.map f→l=l':=by
    intro l
    induction l with
    |nil=>intro l' h;cases l' with
     |nil=>rfl
     |cons b l'=>simp at h
    |cons a l ih=>intro l' h;cases l' with
     |nil=>simp at h
     |cons b l'=>
      simp only[List.map_cons,List.cons.injEq]at h
      rw[hf a b h.1,ih l' h.2]
   rw[this l l' h]
theorem jb7 (a b:Int)(h:zg a=zg b):a=b:=by simp only[zg,qa.int.injEq,true_and]at h;exact h
theorem q8b (a b:qb)(h:zd a=zd b):a=b:=by
 simp only[zd,qa.agg.injEq,List.cons.injEq,qa.str.injEq,qa.int.injEq,true_and,and_true]at h
 cases a;cases b;simp_all
def A2 (x:Option (List qb)×Option (List Int)):List qa:=[sl 8 zd x.1,sl 1 zg x.2]
theorem jot {x y}(h:A2 x=A2 y):x=y:=by
 simp only[A2,List.cons.injEq,and_true]at h
 obtain⟨a,b⟩:=x
 obtain⟨a',b'⟩:=y
 have e1:=q7s q8b h.1
 have e2:=q7s jb7 h.2
 simp only at e1 e2
 rw[e1,e2]
abbrev FT:=Option (List qb)→Option (List Int)→Option (Option (List qb)×Bool)
def tkT (f:FT):List qa→Option (qa×Bool):=fun args=>open Classical in
 if h:∃x,args=A2 x then(f h.choose.1 h.choose.2).map fun r=>(.tup [sl 8 zd r.1,.bool r.2],false)else none
theorem jbm (f:FT)(x):tkT f (A2 x)=(f x.1 x.2).map fun r=>(.tup [sl 8 zd r.1,.bool r.2],false):=by
 unfold tkT
 have h:∃y,A2 x=A2 y:=⟨x,rfl⟩
 rw[dif_pos h]
 have:=jot h.choose_spec
 rw[←this]
theorem q36 {f:FT}{args:List qa}{v:qa}{o:Bool}(h:tkT f args=some (v,o)):∃x r,args=A2 x∧f x.1 x.2=some r∧v=.tup [sl 8 zd r.1,.bool r.2]∧o=false:=by
 have h0:=h
 unfold tkT at h
 split at h
 ·rename_i hh
  obtain⟨x,rfl⟩:=hh
  rw[jbm,Option.map_eq_some_iff]at h0
  obtain⟨r,h1,h2⟩:=h0
  simp only[Prod.mk.injEq]at h2
  exact⟨x,r,rfl,h1,h2.1.symm,h2.2.symm⟩
 ·cases h
def q9r:qi3:=fun k=>bif Nat.beq k 138 then some (tkT f138)else bif Nat.beq k 72 then some (tkT f72)else none
def opT (k:Nat):Bool:=[68,69,115,37,84,85,120,41,87,88,3,4,5,6,7,8,9,10,11,12,13,14,15].any (Nat.beq k)
def prT:qo:=qcf pr q9r opT
theorem okT:qu Tryz.prog prT:=qv6 (okM ok0) (by
 intro k f hf
 simp only[q9r,Bool.cond_eq_ite]at hf
 split at hf
 ·next hb=>
  cases hf
  obtain rfl:=Nat.eq_of_beq_eq_true hb
  refine⟨qc7 (k:=138) (by kernel_rfl),fun args v o h _ _=>?_⟩
  obtain⟨x,r,rfl,h1,rfl,rfl⟩:=q36 h
  exact j3f h1
 split at hf
 ·next hb=>
  cases hf
  obtain rfl:=Nat.eq_of_beq_eq_true hb
  refine⟨qc7 (k:=72) (by kernel_rfl),fun args v o h _ _=>?_⟩
  obtain⟨x,r,rfl,h1,rfl,rfl⟩:=q36 h
  exact T72 h1
 ·cases hf)
theorem atT {k:Nat}(ho:opT k=false)(hm:q9r k=none){args:List qa}{v:qa}{o:Bool}(h:zb pr (X pr) k args=some (v,o))(hv:Abs.below 0 v=true):zb prT (X prT) k args=some (v,o):=qws ho hm h hv
theorem qzx {a0:Option (List qb)}{a1:Option (List Int)}{r}(h:f138 a0 a1=some r):zb prT (X prT) 138 [sl 8 zd a0,sl 1 zg a1]=some (.tup [sl 8 zd r.1,.bool r.2],false):=by
 have hb:Abs.below 0 (sl 8 zd r.1)=true:=by simp only[go_sem,seval]
 exact qwx (f:=tkT f138) rfl rfl (by have:=jbm f138 (a0,a1);rw[h]at this;exact this) (by
  show(Abs.below 0 (sl 8 zd r.1)&&(true&&true))=true
  rw[hb];rfl)
end Go.Z
end
