/- Chapter 4. -/
import Derived.Test.YtnjngdcbkkonnaaGreatDoorLZ
import Derived.Test.YtnjngdcbkkonnaaGreatDoorA21
import Derived.Test.YtnjngdcbkkonnaaGreatDoorCK
import Derived.Test.YtnjngdcbkkonnaaGreatDoorA16
set_option linter.unusedVariables false
set_option linter.unusedSimpArgs false
set_option maxRecDepth 100000
set_option maxHeartbeats 4000000
namespace Go.Z
open Go Go.Abs
theorem Y30 {a0:TI}{r}(h:f30 a0=some r):zb prY (X prY) 30 [sl 1 zg a0]=some (sl 1 zg r,true):=atY rfl rfl (atT rfl rfl (W30 h) (by first|rfl|simp only[go_sem,seval])) (by first|rfl|simp only[go_sem,seval])
theorem Y70 {a0:TP}{r}(h:f70 a0=some r):zb prY (X prY) 70 [sl 8 zd a0]=some (.tup [sl 1 zg r.1,Iv r.2],false):=atY rfl rfl (atT rfl rfl (W70 h) (by first|rfl|simp only[go_sem,seval])) (by first|rfl|simp only[go_sem,seval])
theorem Y74 {a0:TP}{a1:TP}{r}(h:f74 a0 a1=some r):zb prY (X prY) 74 [sl 8 zd a0,sl 8 zd a1]=some (.bool r,false):=atY rfl rfl (atT rfl rfl (W74 h) (by first|rfl|simp only[go_sem,seval])) (by first|rfl|simp only[go_sem,seval])
theorem Y75 {a0:TP}{r}(h:f75 a0=some r):zb prY (X prY) 75 [sl 8 zd a0]=some (sl 8 zd r.1,r.2):=atY rfl rfl (atT rfl rfl (W75 h) (by first|rfl|simp only[go_sem,seval])) (by first|rfl|simp only[go_sem,seval])
theorem Y76 {a0:TI}{a1:Int}{r}(h:f76 a0 a1=some r):zb prY (X prY) 76 [sl 1 zg a0,Iv a1]=some (.bool r,false):=atY rfl rfl (atT rfl rfl (W76 h) (by first|rfl|simp only[go_sem,seval])) (by first|rfl|simp only[go_sem,seval])
theorem j15 {a0:TP}{a1:TI}{r}(h:f133 a0 a1=some r):zb prY (X prY) 133 [sl 8 zd a0,sl 1 zg a1]=some (Iv r,false):=atY rfl rfl (atT rfl rfl (jz2 h) (by first|rfl|simp only[go_sem,seval])) (by first|rfl|simp only[go_sem,seval])
theorem j0n {a0:Bool}{a1:Int}{r}(h:f106 a0 a1=some r):zb prY (X prY) 106 [.bool a0,Iv a1]=some (Iv r,false):=atY rfl rfl (atT rfl rfl (qmo h) (by first|rfl|simp only[go_sem,seval])) (by first|rfl|simp only[go_sem,seval])
theorem S69 {a b:qq}{ps:TP}{ch:TI}{m:List qb}(h1:f133 ps ch=some 0)(h2:f138 ps ch=some (some m,true)):ye prY (X prY) 69 [sl 8 zd ps,sl 1 zg ch] [a,b]=some (.tup [.ms 2 0 m.length,Iv 0],false,[a,b,.cells (pcl m)]):=by
 have g1:=j15 h1
 obtain⟨l,g2,g3⟩:=j2a (a:=a) (b:=b) h2
 have hl:=g3 m rfl
 subst hl
 have g2':ye prY (X prY) 138 [sl 8 zd ps,sl 1 zg ch] [a,b]=some (.tup [.ms 2 0 l.length,.bool true],false,[a,b,.cells (pcl l)]):=g2
 have hs:qac 2 (.tup [.ms 2 0 l.length,.bool true]) [a,b,.cells (pcl l)]=[a,b,.cells (pcl l)]:=rfl
 have g4:=j0n (a0:=false) (a1:=7) (r:=0) rfl
 rw[kr (show prY.fns 69=some c69 from rfl) (by simp)]
 simp only[go_sem,seval,c69,g1,g2',hs,g4]<;>rfl
theorem jwg {H:ze}{o:TP}{q}(h:f75 o=some q)(hw:∀l,q.1=some l→q.2=true):∃w,qy3 prY (X prY) H 75 (some [sl 8 zd o])=some ⟨sl 8 zd q.1,w,none,H⟩:=by
 have g:=Y75 h
 have hb:yb 0 [sl 8 zd o]=true:=by simp only[go_sem,seval]
 simp only[qy3,hb,cT,g]
 obtain⟨q1,q2⟩:=q
 cases q1 with
 |none=>exact⟨false,rfl⟩
 |some l=>
  have hq:q2=true:=hw l rfl
  subst hq
  refine⟨true,?_⟩
  show(match qzb (.list false 8 (l.map zd)) true with|some (v',o')=>some (⟨v',o',none,H⟩:qn)|none=>none)=_
  simp only[qzb,qsw,cT]
  rfl
theorem K24 {a b:qq}{o x:TI}{P:TP}{l:List qb}{d:Int×List qb}(h1:itO (qko x l.length) (0,l)=some d)(hd:d.2.length=l.length){q}(h2:f75 (some d.2)=some q)(hw:∀l,q.1=some l→q.2=true){r}(h3:f74 q.1 P=some r):
  ∃hh,X prY quc ⟨[(0,sl 8 zd P,false),(8,sl 1 zg x,false),(38,.ms 2 0 l.length,false),(267,.bool false,false)],[a,b,.cells (pcl l)]⟩=some (.ret,⟨[(6,.bool r,false)],hh⟩):=by
 have wl:=js9 (sl 8 zd P) a b x l.length h1
 simp only[qs0,qxg]at wl
 have hf:qbo [a,b,.cells (pcl d.2)] [.ms 2 0 l.length]=some [sl 8 zd (some d.2)]:=by
  have:qhn [a,b,.cells (pcl d.2)] (.ms 2 0 l.length)=some (sl 8 zd (some d.2)):=by
   rw[←hd]
   cases hl:d.2 with
   |nil=>rfl
   |cons y ys=>
    have:=q01 (h:=[a,b,.cells (pcl d.2)]) (b:=2) (l:=d.2) rfl (by rw[hl];exact Nat.succ_pos _)
    rw[hl]at this
    exact this
  simp only[qbo,this]
 obtain⟨w,g2⟩:=jwg (H:=[a,b,.cells (pcl d.2)]) h2 hw
 have g3:=Y74 h3
 refine⟨[a,b,.cells (pcl d.2)],?_⟩
 simp only[go_sem,seval,quc,wl,hf,g2,g3]<;>rfl
noncomputable def qg9 (o:TP)(S:TI)(s:Int×TP×Bool):Option ((Int×TP×Bool)⊕(Int×TP×Bool)):=
 cond (decide (s.1<((o.getD []).length:Int)))
  (j5 (yo (o.getD []) s.1) fun p=>j5 (f76 S s.1) fun t=>
  cond t (some (.inl (j9 .i64 (s.1+1),s.2.1,s.2.2)))
   (cond s.2.2 (j5 (apO s.2.1 [p]) fun v=>some (.inl (j9 .i64 (s.1+1),v,true)))
   (cond s.2.1.isNone (j5 (apO s.2.1 [p]) fun v=>some (.inl (j9 .i64 (s.1+1),v,true))) none)))
  (some (.inr s))
section
variable (o:TP)(bs:TB)(x S:TI)(z e:Int)(a b:qq)
def qf9 (s:Int×TP×Bool):qd:=⟨[(0,sl 8 zd o,false),(1,sl 5 yf bs,false),(7,Iv z,false),(8,sl 1 zg x,false),(10,Iv e,false),(27,sl 1 zg S,false),(29,sl 8 zd s.2.1,s.2.2),(203,sl 8 zd o,false),(204,Lv o,false),(205,Iv s.1,false)],[a,b]⟩
def qx3 (s:Int×TP×Bool):qj×qd:=(.exit 4,⟨[(0,sl 8 zd o,false),(1,sl 5 yf bs,false),(7,Iv z,false),(8,sl 1 zg x,false),(10,Iv e,false),(27,sl 1 zg S,false),(29,sl 8 zd s.2.1,s.2.2),(203,sl 8 zd o,false),(204,Lv o,false),(205,Iv s.1,false),(206,.bool false,false)],[a,b]⟩)
theorem jvp (hab:yl 2 [a,b]=true)(s:Int×TP×Bool)(r)(h:qg9 o S s=some r):yt prY qmt (qf9 o bs x S z e a b) (qx3 o bs x S z e a b) s r:=by
 unfold qg9 at h
 rcases j4 h with⟨h1,h⟩|⟨h1,h⟩
 ·obtain⟨p,h2,h⟩:=j0 h
  obtain⟨t,h3,h⟩:=j0 h
  have g3:=Y76 h3
  rcases j4 h with⟨h4,h⟩|⟨h4,h⟩
  ·cases h
   exact qby (st':=⟨[(0,sl 8 zd o,false),(1,sl 5 yf bs,false),(7,Iv z,false),(8,sl 1 zg x,false),(10,Iv e,false),(27,sl 1 zg S,false),(29,sl 8 zd s.2.1,s.2.2),(203,sl 8 zd o,false),(204,Lv o,false),(205,Iv (j9 .i64 (s.1+1)),false)],[a,b]++[.cells [(.str p.name,false),(.str p.kd,false),(Iv p.pa,false),(Iv p.pb,false),(Iv p.sa,false),(Iv p.sb,false),(Iv p.cost,false),(Iv p.stock,false)]]⟩) (by simp only[go_sem,seval,qmt,qf9,h1,zm h2,g3,h4]<;>rfl) (qh9 rfl rfl (by first|simp only[go_sem,seval,qf9]|rfl) hab)
  rcases j4 h with⟨h5,h⟩|⟨h5,h⟩
  ·obtain⟨v,h6,h⟩:=j0 h
   cases h
   exact qby (st':=⟨[(0,sl 8 zd o,false),(1,sl 5 yf bs,false),(7,Iv z,false),(8,sl 1 zg x,false),(10,Iv e,false),(27,sl 1 zg S,false),(29,sl 8 zd v,true),(203,sl 8 zd o,false),(204,Lv o,false),(205,Iv (j9 .i64 (s.1+1)),false)],[a,b]++[.cells [(.str p.name,false),(.str p.kd,false),(Iv p.pa,false),(Iv p.pb,false),(Iv p.sa,false),(Iv p.sb,false),(Iv p.cost,false),(Iv p.stock,false)]]⟩) (by simp only[go_sem,seval,qmt,qf9,h1,zm h2,g3,h4,h5,qnp h6]<;>rfl) (qh9 rfl rfl (by first|simp only[go_sem,seval,qf9]|rfl) hab)
  rcases j4 h with⟨h7,h⟩|⟨h7,h⟩
  ·obtain⟨v,h6,h⟩:=j0 h
   cases h
   exact qby (st':=⟨[(0,sl 8 zd o,false),(1,sl 5 yf bs,false),(7,Iv z,false),(8,sl 1 zg x,false),(10,Iv e,false),(27,sl 1 zg S,false),(29,sl 8 zd v,true),(203,sl 8 zd o,false),(204,Lv o,false),(205,Iv (j9 .i64 (s.1+1)),false)],[a,b]++[.cells [(.str p.name,false),(.str p.kd,false),(Iv p.pa,false),(Iv p.pb,false),(Iv p.sa,false),(Iv p.sb,false),(Iv p.cost,false),(Iv p.stock,false)]]⟩) (by simp only[go_sem,seval,qmt,qf9,h1,zm h2,g3,h4,h5,qnm h6 h7]<;>rfl) (qh9 rfl rfl (by first|simp only[go_sem,seval,qf9]|rfl) hab)
  cases h
 cases h
 exact zc (by simp only[go_sem,seval,qmt,qf9,h1,qx3]<;>rfl)
theorem jri (hab:yl 2 [a,b]=true){s:Int×TP×Bool}{r}(h:itO (qg9 o S) s=some r):X prY (.loop qmt) (qf9 o bs x S z e a b s)=some (qx3 o bs x S z e a b r):=kg (jvp o bs x S z e a b hab) (fun d hh=>by cases hh) h
end
theorem K22 {a b:qq}{P p':TP}{x x':TI}{w:Bool}{n:Nat}{l:List qb}(h1:f24 P=some (p',w))(h2:f30 x=some x')(h3:ye prY (X prY) 69 [sl 8 zd p',sl 1 zg x'] [a,b]=some (.tup [.ms 2 0 n,Iv 0],false,[a,b,.cells (pcl l)]))(hn:n=(P.getD []).length):
  X prY quq ⟨[(0,sl 8 zd P,false),(8,sl 1 zg x,false),(250,.bool false,false)],[a,b]⟩=X prY quc ⟨[(0,sl 8 zd P,false),(8,sl 1 zg x,false),(38,.ms 2 0 n,false),(267,.bool false,false)],[a,b,.cells (pcl l)]⟩:=by
 have g1:=Y24 h1
 have g2:=Y30 h2
 have hs:qac 2 (.tup [.ms 2 0 n,Iv 0]) [a,b,.cells (pcl l)]=[a,b,.cells (pcl l)]:=rfl
 subst hn
 simp only[go_sem,seval,quq,q7o,g1,g2,h3,hs]
theorem K21 {a b:qq}{P:TP}{x:TI}{e:Int}(he:e=0):X prY qlc ⟨[(0,sl 8 zd P,false),(8,sl 1 zg x,false),(10,Iv e,false),(248,.bool false,false)],[a,b]⟩=X prY quq ⟨[(0,sl 8 zd P,false),(8,sl 1 zg x,false),(250,.bool false,false)],[a,b]⟩:=by
 subst he
 simp only[go_sem,seval,qlc,qy4]
theorem j17 {a b:qq}{P:TP}{x:TI}{e:Int}(he:e≠0):X prY qlc ⟨[(0,sl 8 zd P,false),(8,sl 1 zg x,false),(10,Iv e,false),(248,.bool false,false)],[a,b]⟩=some (.ret,⟨[(6,.bool true,false)],[a,b]⟩):=by
 have h:decide (e=0)=false:=dF he
 simp only[go_sem,seval,qlc,qy4,h]
section
variable {a b:qq}{o:TP}{bs:TB}{x S:TI}{z e:Int}
theorem K16 (hab:yl 2 [a,b]=true){d:Int×TP×Bool}(h1:itO (qg9 o S) (0,none,false)=some d){p1 p2:TP}{w1 w2 v1:Bool}{b1:TB}(h2:f24 d.2.1=some (p1,w1))(h3:f38 bs=some (b1,v1)){x1 x2:TI}{k e6:Int}(h4:f37 p1 b1 (min z 1)=some (x1,k,e6))(h5:f24 o=some (p2,w2))(h6:f37 p2 b1 (min z 1)=some (x2,k,e6)):
  X prY qog ⟨[(0,sl 8 zd o,false),(1,sl 5 yf bs,false),(7,Iv z,false),(8,sl 1 zg x,false),(10,Iv e,false),(27,sl 1 zg S,false),(202,.bool false,false)],[a,b]⟩=X prY qlc ⟨[(0,sl 8 zd o,false),(8,sl 1 zg x,false),(10,Iv e,false),(248,.bool false,false)],[a,b]⟩:=by
 have wl:=jri o bs x S z e a b hab h1
 simp only[qf9,qx3]at wl
 have wl':X prY (.loop qmt) ⟨[(0,sl 8 zd o,false),(1,sl 5 yf bs,false),(7,Iv z,false),(8,sl 1 zg x,false),(10,Iv e,false),(27,sl 1 zg S,false),(29,.list true 0 [],false),(203,sl 8 zd o,false),(204,Lv o,false),(205,Iv 0,false)],[a,b]⟩=_:=wl
 have g2:=Y24 h2
 have g3:=Y38 h3
 have g4:=Y37 h4
 have g5:=Y24 h5
 have g6:=Y37 h6
 have c1:decide (e6=e6)=true:=dT rfl
 have c2:decide (k=k)=true:=dT rfl
 simp only[go_sem,seval,qog,q7p,wl',g2,g3,g4,g5,g6,c1,c2]
theorem K14 {p':TP}{w:Bool}{env:Env}(he:env=[(0,sl 8 zd o,false),(1,sl 5 yf bs,false),(7,Iv z,false),(8,sl 1 zg x,false),(10,Iv e,false),(187,.bool false,false)]∨∃c:Int,env=[(0,sl 8 zd o,false),(1,sl 5 yf bs,false),(7,Iv z,false),(8,sl 1 zg x,false),(9,Iv c,false),(10,Iv e,false),(165,.bool false,false)])(h1:f24 o=some (p',w))(h2:f70 p'=some (S,0))(h3:(S.getD []).length≤(o.getD []).length):
  X prY qky ⟨env,[a,b]⟩=X prY qog ⟨[(0,sl 8 zd o,false),(1,sl 5 yf bs,false),(7,Iv z,false),(8,sl 1 zg x,false),(10,Iv e,false),(27,sl 1 zg S,false),(202,.bool false,false)],[a,b]⟩:=by
 have g1:=Y24 h1
 have g2:=Y70 h2
 have c1:decide (((o.getD []).length:Int)<((S.getD []).length:Int))=false:=dF (by omega)
 rcases he with rfl|⟨c,rfl⟩
 ·simp only[go_sem,seval,qky,qzz,g1,g2,c1]
 simp only[go_sem,seval,qky,qzz,g1,g2,c1]
theorem j0z {c:Int}(h1:(bs.getD []).length≤1):X prY qft ⟨[(0,sl 8 zd o,false),(1,sl 5 yf bs,false),(7,Iv z,false),(8,sl 1 zg x,false),(9,Iv c,false),(10,Iv e,false),(162,.bool false,false)],[a,b]⟩=X prY qky ⟨[(0,sl 8 zd o,false),(1,sl 5 yf bs,false),(7,Iv z,false),(8,sl 1 zg x,false),(9,Iv c,false),(10,Iv e,false),(165,.bool false,false)],[a,b]⟩:=by
 have c1:decide ((1:Int)<((bs.getD []).length:Int))=false:=dF (by omega)
 simp only[go_sem,seval,qft,qt2,c1]
theorem j38 {c:Int}{lb:List qi}(h1:1<lb.length){p':TP}{w v1:Bool}{b1:TB}(h2:f24 o=some (p',w))(h3:f38 (some (lb.drop 1))=some (b1,v1)){x1:TI}{k e5:Int}(h4:f37 p' b1 z=some (x1,k,e5))(h5:e=0→e5=0∧k≤c):X prY qft ⟨[(0,sl 8 zd o,false),(1,sl 5 yf (some lb),false),(7,Iv z,false),(8,sl 1 zg x,false),(9,Iv c,false),(10,Iv e,false),(162,.bool false,false)],[a,b]⟩=X prY qky ⟨[(0,sl 8 zd o,false),(1,sl 5 yf (some lb),false),(7,Iv z,false),(8,sl 1 zg x,false),(10,Iv e,false),(187,.bool false,false)],[a,b]⟩:=by
 have c1:decide ((1:Int)<(((some lb:TB).getD []).length:Int))=true:=dT (by simp only[Option.getD_some];omega)
 have g2:=Y24 h2
 have g3:=Y38 h3
 have g4:=Y37 h4
 have hc:qkf (some lb) (some 1) none=some (some (lb.drop 1)):=by
  have e:q4t lb (some 1) none=some ((lb.take lb.length).drop 1):=by
   unfold q4t
   have b1:qil lb.length lb.length none=some lb.length:=rfl
   have b2:qil lb.length 0 (some 1)=some 1:=by
    unfold qil
    simp
    omega
   rw[b1]
   dsimp only
   rw[b2]
  rw[List.take_length]at e
  unfold qkf
  simp only[Option.getD_some]
  rw[e];rfl
 by_cases he:e=0
 ·obtain⟨k1,k2⟩:=h5 he
  have c2:decide (e=0)=true:=dT he
  have c3:decide (e5=0)=true:=dT k1
  have c4:decide (c<k)=false:=dF (by omega)
  simp only[go_sem,seval,qft,qt2,c1,q6y hc,g2,g3,g4,c2,c3,c4]
 ·have c2:decide (e=0)=false:=dF he
  simp only[go_sem,seval,qft,qt2,c1,q6y hc,g2,g3,g4,c2]
end
theorem q1y {H:ze}{o:TP}{b:TB}{z:Int}{r}(h:f37 o b z=some r):qy3 prY (X prY) H 37 (some [sl 8 zd o,sl 5 yf b,Iv z])=some ⟨.tup [qpx (sl 1 zg r.1),Iv r.2.1,Iv r.2.2],false,none,H⟩:=by
 have g:=Y37 h
 have hb:yb 0 [sl 8 zd o,sl 5 yf b,Iv z]=true:=by simp only[go_sem,seval]
 simp only[qy3,hb,cT,g]
 rfl
theorem qo7 {α:Type}{H:ze}{z:Nat}{f:α→qa}{o:Option (List α)}:qhn H (sl z f o)=some (sl z f o):=by cases o<;>rfl
section
variable {o:TP}{x:TI}{z c e:Int}
theorem K5 {bs:TB}{lb:List qi}(hl:0<lb.length)(h1:f38 bs=some (some lb,true)){db:Int×List qi}(h2:itO (qiw lb.length) (0,lb)=some db)(hdb:db.2.length=lb.length)
  {lp:List qb} (hp:0<lp.length) (h3:f24 o=some (some lp,true)) {dp:Int×List qb} (h4:itO (qkh lp.length) (0,lp)=some dp) (hdp:dp.2.length=lp.length)
  {r2 r3 r4:TI×Int×Int} (h5:f37 (some lp) (some db.2) z=some r2) (h6:f37 (some lp) (some lb) (j9 .i64 (z+1))=some r3) (h7:f37 (some dp.2) (some lb) z=some r4)
  (h8:e=0→r2.2.2=0∧r3.2.2=0∧r4.2.2=0∧max (max r2.2.1 r3.2.1) r4.2.1≤c):
  X prY qjg ⟨[(0,sl 8 zd o,false),(1,sl 5 yf bs,false),(7,Iv z,false),(8,sl 1 zg x,false),(9,Iv c,false),(10,Iv e,false),(79,.bool false,false)],[]⟩=X prY qft ⟨[(0,sl 8 zd o,false),(1,sl 5 yf bs,false),(7,Iv z,false),(8,sl 1 zg x,false),(9,Iv c,false),(10,Iv e,false),(162,.bool false,false)],[.cells (dcl db.2),.cells (pcl dp.2)]⟩:=by
 have wl:=jhx (sl 8 zd o) (sl 5 yf bs) (sl 1 zg x) z c e lb.length h2
 have wm:=jwu (sl 8 zd o) (sl 5 yf bs) (sl 1 zg x) z c e (.cells (dcl db.2)) lb.length lp.length h4
 simp only[qof,qrp]at wl
 simp only[qsy,qyb]at wm
 have g1:=Y38 h1
 have g3:=Y24 h3
 have t1:qcn 0 [.hole] 0 (sl 5 yf (some lb)) true=some ⟨.ms 0 0 lb.length,false,none,[.cells (dcl lb)]⟩:=qxb rfl
 have t2:qcn 1 [.cells (dcl db.2),.hole] 0 (sl 8 zd (some lp)) true=some ⟨.ms 1 0 lp.length,false,none,[.cells (dcl db.2),.cells (pcl lp)]⟩:=q8l rfl
 have f1:qbo [.cells (dcl db.2),.cells (pcl dp.2)] [sl 8 zd (some lp),.ms 0 0 lb.length,Iv z]=some [sl 8 zd (some lp),sl 5 yf (some db.2),Iv z]:=by
  have:=q00 (h:=[.cells (dcl db.2),.cells (pcl dp.2)]) (b:=0) (l:=db.2) rfl (by omega)
  rw[hdb]at this
  simp only[qbo,this,qo7]
  rfl
 have f2:qbo [.cells (dcl db.2),.cells (pcl dp.2)] [.ms 1 0 lp.length,sl 5 yf (some lb),Iv z]=some [sl 8 zd (some dp.2),sl 5 yf (some lb),Iv z]:=by
  have:=q01 (h:=[.cells (dcl db.2),.cells (pcl dp.2)]) (b:=1) (l:=dp.2) rfl (by omega)
  rw[hdp]at this
  simp only[qbo,this,qo7]
  rfl
 have g5:=fun H:ze=>q1y (H:=H) h5
 have g6:=Y37 h6
 have g7:=fun H:ze=>q1y (H:=H) h7
 by_cases he:e=0
 ·obtain⟨k1,k2,k3,k4⟩:=h8 he
  have c1:decide (e=0)=true:=dT he
  have c2:decide (r2.2.2=0)=true:=dT k1
  have c3:decide (r3.2.2=0)=true:=dT k2
  have c4:decide (r4.2.2=0)=true:=dT k3
  have c5:decide (c<max (max r2.2.1 r3.2.1) r4.2.1)=false:=dF (by omega)
  simp only[go_sem,seval,qjg,qph,g1,g3,t1,t2,wl,wm,f1,f2,g5,g6,g7,c1,c2,c3,c4,c5]
 ·have c1:decide (e=0)=false:=dF he
  simp only[go_sem,seval,qjg,qph,g1,g3,t1,t2,wl,wm,f1,f2,g5,g6,g7,c1]
end
section
variable {o:TP}{x:TI}{z c e:Int}
theorem K5n {bs:TB}{lb:List qi}(hl:0<lb.length)(h1:f38 bs=some (some lb,true)){db:Int×List qi}(h2:itO (qiw lb.length) (0,lb)=some db)(hdb:db.2.length=lb.length)
  {w:Bool} (h3:f24 o=some (none,w))
  {r2 r3 r4:TI×Int×Int} (h5:f37 none (some db.2) z=some r2) (h6:f37 none (some lb) (j9 .i64 (z+1))=some r3) (h7:f37 none (some lb) z=some r4)
  (h8:e=0→r2.2.2=0∧r3.2.2=0∧r4.2.2=0∧max (max r2.2.1 r3.2.1) r4.2.1≤c):
  X prY qjg ⟨[(0,sl 8 zd o,false),(1,sl 5 yf bs,false),(7,Iv z,false),(8,sl 1 zg x,false),(9,Iv c,false),(10,Iv e,false),(79,.bool false,false)],[]⟩=X prY qft ⟨[(0,sl 8 zd o,false),(1,sl 5 yf bs,false),(7,Iv z,false),(8,sl 1 zg x,false),(9,Iv c,false),(10,Iv e,false),(162,.bool false,false)],[.cells (dcl db.2),.dead]⟩:=by
 have wl:=jhx (sl 8 zd o) (sl 5 yf bs) (sl 1 zg x) z c e lb.length h2
 simp only[qof,qrp]at wl
 have g1:=Y38 h1
 have g3:=Y24 h3
 have t1:qcn 0 [.hole] 0 (sl 5 yf (some lb)) true=some ⟨.ms 0 0 lb.length,false,none,[.cells (dcl lb)]⟩:=qxb rfl
 have t2:qcn 1 [.cells (dcl db.2),.hole] 0 (sl 8 zd none) w=some ⟨.list true 0 [],false,none,[.cells (dcl db.2),.dead]⟩:=rfl
 have wm:X prY (.loop qqn) ⟨[(0,sl 8 zd o,false),(1,sl 5 yf bs,false),(7,Iv z,false),(8,sl 1 zg x,false),(9,Iv c,false),(10,Iv e,false),(11,.ms 0 0 lb.length,false),(13,.list true 0 [],false),(96,Iv 0,false),(97,Iv 0,false)],[.cells (dcl db.2),.dead]⟩=some (.exit 2,⟨[(0,sl 8 zd o,false),(1,sl 5 yf bs,false),(7,Iv z,false),(8,sl 1 zg x,false),(9,Iv c,false),(10,Iv e,false),(11,.ms 0 0 lb.length,false),(13,.list true 0 [],false),(96,Iv 0,false),(97,Iv 0,false),(98,.bool false,false)],[.cells (dcl db.2),.dead]⟩):=by
  rw[q6p]
  simp only[go_sem,seval,qqn]<;>rfl
 have f1:qbo [.cells (dcl db.2),.dead] [sl 8 zd none,.ms 0 0 lb.length,Iv z]=some [sl 8 zd none,sl 5 yf (some db.2),Iv z]:=by
  have:=q00 (h:=[.cells (dcl db.2),.dead]) (b:=0) (l:=db.2) rfl (by omega)
  rw[hdb]at this
  simp only[qbo,this,qo7]
  rfl
 have f2:qbo [.cells (dcl db.2),.dead] [.list true 0 [],sl 5 yf (some lb),Iv z]=some [sl 8 zd none,sl 5 yf (some lb),Iv z]:=by
  simp only[qbo,qo7]
  rfl
 have g5:=fun H:ze=>q1y (H:=H) h5
 have g6:=Y37 h6
 have g7:=fun H:ze=>q1y (H:=H) h7
 by_cases he:e=0
 ·obtain⟨k1,k2,k3,k4⟩:=h8 he
  have c1:decide (e=0)=true:=dT he
  have c2:decide (r2.2.2=0)=true:=dT k1
  have c3:decide (r3.2.2=0)=true:=dT k2
  have c4:decide (r4.2.2=0)=true:=dT k3
  have c5:decide (c<max (max r2.2.1 r3.2.1) r4.2.1)=false:=dF (by omega)
  simp only[go_sem,seval,qjg,qph,g1,g3,t1,t2,wl,wm,f1,f2,g5,g6,g7,c1,c2,c3,c4,c5]
 ·have c1:decide (e=0)=false:=dF he
  simp only[go_sem,seval,qjg,qph,g1,g3,t1,t2,wl,wm,f1,f2,g5,g6,g7,c1]
theorem KW2 {bs:TB}{n:Int}(hz:qh8 (j9 .i64 n) 2=some z){p':TP}{b':TB}{w v:Bool}(h1:f24 o=some (p',w))(h2:f38 bs=some (b',v))(h3:f37 p' b' z=some (x,c,e))(he:e=0∨e=24):
  X prY qsf ⟨[(0,sl 8 zd o,false),(1,sl 5 yf bs,false),(2,.int .u8 n,false),(59,.bool false,false)],[]⟩=X prY qjg ⟨[(0,sl 8 zd o,false),(1,sl 5 yf bs,false),(7,Iv z,false),(8,sl 1 zg x,false),(9,Iv c,false),(10,Iv e,false),(79,.bool false,false)],[]⟩:=by
 have g1:=Y24 h1
 have g2:=Y38 h2
 have g3:=Y37 h3
 have hz':=qoi (k:=.i64) hz
 rcases he with rfl|rfl
 ·simp only[go_sem,seval,qsf,q23,hz',g1,g2,g3]
 simp only[go_sem,seval,qsf,q23,hz',g1,g2,g3]
theorem W10 {bs:TB}{n:Int}{b1:Bool}(h1:f36 o bs 0=some b1){r1 r2:Int}(h2:f25 o=some r1)(h3:f39 bs=some r2)
  (hr:b1=true→r1=0→r2=0→∃H,X prY qsf ⟨[(0,sl 8 zd o,false),(1,sl 5 yf bs,false),(2,.int .u8 n,false),(59,.bool false,false)],[]⟩=some (.ret,⟨[(6,.bool true,false)],H⟩)):
  ∃H,ye prY (X prY) 10 [sl 8 zd o,sl 5 yf bs,.int .u8 n] []=some (.bool true,false,H):=by
 rw[kr (show prY.fns 10=some c10 from rfl) (by simp)]
 have g1:=Y36 h1
 have g2:=Y25 h2
 have g3:=Y39 h3
 have g0:zb prY (X prY) 16 []=some (.bool true,false):=Y16 rfl
 cases b1 with
 |false=>
  refine⟨[],?_⟩
  simp only[go_sem,seval,c10,qth,g0,g1]<;>rfl
 |true=>
  by_cases k1:r1=0
  ·have c1:decide (r1=0)=true:=dT k1
   by_cases k2:r2=0
   ·have c2:decide (r2=0)=true:=dT k2
    obtain⟨H,hk⟩:=hr rfl k1 k2
    refine⟨H,?_⟩
    simp only[go_sem,seval,c10,qth,g0,g1,g2,g3,c1,c2,hk]<;>rfl
   ·have c2:decide (r2=0)=false:=dF k2
    refine⟨[],?_⟩
    simp only[go_sem,seval,c10,qth,g0,g1,g2,g3,c1,c2]<;>rfl
  ·have c1:decide (r1=0)=false:=dF k1
   refine⟨[],?_⟩
   simp only[go_sem,seval,c10,qth,g0,g1,g2,c1]<;>rfl
end
set_option maxHeartbeats 1000000
def srV (ps:List qb)(bs:List qi)(m:Nat):Option (List Int)×Int×Int:=((qax ps bs (chE ps m)).1,(qax ps bs (chE ps m)).2.1,if(qax ps bs (chE ps m)).2.2=true then 0 else 24)
theorem qts {P:Option (List qb)}{B:Option (List qi)}{m:Nat}(z1:qb2 (P.getD [])=0)(z2:qdq (B.getD [])=0)(hm:m≤3)(few:qrs (P.getD []) m):f37 P B (m:Int)=some (srV (P.getD []) (B.getD []) m):=by
 have e1:=jjh (o:=P) (n:=m) z1 few
 have hL:∀c∈chE (P.getD []) m,c.length≤3∧qe3 (P.getD []) c:=fun c h=>⟨by have:=(qmb h).1;omega,(qmb h).2⟩
 have hln:(chE (P.getD []) m).length≤1000:=by have:=qzm few;omega
 have r1:=ji1 z1 z2 (L:=chE (P.getD []) m) hL hln
 have hz:jha (P.getD []) (B.getD []) (m:Int)=0:=qao.2 fun y hy=>by
  simp only[List.mem_cons,List.not_mem_nil,or_false]at hy
  rcases hy with rfl|rfl|rfl
  ·exact z1
  ·exact z2
  ·exact qfn.2 ⟨by omega,by omega⟩
 unfold f37 srV
 rw[jio,hz,j6,dT rfl,cT,e1,j6,r1,j6]
 dsimp only
 cases hb:(qax (P.getD []) (B.getD []) (chE (P.getD []) m)).2.2 with
 |true=>rfl
 |false=>
  obtain⟨g1,g2⟩:=qy5 hb
  rw[g1,g2];rfl
theorem q5e {α:Type}{L:List α}{g:α→α}{i:Nat}{x:α}(h:L[i]?=some x):((L.take i).map g++L.drop i).set i (g x)=(L.take (i+1)).map g++L.drop (i+1):=by
 have hi:=(List.getElem?_eq_some_iff.1 h).1
 have hl:((L.take i).map g).length=i:=by rw[List.length_map,List.length_take];omega
 rw[kh h,List.set_append_right _ _ (by omega),hl,Nat.sub_self,List.set_cons_zero,List.take_add_one,h,List.map_append,List.append_assoc]
 rfl
theorem q2h {α:Type}{L:List α}{g:α→α}{i:Nat}{x:α}(h:L[i]?=some x):((L.take i).map g++L.drop i)[i]?=some x:=by
 have hi:=(List.getElem?_eq_some_iff.1 h).1
 have hl:((L.take i).map g).length=i:=by rw[List.length_map,List.length_take];omega
 rw[List.getElem?_append_right (by omega),hl,Nat.sub_self,kh h]
 rfl
theorem jbg {L:List qi}(hn:L.length≤1000):itO (qiw L.length) (0,L)=some ((L.length:Int),L.map qcc):=by
 have key:∀(k i:Nat),i+k=L.length→itO (qiw L.length) ((i:Int),(L.take i).map qcc++L.drop i)=some ((L.length:Int),L.map qcc):=by
  intro k
  induction k with
  |zero=>
   intro i hi
   have:i=L.length:=by omega
   subst this
   refine k9 ?_
   unfold qiw
   dsimp only
   rw[kc,List.take_length,List.drop_eq_nil_of_le (Nat.le_refl _),List.append_nil];rfl
  |succ k ih=>
   intro i hi
   have hlt:i<L.length:=by omega
   have hx:L[i]?=some L[i]:=List.getElem?_eq_getElem hlt
   have hix:qvt L.length ((L.take i).map qcc++L.drop i) (i:Int)=some L[i]:=by
    unfold qvt
    rw[if_pos (by omega)]
    exact q2h hx
   have e:qiw L.length ((i:Int),(L.take i).map qcc++L.drop i)=some (.inl (((i+1:Nat):Int),(L.take (i+1)).map qcc++L.drop (i+1))):=by
    unfold qiw
    dsimp only
    rw[kl hlt,cT,hix,j6,yg hlt (by omega),show((i:Int)).toNat=i from rfl,q5e hx]
   rw[qbb e]
   exact ih (i+1) (by omega)
 have:=key L.length 0 (by omega)
 simpa using this
theorem jb9 {L:List qb}(hn:L.length≤1000)(hp:∀p∈L,qaz p=0):itO (qkh L.length) (0,L)=some ((L.length:Int),L.map mor):=by
 have key:∀(k i:Nat),i+k=L.length→itO (qkh L.length) ((i:Int),(L.take i).map mor++L.drop i)=some ((L.length:Int),L.map mor):=by
  intro k
  induction k with
  |zero=>
   intro i hi
   have:i=L.length:=by omega
   subst this
   refine k9 ?_
   unfold qkh
   dsimp only
   rw[kc,List.take_length,List.drop_eq_nil_of_le (Nat.le_refl _),List.append_nil];rfl
  |succ k ih=>
   intro i hi
   have hlt:i<L.length:=by omega
   have hx:L[i]?=some L[i]:=List.getElem?_eq_getElem hlt
   have hc:=qc9 (hp _ (List.getElem_mem hlt))
   have hix:qe6 L.length ((L.take i).map mor++L.drop i) (i:Int)=some L[i]:=by
    unfold qe6
    rw[if_pos (by omega)]
    exact q2h hx
   have hm:qa3 L[i] (min 100 (j9 .i64 (L[i].stock+1)))=mor L[i]:=by
    rw[yq (by omega) (by omega)];rfl
   have e:qkh L.length ((i:Int),(L.take i).map mor++L.drop i)=some (.inl (((i+1:Nat):Int),(L.take (i+1)).map mor++L.drop (i+1))):=by
    unfold qkh
    dsimp only
    rw[kl hlt,cT,hix,j6,yg hlt (by omega),show((i:Int)).toNat=i from rfl,hm,q5e hx]
   rw[qbb e]
   exact ih (i+1) (by omega)
 have:=key L.length 0 (by omega)
 simpa using this
theorem jmh {o:Option (List Int)}{a:Int}(hn:(o.getD []).length≤1073741824):f76 o a=some ((o.getD []).any fun v=>decide (v=a)):=by
 unfold f76
 obtain⟨d,g1,g2⟩:=qdc (o.getD []).length (fun i=>(i:Int)) (qnb o a) (fun d=>match d with | .inl _=>true | .inr _=>false) (fun i=>((o.getD []).drop i).any fun v=>decide (v=a)) ⟨.inr _,by unfold qnb;rw[kc];rfl,by rw[List.drop_eq_nil_of_le (Nat.le_refl _)];rfl⟩ (fun i hlt=>by
  have hx:(o.getD [])[i]?=some (o.getD [])[i]:=List.getElem?_eq_getElem hlt
  generalize (o.getD [])[i]=e at hx
  rw[kh hx]
  unfold qnb
  rw[kl hlt,cT,y8 hx,j6,List.any_cons]
  cases decide (e=a)with
  |true=>exact .inr ⟨.inl (),rfl,by simp⟩
  |false=>exact .inl ⟨by rw[cF,yg hlt (by omega)],by simp⟩)
 have g1':itO (qnb o a) 0=some d:=g1
 have g2':_=((o.getD []).any fun v=>decide (v=a)):=g2
 rw[g1',j6,←g2']
 rcases d with d|d<;>rfl
theorem je0 {l:List qb}{i:Nat}(hi:i<l.length):((qhz l).any fun v=>decide (v=(i:Int)))=qf2 l i:=by
 cases hd:qf2 l i with
 |true=>
  rw[List.any_eq_true]
  refine⟨(i:Int),List.mem_flatMap.2 ⟨i,List.mem_range.2 hi,?_⟩,by simp⟩
  rw[if_pos hd];exact List.mem_singleton.2 rfl
 |false=>
  rw[List.any_eq_false]
  intro v hv
  obtain⟨k,_,hk⟩:=List.mem_flatMap.1 hv
  split at hk
  ·next h=>
   obtain rfl:=List.mem_singleton.1 hk
   intro hki
   have hki':(k:Int)=(i:Int):=of_decide_eq_true hki
   have:k=i:=by omega
   subst this
   rw[hd]at h;cases h
  ·cases hk
theorem q4i {l:List qb}:(qhz l).length≤l.length:=by
 unfold qhz
 have:∀m:List Nat,(m.flatMap fun i=>if qf2 l i then [(i:Int)]else []).length≤m.length:=by
  intro m
  induction m with
  |nil=>exact Nat.le_refl _
  |cons x m ih=>
   rw[List.flatMap_cons,List.length_append,List.length_cons]
   split
   ·simp only[List.length_cons,List.length_nil];omega
   ·simp only[List.length_nil];omega
 have:=this (List.range l.length)
 simpa using this
theorem jbn {o:Option (List qb)}(hn:(o.getD []).length≤1000):itO (qg9 o (za (qhz (o.getD [])))) (0,none,false)=some (((o.getD []).length:Int),za (qdh (o.getD [])),yx (qdh (o.getD []))):=by
 have hdl:(qhz (o.getD [])).length≤(o.getD []).length:=q4i
 have key:∀(k i:Nat) (acc:List qb),i+k=(o.getD []).length→acc.length≤i→itO (qg9 o (za (qhz (o.getD [])))) ((i:Int),za acc,yx acc)=some (((o.getD []).length:Int),za (acc++qj4 (qf2 (o.getD [])) i ((o.getD []).drop i)),yx (acc++qj4 (qf2 (o.getD [])) i ((o.getD []).drop i))):=by
  intro k
  induction k with
  |zero=>
   intro i acc hi ha
   have:i=(o.getD []).length:=by omega
   subst this
   refine k9 ?_
   unfold qg9
   dsimp only
   rw[kc,List.drop_eq_nil_of_le (Nat.le_refl _)]
   simp only[qj4,List.append_nil];rfl
  |succ k ih=>
   intro i acc hi ha
   have hlt:i<(o.getD []).length:=by omega
   have hx:(o.getD [])[i]?=some (o.getD [])[i]:=List.getElem?_eq_getElem hlt
   generalize (o.getD [])[i]=p at hx
   have h76:f76 (za (qhz (o.getD []))) (i:Int)=some (qf2 (o.getD []) i):=by
    rw[jmh (by rw[yd];omega),yd,je0 hlt]
   rw[kh hx]
   simp only[qj4]
   cases hd:qf2 (o.getD []) i with
   |true=>
    have e:qg9 o (za (qhz (o.getD []))) ((i:Int),za acc,yx acc)=some (.inl (((i+1:Nat):Int),za acc,yx acc)):=by
     unfold qg9
     dsimp only
     rw[kl hlt,cT,y8 hx,j6,h76,j6,hd,cT,yg hlt (by omega)]
    rw[qbb e,ih (i+1) acc (by omega) (by omega)]
    rfl
   |false=>
    have e:qg9 o (za (qhz (o.getD []))) ((i:Int),za acc,yx acc)=some (.inl (((i+1:Nat):Int),za (acc++[p]),yx (acc++[p]))):=by
     unfold qg9
     dsimp only
     rw[kl hlt,cT,y8 hx,j6,h76,j6,hd,cF,yg hlt (by omega),qc3 (by omega),qc8]
    rw[qbb e,ih (i+1) (acc++[p]) (by omega) (by rw[List.length_append];simp only[List.length_cons,List.length_nil];omega)]
    simp
 have:=key (o.getD []).length 0 [] (by omega) (Nat.le_refl _)
 rw[List.drop_zero,List.nil_append]at this
 exact this
theorem ji2 {l:List qb}{c:Int}(h:0≤c∧c<(l.length:Int)):∃p,l[c.toNat]?=some p∧qe6 l.length l c=some p:=q4z h
theorem q0p {x:Option (List Int)}(hx:(x.getD []).length≤3):∀(k i:Nat) (l:List qb),i+k=(x.getD []).length→qe3 l ((x.getD []).drop i)→(∀p∈l,-1000≤p.stock∧p.stock+(k:Int)≤2000)→itO (qko x l.length) ((i:Int),l)=some (((x.getD []).length:Int),jgy l ((x.getD []).drop i))
 |0,i,l,hi,_,_=>by
  have:i=(x.getD []).length:=by omega
  subst this
  refine k9 ?_
  unfold qko
  dsimp only
  rw[kc,List.drop_eq_nil_of_le (Nat.le_refl _)];rfl
 |k+1,i,l,hi,hid,hb=>by
  have hlt:i<(x.getD []).length:=by omega
  have hc:(x.getD [])[i]?=some (x.getD [])[i]:=List.getElem?_eq_getElem hlt
  generalize (x.getD [])[i]=c at hc
  rw[kh hc]at hid ⊢
  have hci:=hid c (List.mem_cons_self ..)
  obtain⟨p,g1,g2⟩:=ji2 hci
  have hbp:=hb p (List.mem_of_getElem? g1)
  have hlen:(qex l c).length=l.length:=jd4
  have hinc:qex l c=l.set c.toNat (qa3 p (p.stock+1)):=by unfold qex;rw[g1]
  have e:qko x l.length ((i:Int),l)=some (.inl (((i+1:Nat):Int),qex l c)):=by
   unfold qko
   dsimp only
   rw[kl hlt,cT,y8 hc,j6,dF (show ¬c<0 by omega),cF,dF (show ¬(l.length:Int)≤c by omega),cF,g2,j6,yg hlt (by omega),yq (x:=p.stock+1) (by omega) (by omega),hinc]
  have ih:=q0p hx k (i+1) (qex l c) (by omega) (fun y hy=>by rw[hlen];exact hid y (List.mem_cons_of_mem _ hy)) (fun q hq=>by
   rw[hinc]at hq
   rcases List.mem_or_eq_of_mem_set hq with hq|rfl
   ·have:=hb q hq
    omega
   ·show -1000≤p.stock+1∧p.stock+1+(k:Int)≤2000
    omega)
  rw[hlen]at ih
  rw[qbb e,ih]
  rfl
theorem qyu {ps:List qb}(hp:∀p∈ps,qaz p=0):∀ {n:Nat} {c:List Int},c∈chE ps n→qd2 ps c=true
 |0,c,h=>by
  obtain rfl:=List.mem_singleton.1 h
  rw[qpk,qjb]
  intro p hm
  have:=qc9 (hp p hm)
  omega
 |n+1,c,h=>by
  rcases List.mem_append.1 h with h|h
  ·exact qyu hp h
  ·obtain⟨a,_,hx⟩:=List.mem_flatMap.1 h
   obtain⟨i,_,rfl,hs⟩:=qh2 hx
   exact hs
theorem q5q {ps:List qb}{c:List Int}(h1:c.length≤3)(h2:qe3 ps c):qoz ps c=0:=by
 unfold qoz
 rw[if_neg (by omega)]
 have:(c.all fun i=>inB ps.length i)=true:=by
  rw[List.all_eq_true]
  intro i hi
  have:=h2 i hi
  unfold inB
  rw[dF (by omega),dF (by omega)];rfl
 rw[this];rfl
theorem jeq {l:List qb}{c:List Int}(h:qd2 l c=true):qeg l c=some (qbq l c):=by
 unfold qd2 qeg at h
 unfold qeg
 split
 ·rfl
 ·next hn=>rw[if_neg hn]at h;cases h
theorem qyd {ps ps':List qb}{bs bs':List qi}{m m':Nat}(hm:∀c∈chE ps m,gd ps bs c→∃c'∈chE ps' m',gd ps' bs' c'∧cst ps' c'≤cst ps c)(h:(srV ps bs m).2.2=0):(srV ps' bs' m').2.2=0∧(srV ps' bs' m').2.1≤(srV ps bs m).2.1:=by
 have hb:(qax ps bs (chE ps m)).2.2=true:=by
  cases hb:(qax ps bs (chE ps m)).2.2 with
  |true=>rfl
  |false=>
   have h':(if(qax ps bs (chE ps m)).2.2=true then(0:Int)else 24)=0:=h
   rw[hb]at h'
   exact absurd h' (by decide)
 obtain⟨h1,h2⟩:=qmy hm hb
 refine⟨?_,h2⟩
 show(if(qax ps' bs' (chE ps' m')).2.2=true then(0:Int)else 24)=0
 rw[if_pos h1]
theorem jjf {ps:List qb}(hz:qb2 ps=0){m:Nat}(hm:m≤3){c:List Int}(hc:c∈chE ps m):∀x∈qbk false (qf3 ps c) [],qa0 x=0:=by
 have h1:=qmb hc
 exact(jas (c:=false) (ps:=ps) hz (qni h1.2) (by omega)).2
theorem qz0 {α:Type}{l:List α}(h:0<l.length):za l=some l∧yx l=true:=by
 cases l with
 |nil=>simp at h
 |cons a l=>exact⟨rfl,rfl⟩
theorem jwm {ps:List qb}{bs:List qi}{m:Nat}:(srV ps bs m).2.2=0∨(srV ps bs m).2.2=24:=by
 show(if(qax ps bs (chE ps m)).2.2=true then(0:Int)else 24)=0∨(if(qax ps bs (chE ps m)).2.2=true then(0:Int)else 24)=24
 split
 ·exact .inl rfl
 ·exact .inr rfl
theorem jcs {o:Option (List qb)}{lb:List qi}{m:Nat}(z1:qb2 (o.getD [])=0)(z2:qdq lb=0)(h4:(o.getD []).length≤4)(hm:m≤1){a b:qq}(hab:yl 2 [a,b]=true):
  ∃H,X prY qft ⟨[(0,sl 8 zd o,false),(1,sl 5 yf (some lb),false),(7,.int .i64 (m:Int),false),(8,sl 1 zg (srV (o.getD []) lb m).1,false),(9,.int .i64 (srV (o.getD []) lb m).2.1,false),(10,.int .i64 (srV (o.getD []) lb m).2.2,false),(162,.bool false,false)],[a,b]⟩=some (.ret,⟨[(6,.bool true,false)],H⟩):=by
 have hp:=(qca z1).2
 obtain⟨⟨hb1,hb8⟩,hbb⟩:=qg0 z2
 have few:∀ {ps:List qb} {k:Nat},ps.length≤4→k≤2→qrs ps k:=fun h1 h2=>.inl ⟨h1,h2⟩
 have q1:=yd (o.getD [])
 have g24:f24 o=some (za (o.getD []),yx (o.getD [])):=q4f (by omega)
 have g38:f38 (some lb)=some (za lb,yx lb):=q49 (o:=some lb) (by show lb.length≤_;omega)
 have q3:=yd lb
 -- from the dominated parts on
 have after:∃H,X prY qog ⟨[(0,sl 8 zd o,false),(1,sl 5 yf (some lb),false),(7,.int .i64 (m:Int),false),(8,sl 1 zg (srV (o.getD []) lb m).1,false),(10,.int .i64 (srV (o.getD []) lb m).2.2,false),(27,sl 1 zg (za (qhz (o.getD []))),false),(202,.bool false,false)],[a,b]⟩=some (.ret,⟨[(6,.bool true,false)],H⟩):=by
  have hfl:=(few_sub (l:=o.getD [])).length_le
  have g2:f24 (za (qdh (o.getD [])))=some (za (qdh (o.getD [])),yx (qdh (o.getD []))):=by
   have:=q4f (o:=za (qdh (o.getD []))) (by rw[yd];omega)
   rwa [yd]at this
  have hmin:min (m:Int) 1=(m:Int):=by omega
  have v1:f37 (za (qdh (o.getD []))) (za lb) (min (m:Int) 1)=some (srV (qdh (o.getD [])) lb m):=by
   have:=qts (P:=za (qdh (o.getD []))) (B:=za lb) (m:=m) (by rw[yd];exact jj5 z1) (by rw[q3];exact z2) (by omega) (by rw[yd];exact few (by omega) (by omega))
   rw[yd,q3]at this
   rw[hmin,this]
  have v2:f37 (za (o.getD [])) (za lb) (min (m:Int) 1)=some (srV (o.getD []) lb m):=by
   have:=qts (P:=za (o.getD [])) (B:=za lb) (m:=m) (by rw[q1];exact z1) (by rw[q3];exact z2) (by omega) (by rw[q1];exact few (by omega) (by omega))
   rw[q1,q3]at this
   rw[hmin,this]
  have hbst:(qax (qdh (o.getD [])) lb (chE (qdh (o.getD [])) m)).2=(qax (o.getD []) lb (chE (o.getD []) m)).2:=by
   match m,hm with
   |0,_=>exact jbt
   |1,_=>exact jek hp
  have hsr:(srV (qdh (o.getD [])) lb m).2=(srV (o.getD []) lb m).2:=by
   unfold srV
   rw[hbst]
  have v1':f37 (za (qdh (o.getD []))) (za lb) (min (m:Int) 1)=some ((srV (qdh (o.getD [])) lb m).1,(srV (o.getD []) lb m).2.1,(srV (o.getD []) lb m).2.2):=by
   rw[v1,←hsr]
  rw[K16 hab (jbn (by omega)) g2 g38 v1' g24 v2]
  by_cases he:(srV (o.getD []) lb m).2.2=0
  ·rw[K21 he]
   have hbt:(qax (o.getD []) lb (chE (o.getD []) m)).2.2=true:=by
    cases hb:(qax (o.getD []) lb (chE (o.getD []) m)).2.2 with
    |true=>rfl
    |false=>
     have h':(if(qax (o.getD []) lb (chE (o.getD []) m)).2.2=true then(0:Int)else 24)=0:=he
     rw[hb]at h'
     exact absurd h' (by decide)
   obtain⟨c,hc,_,hce⟩:=q21 hbt
   have hx:(srV (o.getD []) lb m).1=za c:=by
    show(qax (o.getD []) lb (chE (o.getD []) m)).1=_
    rw[hce]
   rw[hx]
   obtain⟨hc1,hc2⟩:=qmb hc
   have qc:=yd c
   have g30:f30 (za c)=some (some c):=by
    have:=jop (o:=za c) (by rw[qc];omega)
    rwa [qc]at this
   have g133:f133 (za (o.getD [])) (some c)=some 0:=by
    rw[jjr (by show c.length≤_;omega),q1]
    have:y9 [qb2 (o.getD []),qoz (o.getD []) ((some c:Option (List Int)).getD [])]=0:=qao.2 fun y hy=>by
     simp only[List.mem_cons,List.not_mem_nil,or_false]at hy
     rcases hy with rfl|rfl
     ·exact z1
     ·exact q5q (by show c.length≤3;omega) hc2
    rw[this]
   have g138:f138 (za (o.getD [])) (some c)=some (some (qbq (o.getD []) c),true):=by
    have:=q6o (ps:=za (o.getD [])) (ch:=some c) (by rw[q1];omega) (by show c.length≤3;omega) (by rw[q1];exact hc2) (by rw[q1];exact hp)
    rw[this,q1]
    have e:qeg (o.getD []) ((some c:Option (List Int)).getD [])=some (qbq (o.getD []) c):=jeq (qyu hp hc)
    rw[e]
   have hdl:(qbq (o.getD []) c).length=(o.getD []).length:=qqj
   rw[K22 g24 g30 (S69 g133 g138) hdl]
   have r3:=q0p (x:=za c) (by rw[qc];omega) c.length 0 (qbq (o.getD []) c) (by rw[qc];omega) (by
    rw[List.drop_zero,qc]
    intro y hy
    rw[hdl]
    exact hc2 y hy) (by
    intro p hpm
    have hok:=qjb.1 (by have:=qyu hp hc;rwa [qpk]at this) p hpm
    obtain⟨i,hi⟩:=List.getElem?_of_mem hpm
    have:∃q,(o.getD [])[i]?=some q:=by
     have hlt:=(List.getElem?_eq_some_iff.1 hi).1
     exact⟨_,List.getElem?_eq_getElem (by omega)⟩
    obtain⟨q,hq⟩:=this
    obtain⟨r,hr1,hr2⟩:=qs6 (ch:=c) hq
    rw[hi]at hr1
    obtain rfl:=Option.some.inj hr1
    have:=qc9 (hp q (List.mem_of_getElem? hq))
    omega)
   rw[List.drop_zero,qc,q3g]at r3
   have r3':itO (qko (za c) (qbq (o.getD []) c).length) (0,qbq (o.getD []) c)=some ((c.length:Int),o.getD []):=r3
   have g75:f75 (some (o.getD []))=some (za (o.getD []),yx (o.getD [])):=jll (o:=some (o.getD [])) (by show(o.getD []).length≤_;omega)
   have g74:f74 (za (o.getD [])) o=some true:=jfh (by rw[q1];omega) q1
   exact K24 (o:=none) r3' hdl.symm g75 (fun l hl=>by
    cases hL:o.getD []with
    |nil=>rw[hL]at hl;cases hl
    |cons y ys=>rfl) g74
  ·rw[j17 he]
   exact⟨_,rfl⟩
 have g70:f70 (za (o.getD []))=some (za (qhz (o.getD [])),0):=by
  have:=jmd (o:=za (o.getD [])) (by rw[q1];omega)
  rw[q1,if_pos z1]at this
  exact this
 have hds:((za (qhz (o.getD []))).getD []).length≤(o.getD []).length:=by
  rw[yd];exact q4i
 by_cases h1:lb.length≤1
 ·rw[j0z (bs:=some lb) h1,K14 (.inr ⟨_,rfl⟩) g24 g70 hds]
  exact after
 ·have g38':f38 (some (lb.drop 1))=some (za (lb.drop 1),yx (lb.drop 1)):=q49 (o:=some (lb.drop 1)) (by show(lb.drop 1).length≤_;rw[List.length_drop];omega)
  have v3:f37 (za (o.getD [])) (za (lb.drop 1)) (m:Int)=some (srV (o.getD []) (lb.drop 1) m):=by
   have:=qts (P:=za (o.getD [])) (B:=za (lb.drop 1)) (m:=m) (by rw[q1];exact z1) (by rw[yd];exact jeb z2 (by omega)) (by omega) (by rw[q1];exact few (by omega) (by omega))
   rwa [q1,yd]at this
  rw[j38 (by omega) g24 g38' v3 (fun he=>qyd (fun c hc hg=>⟨c,hc,ji5 hg,Int.le_refl _⟩) he),K14 (.inl rfl) g24 g70 hds]
  exact after
theorem jcz (l:List qi)(b:qq)(hb:(∃p:List qb,b=.cells (pcl p))∨b=.dead):yl 2 [.cells (dcl l),b]=true:=by
 have h1:∀l:List qi,qcp 2 (dcl l)=true:=by
  intro l
  induction l with
  |nil=>rfl
  |cons y l ih=>rw[qei];exact ih
 have h2:∀l:List qb,qcp 2 (pcl l)=true:=by
  intro l
  induction l with
  |nil=>rfl
  |cons y l ih=>rw[qbj];exact ih
 rcases hb with⟨p,rfl⟩|rfl
 ·simp only[yl,qa4,h1,h2,Bool.and_self]
 ·simp only[yl,qa4,h1,Bool.and_self]
theorem jsy (o:Option (List qb))(bs:Option (List qi))(n:Int)(hn:0≤n∧n≤255):∃H,ye prY (X prY) 10 [sl 8 zd o,sl 5 yf bs,.int .u8 n] []=some (.bool true,false,H):=by
 obtain⟨b1,h1,h1'⟩:=jns (o:=o) (bs:=bs) (n:=0)
 refine W10 h1 jos jni ?_
 intro hb z1 z2
 obtain⟨hs,hb9,_⟩:=h1' hb
 have h6:=(qca z1).1
 have hp:=(qca z1).2
 have h4:(o.getD []).length≤4:=by
  unfold qsn at hs
  simp only[Bool.and_eq_true,Bool.or_eq_true,decide_eq_true_eq]at hs
  omega
 have few:∀ {ps:List qb} {k:Nat},ps.length≤4→k≤2→qrs ps k:=fun h1 h2=>.inl ⟨h1,h2⟩
 cases bs with
 |none=>exact absurd z2 (by decide)
 |some lb=>
  have z2:qdq lb=0:=z2
  obtain⟨⟨hb1,hb8⟩,hbb⟩:=qg0 z2
  obtain⟨m,hm,hz⟩:∃m:Nat,m≤1∧qh8 (j9 .i64 n) 2=some (m:Int):=by
   obtain⟨k,rfl⟩:=Int.eq_ofNat_of_zero_le hn.1
   refine⟨k % 2,by omega,?_⟩
   rw[yq (by omega) (by omega)]
   exact qqm (b:=2) (by decide)
  have q1:=yd (o.getD [])
  have q3:=yd lb
  obtain⟨n1,n2⟩:=qz0 hb1
  have g24:f24 o=some (za (o.getD []),yx (o.getD [])):=q4f (by omega)
  have g38:f38 (some lb)=some (za lb,yx lb):=q49 (o:=some lb) (by show lb.length≤_;omega)
  have v:∀(P:List qb) (B:List qi) (k:Nat),qb2 P=0→qdq B=0→P.length≤4→k≤2→f37 (za P) (some B) (k:Int)=some (srV P B k):=fun P B k y1 y2 y3 y4=>by
   have:=qts (P:=za P) (B:=some B) (m:=k) (by rw[yd];exact y1) y2 (by omega) (by rw[yd];exact few y3 y4)
   rwa [yd]at this
  rw[KW2 (x:=(srV (o.getD []) lb m).1) (c:=(srV (o.getD []) lb m).2.1) (e:=(srV (o.getD []) lb m).2.2) hz g24 g38 (by rw[n1];exact v _ _ m z1 z2 h4 (by omega)) jwm]
  rw[n1,n2]at g38
  have hw:j9 .i64 ((m:Int)+1)=((m+1:Nat):Int):=by rw[yq (by omega) (by omega)];omega
  have zw:=jj9 z2
  have k2:∀c∈chE (o.getD []) m,gd (o.getD []) lb c→∃c'∈chE (o.getD []) m,gd (o.getD []) (lb.map qcc) c'∧cst (o.getD []) c'≤cst (o.getD []) c:=fun c hc hg=>⟨c,hc,jnv z2 (jjf z1 (by omega) hc) hg,Int.le_refl _⟩
  have k3:∀c∈chE (o.getD []) m,gd (o.getD []) lb c→∃c'∈chE (o.getD []) (m+1),gd (o.getD []) lb c'∧cst (o.getD []) c'≤cst (o.getD []) c:=fun c hc hg=>⟨c,List.mem_append.2 (.inl hc),hg,Int.le_refl _⟩
  have k4:∀c∈chE (o.getD []) m,gd (o.getD []) lb c→∃c'∈chE ((o.getD []).map mor) m,gd ((o.getD []).map mor) lb c'∧cst ((o.getD []).map mor) c'≤cst (o.getD []) c:=fun c hc hg=>⟨c,jb1 (by rw[List.length_map]) (jjy hp) hc,jlt hg,by rw[ji4];exact Int.le_refl _⟩
  have hb2:∀e:Int,e=(srV (o.getD []) lb m).2.2→e=0→(srV (o.getD []) (lb.map qcc) m).2.2=0∧(srV (o.getD []) lb (m+1)).2.2=0∧(srV ((o.getD []).map mor) lb m).2.2=0∧max (max (srV (o.getD []) (lb.map qcc) m).2.1 (srV (o.getD []) lb (m+1)).2.1) (srV ((o.getD []).map mor) lb m).2.1≤(srV (o.getD []) lb m).2.1:=by
   intro e he h0
   have h0:(srV (o.getD []) lb m).2.2=0:=by omega
   obtain⟨a1,a2⟩:=qyd k2 h0
   obtain⟨b1,b2⟩:=qyd k3 h0
   obtain⟨c1,c2⟩:=qyd k4 h0
   exact⟨a1,b1,c1,by omega⟩
  have r0:=jbg (L:=lb) (by omega)
  cases hL:o.getD []with
  |nil=>
   rw[hL]at g24 z1 h4 hb2
   have hmap:([]:List qb).map mor=[]:=rfl
   rw[hmap]at hb2
   rw[K5n hb1 g38 r0 (by show(lb.map qcc).length=_;rw[List.length_map]) g24 (v [] (lb.map qcc) m z1 zw (by simp) (by omega)) (by rw[hw];exact v [] lb (m+1) z1 z2 (by simp) (by omega)) (v [] lb m z1 z2 (by simp) (by omega)) (hb2 _ rfl)]
   have:=jcs (o:=o) (lb:=lb) (m:=m) (by rw[hL];exact z1) z2 (by rw[hL];simp) hm (a:=.cells (dcl (lb.map qcc))) (b:=.dead) (jcz _ _ (.inr rfl))
   rw[hL]at this
   exact this
  |cons y ys=>
   have hlen:0<(o.getD []).length:=by rw[hL];exact Nat.succ_pos _
   rw[←hL]
   obtain⟨n3,n4⟩:=qz0 hlen
   rw[n3,n4]at g24
   have hv:∀(P:List qb) (B:List qi) (k:Nat),0<P.length→qb2 P=0→qdq B=0→P.length≤4→k≤2→f37 (some P) (some B) (k:Int)=some (srV P B k):=fun P B k y0 y1 y2 y3 y4=>by
    have:=v P B k y1 y2 y3 y4
    rwa [(qz0 y0).1]at this
   rw[K5 hb1 g38 r0 (by show(lb.map qcc).length=_;rw[List.length_map]) hlen g24 (jb9 (by omega) hp) (by show((o.getD []).map mor).length=_;rw[List.length_map]) (hv _ (lb.map qcc) m hlen z1 zw h4 (by omega)) (by rw[hw];exact hv _ lb (m+1) hlen z1 z2 h4 (by omega)) (hv _ lb m (by rw[List.length_map];exact hlen) (jjo z1) z2 (by rw[List.length_map];exact h4) (by omega)) (hb2 _ rfl)]
   exact jcs z1 z2 h4 hm (jcz _ _ (.inl ⟨_,rfl⟩))
theorem jre {x:Int}(h:(Lit.int .u8 x).wf=true):0≤x∧x≤255:=by
 simp only[Lit.wf,Bool.and_eq_true,decide_eq_true_eq]at h
 have e1:IntKind.min .u8=0:=by decide
 have e2:IntKind.max .u8=255:=by decide
 omega
theorem I10 (x:Option (List qb))(b:Option (List qi))(n:Int)(h:0≤n∧n≤255):zb prY (X prY) 10 [sl 8 zd x,sl 5 yf b,.int .u8 n]=some (.bool true,false):=by
 obtain⟨H,g⟩:=jsy x b n h
 exact qed rfl g (by first|rfl|simp only[go_sem,seval]) (by first|rfl|simp only[go_sem,seval])
end Go.Z
