/- One operation. -/
import Derived.Test.YtfopaakmgogpiaaGreatDoorAbsA
import Derived.Laws.StructEq
import Derived.Laws.Strings
import Derived.ChangeKeysEq
import Derived.Lib.SliceRun
import Derived.WalkSpells
import Derived.Laws.Cover3
import Derived.Laws.Pointers
set_option linter.unusedVariables false
set_option linter.unusedSimpArgs false
namespace Go.Abs
def kg (P:Program)(C0:Ctx)(w0:World)(C:Ctx)(tmps:Array Value)(d:Loc)(env:Env)(res:qq)(v:Value)(w':World):Prop:=
 ∃C' ω',C.le C'∧MInv P C' ω' w0 C0 res.heap w'∧EnvRel C' ω' w' w0.heap.size (k9 env res.strip) tmps∧Rep C' res.v v∧(res.own=true→OwnV C' ω' w' w0.heap.size d res.v v)
theorem qx5 (C:Ctx){v:Value}{x:qa}(h:qof v=some x):Rep C x v:=by
 unfold qof at h
 split at h<;>first|cases h|skip
 ·exact .bool _
 ·exact .int _ _
 ·exact .str _
 ·exact .lnil _
 ·exact .nilptr
 ·exact .nilmap
 ·exact .nilfn
theorem qir (C:Ctx):∀ {vs:List Value} {xs:List qa},qf6 vs=some xs→RepL C xs vs
 | [],xs,h=>by simp[qf6]at h;subst h;exact .nil
 |v::vs,xs,h=>by
  simp only[qf6]at h
  split at h
  ·rename_i x hx
   split at h
   ·rename_i ys hys
    cases h
    exact .cons _ _ _ _ (qx5 C hx) (qir C hys)
   ·cases h
  ·cases h
theorem qty (C:Ctx){v:Value}{x:qa}(h:ofValue v=some x):Rep C x v:=by
 unfold ofValue at h
 split at h
 ·rename_i cs
  split at h
  ·rename_i xs hx
   cases h
   exact .agg _ _ (qir C hx)
  ·cases h
 ·exact qx5 C h
section
variable {P:Program}{C C0:Ctx}{ω:Nat→Option Loc}{w w0:World}{hp:j8}{env:Env}{a:Act}{B:Nat}
theorem zt {x:Operand}{y:qh}{v:qa}(he:EnvRep C env a.tmps)(hc:zq x=some y)(hv:zc env y=some v):Rep C v (a.eval x):=by
 cases x with
 |tmp t=>
  simp only[zq]at hc
  cases hc
  simp only[zc]at hv
  split at hv
  ·rename_i x hx
   cases hv
   obtain⟨u,h1,h2⟩:=he t x hx
   have:a.eval (.tmp t)=u:=by simp[Act.eval,Array.getD_eq_getD_getElem?,h1]
   rw[this];exact h2
  ·cases hv
 |const u=>
  simp only[zq]at hc
  split at hc
  ·rename_i z hz
   cases hc
   simp only[zc]at hv
   cases hv
   exact qty C hz
  ·cases hc
 |func f=>
  simp only[zq]at hc
  cases hc
  simp only[zc]at hv
  cases hv
  exact .fn (.func f) (.func f) [] [] [] [] rfl .nil .nil
 |global g=>simp[zq]at hc
theorem qh0 (he:EnvRep C env a.tmps):∀ {xs:List Operand} {ys:List qh} {vs:List qa},qgt xs=some ys→qa9 env ys=some vs→RepL C vs (xs.map a.eval)
 | [],ys,vs,hc,hv=>by simp[qgt]at hc;subst hc;simp[qa9]at hv;subst hv;exact .nil
 |x::xs,ys,vs,hc,hv=>by
  simp only[qgt]at hc
  split at hc
  ·rename_i y hy
   split at hc
   ·rename_i zs hzs
    cases hc
    simp only[qa9]at hv
    split at hv
    ·rename_i v hv1
     split at hv
     ·rename_i us hus
      cases hv
      exact .cons _ _ _ _ (zt he hy hv1) (qh0 he hzs hus)
     ·cases hv
    ·cases hv
   ·cases hc
  ·cases hc
theorem Rep.bool_inv {b:Bool}{v:Value}(h:Rep C (.bool b) v):v=.bool b:=by cases h;rfl
theorem Rep.int_inv {k:IntKind}{n:Int}{v:Value}(h:Rep C (.int k n) v):v=.int k n:=by cases h;rfl
theorem Rep.str_inv {s:List UInt8}{v:Value}(h:Rep C (.str s) v):v=.string ⟨⟨s⟩⟩:=by cases h;rfl
theorem Rep.ptr_inv {b o:Nat}{v:Value}(h:Rep C (.ptr b o) v):∃r,C.β b=some r∧v=.pointer (some ⟨r,o,none⟩):=by cases h;exact⟨_,‹_›,rfl⟩
theorem Rep.vptr_inv {x:qa}{v:Value}(h:Rep C (.vptr x) v):∃r o,v=.pointer (some ⟨r,o,none⟩)∧RepC C r x.flat o:=by cases h;exact⟨_,_,rfl,‹_›⟩
theorem Rep.agg_inv {cs:List qa}{v:Value}(h:Rep C (.agg cs) v):∃vs,v=.agg ⟨vs⟩∧RepL C cs vs:=by cases h;exact⟨_,rfl,‹_›⟩
theorem Rep.tup_inv {cs:List qa}{v:Value}(h:Rep C (.tup cs) v):∃vs,v=.tuple ⟨vs⟩∧RepL C cs vs:=by cases h;exact⟨_,rfl,‹_›⟩
theorem Rep.ms_inv {b o len:Nat}{v:Value}(h:Rep C (.ms b o len) v):∃r cap,C.β b=some r∧len≤cap∧v=.slice (some ⟨r,o,none⟩) len cap:=by cases h;exact⟨_,_,‹_›,‹_›,rfl⟩
theorem Rep.list_inv {n:Bool}{sz:Nat}{xs:List qa}{v:Value}(h:Rep C (.list n sz xs) v):
  (n=true∧xs=[]∧v=.slice none 0 0)∨(n=false∧∃r o cap,v=.slice (some ⟨r,o,none⟩) xs.length cap∧xs.length≤cap∧RepRow C r sz xs o)∨(n=false∧xs=[]∧∃a,a.spot≠none∧v=.slice (some a) 0 0):=by
 cases h
 ·exact .inl ⟨rfl,rfl,rfl⟩
 ·exact .inr (.inl ⟨rfl,_,_,_,rfl,‹_›,‹_›⟩)
 ·exact .inr (.inr ⟨rfl,rfl,_,‹_›,rfl⟩)
theorem Rep.len {n:Bool}{sz:Nat}{xs:List qa}{v:Value}(h:Rep C (.list n sz xs) v):∃b cap,v=.slice b xs.length cap:=by
 rcases h.list_inv with⟨rfl,rfl,rfl⟩|⟨rfl,r,o,cap,rfl,_,_⟩|⟨rfl,rfl,a,_,rfl⟩
 ·exact⟨none,0,rfl⟩
 ·exact⟨_,_,rfl⟩
 ·exact⟨_,_,rfl⟩
theorem add_lit (r o n:Nat):(⟨r,o,none⟩:Addr).add n=⟨r,o+n,none⟩:=by unfold Addr.add;split<;>simp_all
theorem qgy (k:IntKind)(n:Int):j6 k n=k.wrap n:=by
 unfold j6
 cases h:qfi k n with
 |false=>rfl
 |true=>
  simp only[cT]
  symm
  have key:∀m:Nat,IntKind.min k≤n→n≤IntKind.max k→k.wrap n=n:=by
   intro _ h1 h2
   unfold IntKind.wrap
   cases k<;>simp[IntKind.bits,IntKind.signed,IntKind.min,IntKind.max]at *<;>omega
  refine key 0 ?_ ?_
  ·cases k<;>cases n<;>simp[qfi,IntKind.min,IntKind.signed,IntKind.bits]at *<;>omega
  ·cases k<;>cases n<;>simp[qfi,IntKind.max,IntKind.signed,IntKind.bits]at *<;>omega
theorem qf5 {t:TypeId}{b:Bool}(h:qak P t=some b)(w:World):(isAgg t).run P w=.ok b w:=by
 unfold qak at h
 unfold isAgg
 cases hu:P.underlying t with
 |none=>simp[hu]at h
 |some d=>rw[hu]at h;simp[run_underlying hu];cases d<;>simp at h<;>subst h<;>rfl
theorem qah {t:TypeId}{n:Nat}(h:yh P t=some n)(w:World):(sizeOf t).run P w=.ok n w:=by
 unfold yh at h
 cases hi:P.info? t with
 |none=>simp[hi]at h
 |some i=>simp[hi]at h;simp[sizeOf,typeInfo,hi,h]
theorem q4v {t:TypeId}{ag:Bool}{n off:Nat}{cs:List qa}{vs:List Value}{x:qa}(hg:qak P t=some ag)(hn:yh P t=some n)(hp:part ag cs off n=some x)(hr:RepL C cs vs)(w:World):
  ∃v,(Go.part t ⟨vs⟩ off).run P w=.ok v w∧Rep C x v:=by
 unfold part at hp
 cases ag with
 |true=>
  simp only[cT]at hp
  cases hb:Nat.ble (off+n) cs.length with
  |false=>simp[hb]at hp
  |true=>
   simp[hb]at hp
   subst hp
   refine⟨.agg ⟨(vs.drop off).take n⟩,?_,.agg _ _ ((hr.drop off).take n)⟩
   simp[Go.part,qf5 hg,qah hn]
 |false=>
  simp only[cond_false]at hp
  obtain⟨v,h1,h2⟩:=hr.get hp
  exact⟨v,by simp[Go.part,qf5 hg,h1],h2⟩
theorem qss (a:List UInt8):(⟨⟨a⟩⟩:ByteArray).toList=a:=by
 rw[ByteArray.toList_eq]
end
theorem qh8:∀ {ks:List Kd} {xs ys:List qa} (ks':List Kd) (xs' ys':List qa),xs.length=ks.length→ys.length=ks.length →
  kz (ks++ks') (xs++xs') (ys++ys')=match kz ks xs ys with|some true=>kz ks' xs' ys'|r=>r
 | [],[],[],ks',xs',ys',_,_=>by simp[kz]
 |k::ks,x::xs,y::ys,ks',xs',ys',h,h'=>by
  simp only[List.cons_append,kz]
  cases he:qcm k x y with
  |none=>simp
  |some b=>cases b with
   |false=>simp
   |true=>simpa using qh8 ks' xs' ys' (by simpa using h) (by simpa using h')
 | [],_::_,_,_,_,_,h,_=>by simp at h
 | [],[],_::_,_,_,_,_,h=>by simp at h
 |_::_,[],_,_,_,_,h,_=>by simp at h
 |_::_,_::_,[],_,_,_,_,h=>by simp at h
def qin (ag:Bool)(us:List Value):Value:=if ag then .agg ⟨us⟩else us.headD undef
def q90:TypeDesc→Bool
 | .struct _=>true
 | .array _ _=>true
 |_=>false
section
variable {P:Program}{C:Ctx}
theorem jbt {t:TypeId}{d:TypeDesc}(h:P.underlying t=some d):qak P t=some (q90 d):=by
 unfold qak
 rw[h]
 cases d<;>rfl
theorem ql2 {t:TypeId}{ag:Bool}{n off:Nat}{us:List Value}(hg:qak P t=some ag)(hn:yh P t=some n)(h1:ag=false→n=1)(hl:off+n≤us.length)(w:World):
  (Go.part t ⟨us⟩ off).run P w=.ok (qin ag ((us.drop off).take n)) w:=by
 cases ag with
 |true=>simp[Go.part,qf5 hg,qah hn,qin]
 |false=>
  obtain rfl:=h1 rfl
  have hlt:off<us.length:=by omega
  simp only[Go.part,Sem.run_bind,qf5 hg,Result.andThen_ok,qin,Bool.false_eq_true,if_false]
  have e:(⟨us⟩:Array Value)[off]?=some us[off]:=by
   show(List.toArray us)[off]?=_
   rw[List.getElem?_toArray,List.getElem?_eq_getElem hlt]
  rw[e,List.drop_eq_getElem_cons hlt]
  rfl
def jgm (P:Program)(C:Ctx)(n:Nat)(t:TypeId)(ks:List Kd):Prop:=
 ∃ag,qak P t=some ag∧yh P t=some ks.length∧(ag=false→ks.length=1)∧∀d,n≤d→∀xs ys us vs b w,RepL C xs us→RepL C ys vs→xs.length=ks.length→ys.length=ks.length→kz ks xs ys=some b →
  (Op.equalIn d t (qin ag us) (qin ag vs)).run P w=.ok b w
theorem qjv {α:Type}(xs:List α)(off n:Nat):xs.drop off=(xs.drop off).take n++xs.drop (off+n):=by
 rw[←List.drop_drop];exact(List.take_append_drop _ _).symm
theorem qtv {n d:Nat}(hd:n≤d):∀(fs:List Field) (off:Nat) (ks:List Kd) (xs ys:List qa) (us vs:List Value) (b:Bool) (w:World),
  qn2 (qgf P n) off fs=some ks →
  (∀f∈fs,∀ks,qgf P n f.type=some ks→jgm P C n f.type ks) →
  RepL C xs us→RepL C ys vs→xs.length=off+ks.length→ys.length=off+ks.length→kz ks (xs.drop off) (ys.drop off)=some b →
  (Op.eqFields d ⟨us⟩ ⟨vs⟩ fs).run P w=.ok b w
 | [],off,ks,xs,ys,us,vs,b,w,hf,_,hx,hy,hxl,hyl,he=>by
  simp[qn2]at hf
  subst hf
  rw[List.drop_eq_nil_of_le (by simp at hxl;omega),List.drop_eq_nil_of_le (by simp at hyl;omega)]at he
  simp[kz]at he
  subst he
  simp[Op.eqFields]
 |f::fs,off,ks,xs,ys,us,vs,b,w,hf,hok,hx,hy,hxl,hyl,he=>by
  simp only[qn2]at hf
  split at hf
  ·rename_i hc
   simp at hc
   obtain⟨hname,hoff⟩:=hc
   split at hf
   ·rename_i k1 hk1
    split at hf
    ·rename_i k2 hk2
     cases hf
     obtain⟨ag,hag,hsz,h1,heq⟩:=hok f (by simp) k1 hk1
     have hul:=hx.length
     have hvl:=hy.length
     simp at hxl hyl
     have p1:=ql2 (P:=P) (us:=us) (off:=f.offset) hag hsz h1 (by omega) w
     have p2:=ql2 (P:=P) (us:=vs) (off:=f.offset) hag hsz h1 (by omega) w
     rw[qjv xs off k1.length,qjv ys off k1.length,qh8 _ _ _ (by simp;omega) (by simp;omega)]at he
     simp only[Op.eqFields,ne_eq,hname,not_false_eq_true,if_true,Sem.run_bind,p1,p2,Result.andThen_ok]
     rw[hoff]
     cases hb:kz k1 ((xs.drop off).take k1.length) ((ys.drop off).take k1.length)with
     |none=>rw[hb]at he;cases he
     |some b1=>
      rw[hb]at he
      rw[heq d hd _ _ _ _ b1 w ((hx.drop off).take _) ((hy.drop off).take _) (by simp;omega) (by simp;omega) hb]
      cases b1 with
      |false=>simp at he;subst he;simp
      |true=>
       simp only[Result.andThen_ok,Bool.not_true,Bool.false_eq_true,if_false]
       exact qtv hd fs (off+k1.length) k2 xs ys us vs b w hk2 (fun g hg=>hok g (by simp[hg])) hx hy (by omega) (by omega) he
    ·cases hf
   ·cases hf
  ·cases hf
theorem qvg {n d:Nat}(hd:n≤d){e:TypeId}{ag:Bool}{k1:List Kd}(hag:qak P e=some ag)(hsz:yh P e=some k1.length)(h1:ag=false→k1.length=1)
  (heq:∀d,n≤d→∀xs ys us vs b w,RepL C xs us→RepL C ys vs→xs.length=k1.length→ys.length=k1.length→kz k1 xs ys=some b→(Op.equalIn d e (qin ag us) (qin ag vs)).run P w=.ok b w):
  ∀(len i:Nat) (xs ys:List qa) (us vs:List Value) (b:Bool) (w:World),
  RepL C xs us→RepL C ys vs→xs.length=i*k1.length+len*k1.length→ys.length=i*k1.length+len*k1.length→kz (List.replicate len k1).flatten (xs.drop (i*k1.length)) (ys.drop (i*k1.length))=some b →
  (Op.eqItems d e k1.length ⟨us⟩ ⟨vs⟩ (List.range' i len)).run P w=.ok b w
 |0,i,xs,ys,us,vs,b,w,hx,hy,hxl,hyl,he=>by
  rw[List.drop_eq_nil_of_le (by simp at hxl;omega),List.drop_eq_nil_of_le (by simp at hyl;omega)]at he
  simp[kz]at he
  subst he
  simp[Op.eqItems]
 |len+1,i,xs,ys,us,vs,b,w,hx,hy,hxl,hyl,he=>by
  have hul:=hx.length
  have hvl:=hy.length
  rw[Nat.succ_mul]at hxl hyl
  have p1:=ql2 (P:=P) (us:=us) (off:=i*k1.length) hag hsz h1 (by omega) w
  have p2:=ql2 (P:=P) (us:=vs) (off:=i*k1.length) hag hsz h1 (by omega) w
  rw[List.replicate_succ,List.flatten_cons,qjv xs (i*k1.length) k1.length,qjv ys (i*k1.length) k1.length,qh8 _ _ _ (by simp;omega) (by simp;omega)]at he
  simp only[List.range'_succ,Op.eqItems,Sem.run_bind,p1,p2,Result.andThen_ok]
  cases hb:kz k1 ((xs.drop (i*k1.length)).take k1.length) ((ys.drop (i*k1.length)).take k1.length)with
  |none=>rw[hb]at he;cases he
  |some b1=>
   rw[hb]at he
   rw[heq d hd _ _ _ _ b1 w ((hx.drop _).take _) ((hy.drop _).take _) (by simp;omega) (by simp;omega) hb]
   cases b1 with
   |false=>simp at he;subst he;simp
   |true=>
    simp only[Result.andThen_ok,Bool.not_true,Bool.false_eq_true,if_false]
    refine qvg hd hag hsz h1 heq len (i+1) xs ys us vs b w hx hy (by rw[hxl,Nat.succ_mul];omega) (by rw[hyl,Nat.succ_mul];omega) ?_
    rw[Nat.succ_mul];exact he
theorem q02 {t:TypeId}{n:Nat}(h:yh P t=some n):P.cellsOf t=n:=by
 unfold yh at h
 unfold Program.cellsOf
 rw[h];rfl
theorem q03 {t:TypeId}{n:Nat}(h:yh P t=some n):∃i,P.info? t=some i∧i.size=n:=by
 unfold yh at h
 cases hi:P.info? t with
 |none=>simp[hi]at h
 |some i=>exact⟨i,rfl,by simpa[hi]using h⟩
theorem q45 {k:Kd}{x y:qa}{b:Bool}(h:kz [k] [x] [y]=some b):qcm k x y=some b:=by
 simp only[kz]at h
 split at h<;>simp_all
theorem jc4 {xs:List qa}{us:List Value}(h:RepL C xs us)(hl:xs.length=1):∃x u,xs=[x]∧us=[u]∧Rep C x u:=by
 obtain⟨x,rfl⟩:=List.length_eq_one_iff.1 hl
 cases h with
 |cons _ _ u vs hx h=>cases h;exact⟨x,u,rfl,rfl,hx⟩
theorem q3u {k:Kd}{x y:qa}{b:Bool}{u v:Value}(h:qcm k x y=some b)(hx:Rep C x u)(hy:Rep C y v):
  match k with
  | .int=>∃kd a c,u=.int kd a∧v=.int kd c∧b=(a == c)
  | .str=>∃a c:List UInt8,u=.string ⟨⟨a⟩⟩∧v=.string ⟨⟨c⟩⟩∧b=(a == c)
  | .bool=>∃a c,u=.bool a∧v=.bool c∧b=(a == c):=by
 unfold qcm at h
 split at h
 ·rename_i k a k' c
  cases hx;cases hy
  by_cases hk:k=k'
  ·subst hk;simp at h;exact⟨_,_,_,rfl,rfl,h.symm⟩
  ·simp[hk]at h
 ·cases hx;cases hy;cases h;exact⟨_,_,rfl,rfl,rfl⟩
 ·cases hx;cases hy;cases h;exact⟨_,_,rfl,rfl,rfl⟩
 ·cases h
theorem q2h {t:TypeId}{k:Kd}{x y:qa}{b:Bool}{u v:Value}(hk:kdT P t=some k)(h:qcm k x y=some b)(hx:Rep C x u)(hy:Rep C y v)(d:Nat)(w:World):
  (Op.equalIn (d+1) t u v).run P w=.ok b w:=by
 have hc:=q3u h hx hy
 unfold kdT at hk
 cases hu:P.underlying t with
 |none=>simp[hu]at hk
 |some D=>
  rw[hu]at hk
  cases D<;>simp at hk<;>subst hk<;>simp only[]at hc
  ·obtain⟨a,c,rfl,rfl,rfl⟩:=hc;exact run_equalIn_bool w d t a c hu
  ·obtain⟨kd,a,c,rfl,rfl,rfl⟩:=hc;exact run_equalIn_int w d t kd _ a c hu
  ·obtain⟨a,c,rfl,rfl,rfl⟩:=hc
   rw[run_equalIn_string w d t _ _ hu,qss,qss]
theorem qjp:∀ (n:Nat) (t:TypeId) (ks:List Kd),qgf P n t=some ks→jgm P C n t ks
 |0,t,ks,h=>by simp[qgf]at h
 |n+1,t,ks,h=>by
  unfold qgf at h
  cases hu:P.underlying t with
  |none=>simp[hu]at h
  |some D=>
   rw[hu]at h
   have hag:=jbt hu
   have scalar:∀k,ks=[k]→yh P t=some 1→kdT P t=some k→q90 D=false→jgm P C (n+1) t ks:=by
    intro k hks hs hk ha
    subst hks
    refine⟨false,by rw[hag,ha],hs,fun _=>rfl,?_⟩
    intro d hd xs ys us vs b w hx hy hxl hyl he
    obtain⟨d,rfl⟩:∃m,d=m+1:=⟨d-1,by omega⟩
    obtain⟨x,u,rfl,rfl,hx1⟩:=jc4 hx hxl
    obtain⟨y,v,rfl,rfl,hy1⟩:=jc4 hy hyl
    exact q2h hk (q45 he) hx1 hy1 d w
   cases D<;>simp only[]at h<;>first|(simp at h;done)|skip
   case int k=>
    split at h<;>first|cases h|skip
    rename_i hs
    exact scalar .int rfl (by simpa using hs) (by simp[kdT,hu]) rfl
   case bool=>
    split at h<;>first|cases h|skip
    rename_i hs
    exact scalar .bool rfl (by simpa using hs) (by simp[kdT,hu]) rfl
   case string=>
    split at h<;>first|cases h|skip
    rename_i hs
    exact scalar .str rfl (by simpa using hs) (by simp[kdT,hu]) rfl
   case array len e=>
    split at h
    ·rename_i k1 hk1
     split at h
     ·rename_i hs
      cases h
      obtain⟨ag,hag',hsz,h1,heq⟩:=qjp n e k1 hk1
      have hlen:(List.replicate len k1).flatten.length=len*k1.length:=by simp[List.length_flatten]
      refine⟨true,by simpa[q90]using hag,by rw[hlen];simpa using hs,(fun h=>by cases h),?_⟩
      intro d hd xs ys us vs b w hx hy hxl hyl he
      obtain⟨d,rfl⟩:∃m,d=m+1:=⟨d-1,by omega⟩
      obtain⟨i,hi,_⟩:=q03 hsz
      simp only[qin,if_true]
      rw[run_equalIn_array w d _ _ hu hi,q02 hsz,List.range_eq_range']
      exact qvg (by omega) hag' hsz h1 heq len 0 xs ys us vs b w hx hy (by rw[hxl,hlen];omega) (by rw[hyl,hlen];omega) (by simpa using he)
     ·cases h
    ·cases h
   case struct fs=>
    split at h
    ·rename_i k1 hk1
     split at h
     ·rename_i hs
      cases h
      simp at hs
      obtain⟨hso,hsz⟩:=hs
      refine⟨true,by simpa[q90]using hag,hsz,(fun h=>by cases h),?_⟩
      intro d hd xs ys us vs b w hx hy hxl hyl he
      obtain⟨d,rfl⟩:∃m,d=m+1:=⟨d-1,by omega⟩
      simp only[qin,if_true]
      have hf:P.fieldsOf t=fs:=by simp[Program.fieldsOf,hu]
      rw[run_equalIn_struct w d t _ _ (by rw[hf];exact hu) hso,hf]
      exact qtv (n:=n) (by omega) fs.toList 0 _ xs ys us vs b w hk1 (fun f _ ks hp=>qjp n f.type ks hp) hx hy (by omega) (by omega) (by simpa using he)
     ·cases h
    ·cases h
end
section
variable {P:Program}{C:Ctx}{w:World}{env:Env}{a:Act}{o:Oper}
def Val (P:Program)(C:Ctx)(a:Act)(o:Oper)(w:World)(x:qa):Prop:=∃v,(execOp a.eval o).run P w=.ok (.value v) w∧Rep C x v
theorem jf2 {x:Operand}{y:qh}{v:qa}(he:EnvRep C env a.tmps)(ho:o.op=.move x∨o.op=.assign x)(hc:zq x=some y)(hv:zc env y=some v):Val P C a o w v:=by
 refine⟨a.eval x,?_,zt he hc hv⟩
 rcases ho with ho|ho<;>simp[execOp,ho]
theorem je9 {c x y:Operand}{c' x' y':qh}{b:Bool}{u v:qa}(he:EnvRep C env a.tmps)(ho:o.op=.pick c x y)(h1:zq c=some c')(h2:zq x=some x')(h3:zq y=some y')
  (e1:zc env c'=some (.bool b)) (e2:zc env x'=some u) (e3:zc env y'=some v):Val P C a o w (bif b then u else v):=by
 have r1:=(zt he h1 e1).bool_inv
 have r2:=zt he h2 e2
 have r3:=zt he h3 e3
 refine⟨if b then a.eval x else a.eval y,by simp[execOp,ho,r1,asBool],?_⟩
 cases b<;>simpa
theorem qrw {x:Operand}{y:qh}{v:qa}(he:EnvRep C env a.tmps)(ho:o.op=.nilCheck x)(hc:zq x=some y)(hv:zc env y=some v)
  (hk:(∃b p,v=.ptr b p)∨(∃z,v=.vptr z)):Val P C a o w v:=by
 have r:=zt he hc hv
 rcases hk with⟨b,p,rfl⟩|⟨z,rfl⟩
 ·obtain⟨q,_,hq⟩:=r.ptr_inv
  exact⟨a.eval x,by simp[execOp,ho,hq],r⟩
 ·obtain⟨q,p,hq,_⟩:=r.vptr_inv
  exact⟨a.eval x,by simp[execOp,ho,hq],r⟩
theorem qpn (op:BinOp)(k:IntKind)(x y:Int)(t:TypeId)(h1:op≠.shl)(h2:op≠.shr):binOp op t (.int k x) (.int k y)=match op with
  | .add | .sub | .mul=>Op.intArith op k x y
  | .quo | .rem=>Op.intDiv op k x y
  | .and | .or | .xor | .andNot=>Op.intBits op k x y
  |_=>Op.intCmp op x y:=by
 cases op<;>simp at h1 h2<;>simp[binOp]
theorem q66 {op:BinOp}{k:IntKind}{x y:Int}{v:qa}(h:qei op k x y=some v)(t:TypeId)(w:World):∃u,(binOp op t (.int k x) (.int k y)).run P w=.ok u w∧Rep C v u:=by
 unfold qei at h
 cases op<;>simp only[]at h<;>first|(cases h;done)|skip
 case quo=>
  cases hy:(y == 0)with
  |true=>simp[hy]at h
  |false=>
   simp[hy]at h
   subst h
   have:y≠0:=by simpa using hy
   rw[qgy,qpn _ _ _ _ _ (by simp) (by simp)]
   refine⟨_,?_,.int _ _⟩
   simp[Op.intDiv,this]
 case rem=>
  cases hy:(y == 0)with
  |true=>simp[hy]at h
  |false=>
   simp[hy]at h
   subst h
   have:y≠0:=by simpa using hy
   rw[qpn _ _ _ _ _ (by simp) (by simp)]
   refine⟨_,?_,.int _ _⟩
   simp[Op.intDiv,this]
 all_goals (cases h;rw[qpn _ _ _ _ _ (by simp) (by simp)];try rw[qgy])
 all_goals first
  |exact⟨_,rfl,.int _ _⟩
  |exact⟨_,rfl,.bool _⟩
theorem qq0:∀ (x y:List UInt8),bytesLess x y=Op.bytesLess x y
 |x,[]=>by cases x<;>rfl
 | [],_::_=>rfl
 |a::x,b::y=>by simp only[bytesLess,Op.bytesLess,qq0 x y]
theorem q9s {op:BinOp}{x y:List UInt8}{v:qa}(h:qqg op x y=some v)(t:TypeId)(w:World):∃u,(binOp op t (.string ⟨⟨x⟩⟩) (.string ⟨⟨y⟩⟩)).run P w=.ok u w∧Rep C v u:=by
 unfold qqg at h
 cases op<;>simp only[]at h<;>first|(cases h;done)|skip
 ·cases hb:Nat.ble (x.length+y.length) 4611686018427387904 with
  |false=>simp[hb]at h
  |true=>
   simp[hb]at h
   subst h
   have hle:x.length+y.length≤4611686018427387904:=Nat.le_of_ble_eq_true hb
   refine⟨.string ⟨⟨x++y⟩⟩,?_,.str _⟩
   have e1:(⟨⟨x⟩⟩:ByteArray).size=x.length:=rfl
   have e2:(⟨⟨y⟩⟩:ByteArray).size=y.length:=rfl
   have e3:(⟨⟨x⟩⟩:ByteArray)++⟨⟨y⟩⟩=⟨⟨x++y⟩⟩:=by
    z8 ByteArray.ext
    simp[ByteArray.data_append]
   simp only[binOp,Op.stringOp,e1,e2,e3,IntKind.max,IntKind.signed,IntKind.bits]
   rw[if_neg (by simp;omega)]
   rfl
 all_goals (cases h;refine⟨_,?_,.bool _⟩;simp[binOp,Op.stringOp,qq0])
theorem q8u {op:BinOp}{x y v:qa}{u u':Value}(h:qam op x y=some v)(hx:Rep C x u)(hy:Rep C y u')(t:TypeId)(w:World):∃z,(binOp op t u u').run P w=.ok z w∧Rep C v z:=by
 unfold qam at h
 split at h
 ·rename_i k a k' b
  obtain rfl:=hx.int_inv
  obtain rfl:=hy.int_inv
  have hsh:∀(op:BinOp),(op=.shl∨op=.shr)→qoi op k a b=some v→∃z,(binOp op t (.int k a) (.int k' b)).run P w=.ok z w∧Rep C v z:=by
   intro op hop h
   unfold qoi at h
   cases hb:decide (b<0)with
   |true=>simp[hb]at h
   |false=>
    have hb':¬b<0:=by simpa using hb
    rcases hop with rfl|rfl<;>simp[hb]at h<;>subst h
    ·rw[qgy]; (refine⟨_,?_,.int _ _⟩;simp[binOp,Op.shift,hb'])
    ·(refine⟨_,?_,.int _ _⟩;simp[binOp,Op.shift,hb'])
  have hin:op≠.shl→op≠.shr→(bif decide (k=k')then qei op k a b else none)=some v→∃z,(binOp op t (.int k a) (.int k' b)).run P w=.ok z w∧Rep C v z:=by
   intro _ _ h
   by_cases hk:k=k'
   ·subst hk;simp at h;exact q66 h t w
   ·simp[hk]at h
  cases op<;>simp only[]at h<;>first|exact hsh _ (.inl rfl) h|exact hsh _ (.inr rfl) h|exact hin (by simp) (by simp) h
 ·obtain rfl:=hx.str_inv
  obtain rfl:=hy.str_inv
  exact q9s h t w
 ·cases h
theorem q5f (op:BinOp)(t:TypeId)(x y:Operand)(u v:Value)(w:World)(h1:¬(u=.nilIface∧v=.nilIface))(h2:(∀cs,u≠.agg cs)∨P.eqGuardType P.depth t=false):(eqGuard op t x y u v).run P w=.ok () w:=by
 unfold eqGuard
 by_cases hop:(!(match op with | .eql | .neq=>true|_=>false))=true
 ·cases op<;>simp_all
 ·cases op<;>simp at hop ⊢
  all_goals (
   split
   ·exact absurd ⟨rfl,rfl⟩ h1
   ·rcases h2 with h2|h2
    ·rename_i cs _ ;exact absurd rfl (h2 cs)
    ·simp[h2]
   ·rfl)
theorem qju {op:BinOp}{t u:TypeId}{x y:Operand}{p q z:Value}(ho:o.op=.binOp op t x y u)(hx:a.eval x=p)(hy:a.eval y=q)(h1:¬(p=.nilIface∧q=.nilIface))(h2:(∀cs,p≠.agg cs)∨P.eqGuardType P.depth t=false)
  (hz:(binOp op t p q).run P w=.ok z w):(execOp a.eval o).run P w=.ok (.value z) w:=by
 have hg:=q5f (P:=P) op t x y p q w h1 h2
 subst hx;subst hy
 simp only[execOp,ho,Sem.run_bind,hg,Result.andThen_ok,hz,Sem.run_pure]
theorem q0q {x:qa}{v:Value}(h:Rep C x v)(hx:x≠.undef)(hy:x≠.any:=by simp):v≠.nilIface:=by
 cases h<;>simp at hx hy ⊢
theorem q0p {op:BinOp}{x y v:qa}(h:qam op x y=some v):(x≠.undef∧(∀cs,x≠.agg cs)∧x≠.any):=by
 unfold qam at h
 split at h<;>simp at h ⊢
theorem q5e {x:qa}{v:Value}(h:Rep C x v)(hx:x≠.undef)(ha:∀cs,x≠.agg cs)(hy:x≠.any:=by simp):∀cs,v≠.agg cs:=by
 cases h<;>simp at hx ha hy ⊢
theorem jkz {op:BinOp}{t u:TypeId}{x y:Operand}{x' y':qh}{p q v:qa}(he:EnvRep C env a.tmps)(ho:o.op=.binOp op t x y u)(h1:zq x=some x')(h2:zq y=some y')
  (e1:zc env x'=some p) (e2:zc env y'=some q) (hv:qam op p q=some v):Val P C a o w v:=by
 have r1:=zt he h1 e1
 have r2:=zt he h2 e2
 obtain⟨hn,ha,hy⟩:=q0p hv
 obtain⟨z,hz,hr⟩:=q8u (P:=P) hv r1 r2 t w
 refine⟨z,?_,hr⟩
 exact qju ho rfl rfl (fun h=>q0q r1 hn hy h.1) (.inl (q5e r1 hn ha hy)) hz
theorem qkr {neq:Bool}{t:TypeId}{u v:Value}{b:Bool}(w:World)(hu:(∀k n,u≠.int k n)∧(∀s,u≠.string s)∧(∀k n,u≠.float k n)∧(∀k n m,u≠.complex k n m))
  (h:(Op.equal t u v).run P w=.ok b w):(binOp (if neq then .neq else .eql) t u v).run P w=.ok (.bool (bif neq then !b else b)) w:=by
 obtain⟨h1,h2,h3,h4⟩:=hu
 cases neq<;>cases u<;>simp_all [binOp]
theorem jkk {op:BinOp}{neq:Bool}{t u:TypeId}{x y:Operand}{x' y':qh}{p q:List qa}{ks:List Kd}{b:Bool}(he:EnvRep C env a.tmps)(ho:o.op=.binOp op t x y u)(hop:op=if neq then .neq else .eql)
  (h1:zq x=some x') (h2:zq y=some y') (e1:zc env x'=some (.agg p)) (e2:zc env y'=some (.agg q)) (hg:P.eqGuardType P.depth t=false) (hk:qgf P qjr t=some ks) (hag:qak P t=some true)
  (hl1:p.length=ks.length) (hl2:q.length=ks.length) (hb:kz ks p q=some b):Val P C a o w (.bool (bif neq then !b else b)):=by
 obtain⟨us,hu,ru⟩:=(zt he h1 e1).agg_inv
 obtain⟨vs,hv,rv⟩:=(zt he h2 e2).agg_inv
 obtain⟨ag,ha,_,_,heq⟩:=qjp (C:=C) qjr t ks hk
 rw[hag]at ha;cases ha
 have hq:=heq 10000 (by decide) p q us vs b w ru rv hl1 hl2 hb
 simp only[qin,if_true]at hq
 refine⟨_,?_,.bool _⟩
 have hbin:=qkr (P:=P) (neq:=neq) (t:=t) (u:=.agg ⟨us⟩) (v:=.agg ⟨vs⟩) (b:=b) w ⟨by simp,by simp,by simp,by simp⟩ hq
 exact qju (hop▸ho) hu hv (by simp) (.inr hg) hbin
theorem jky {op:BinOp}{neq:Bool}{t u:TypeId}{x y:Operand}{x' y':qh}{p q:Bool}(he:EnvRep C env a.tmps)(ho:o.op=.binOp op t x y u)(hop:op=if neq then .neq else .eql)
  (h1:zq x=some x') (h2:zq y=some y') (e1:zc env x'=some (.bool p)) (e2:zc env y'=some (.bool q)) (ht:P.underlying t=some .bool):Val P C a o w (.bool (bif neq then !(p == q)else p == q)):=by
 have hu:=(zt he h1 e1).bool_inv
 have hv:=(zt he h2 e2).bool_inv
 refine⟨_,?_,.bool _⟩
 have hbin:=qkr (P:=P) (neq:=neq) (t:=t) (u:=.bool p) (v:=.bool q) (b:=p == q) w ⟨by simp,by simp,by simp,by simp⟩ (run_equalIn_bool w 9999 t p q ht)
 exact qju (hop▸ho) hu hv (by simp) (.inl (by simp)) hbin
theorem jbw {op:BinOp}{neq b:Bool}{t u:TypeId}{x y:Operand}{c:Value}(ho:o.op=.binOp op t x y u)(hop:op=if neq then .neq else .eql)
  (hy:a.eval y=c) (hne:(∀k n,a.eval x≠.int k n)∧(∀s,a.eval x≠.string s)∧(∀k n,a.eval x≠.float k n)∧(∀k n m,a.eval x≠.complex k n m)) (hag:∀cs,a.eval x≠.agg cs) (hif:a.eval x≠.nilIface)
  (h:(Op.equal t (a.eval x) c).run P w=.ok b w):Val P C a o w (.bool (bif neq then !b else b)):=by
 refine⟨_,?_,.bool _⟩
 have hbin:=qkr (P:=P) (neq:=neq) w hne h
 exact qju (hop▸ho) rfl hy (fun h=>hif h.1) (.inl hag) hbin
theorem jpo {op:UnOp}{t:TypeId}{x:Operand}{x':qh}{p v:qa}(he:EnvRep C env a.tmps)(ho:o.op=.unOp op t x)(h1:zq x=some x')(e1:zc env x'=some p)(hv:ql4 op p=some v):Val P C a o w v:=by
 have r1:=zt he h1 e1
 unfold ql4 at hv
 split at hv
 ·obtain hu:=r1.int_inv
  cases hv
  rw[qgy]
  (refine⟨_,?_,.int _ _⟩;simp[execOp,ho,hu,Op.unary,Op.intArith])
 ·obtain hu:=r1.bool_inv
  cases hv
  (refine⟨_,?_,.bool _⟩;simp[execOp,ho,hu,Op.unary])
 ·cases hv
theorem jdo {s d:TypeId}{k k0:IntKind}{x:Operand}{x':qh}{k1:IntKind}{n:Int}(he:EnvRep C env a.tmps)(ho:o.op=.convert s d x)(hs:P.underlying s=some (.int k0))(hd:P.underlying d=some (.int k))
  (h1:zq x=some x') (e1:zc env x'=some (.int k1 n)):Val P C a o w (.int k (j6 k n)):=by
 have hu:=(zt he h1 e1).int_inv
 rw[qgy]
 (refine⟨_,?_,.int _ _⟩;simp[execOp,ho,hu,convert,run_underlying hs,run_underlying hd,Conv.intToInt])
theorem q5j {s d:TypeId}{x:Operand}{x':qh}{v:qa}(he:EnvRep C env a.tmps)(ho:o.op=.convert s d x)(hs:P.underlying s=some .string)(hd:P.underlying d=some .string)
  (h1:zq x=some x') (e1:zc env x'=some v) (hv:∃l,v=.str l):Val P C a o w v:=by
 obtain⟨l,rfl⟩:=hv
 have r:=zt he h1 e1
 have hu:=r.str_inv
 exact⟨_,by simp[execOp,ho,hu,convert,run_underlying hs,run_underlying hd];rfl,by rw[←hu];exact r⟩
theorem q3x {s d:TypeId}{x:Operand}{x':qh}{v:qa}{k0:IntKind}(he:EnvRep C env a.tmps)(ho:o.op=.convert s d x)(hs:P.underlying s=some (.int k0))(hd:P.underlying d=some .string)
  (h1:zq x=some x') (e1:zc env x'=some v) (hv:∃l,v=.str l):Val P C a o w v:=by
 obtain⟨l,rfl⟩:=hv
 have r:=zt he h1 e1
 have hu:=r.str_inv
 exact⟨_,by simp[execOp,ho,hu,convert,run_underlying hs,run_underlying hd];rfl,by rw[←hu];exact r⟩
theorem q50 {s d:TypeId}{x:Operand}{x':qh}{k0 k1:IntKind}{n:Int}(he:EnvRep C env a.tmps)(ho:o.op=.convert s d x)(hs:P.underlying s=some (.int k0))(hd:P.underlying d=some .string)
  (h1:zq x=some x') (e1:zc env x'=some (.int k1 n)):Val P C a o w (.str (Utf8.encode n).data.toList):=by
 have hu:=(zt he h1 e1).int_inv
 exact⟨.string (Utf8.encode n),by simp[execOp,ho,hu,convert,run_underlying hs,run_underlying hd,Conv.intToString],.str _⟩
theorem q4b {s d:TypeId}{x:Operand}{x':qh}{k1:IntKind}{n:Int}(he:EnvRep C env a.tmps)(ho:o.op=.convert s d x)(hs:P.underlying s=some .string)(hd:P.underlying d=some .string)
  (h1:zq x=some x') (e1:zc env x'=some (.int k1 n)):Val P C a o w (.str (Utf8.encode n).data.toList):=by
 have hu:=(zt he h1 e1).int_inv
 exact⟨.string (Utf8.encode n),by simp[execOp,ho,hu,convert,run_underlying hs,run_underlying hd,Conv.intToString],.str _⟩
theorem jbs {t:TypeId}{x:Operand}{x':qh}{i:Nat}{fs:Array Field}{f:Field}{ag:Bool}{n:Nat}{cs:List qa}{v:qa}(he:EnvRep C env a.tmps)(ho:o.op=.field t x i)(ht:P.underlying t=some (.struct fs))(hf:fs[i]?=some f)
  (hag:qak P f.type=some ag) (hn:yh P f.type=some n) (h1:zq x=some x') (e1:zc env x'=some (.agg cs)) (hv:Abs.part ag cs f.offset n=some v):Val P C a o w v:=by
 obtain⟨us,hu,ru⟩:=(zt he h1 e1).agg_inv
 obtain⟨z,hz,hr⟩:=q4v hag hn hv ru w
 refine⟨z,?_,hr⟩
 simp[execOp,ho,hu,Instr.field,run_underlying ht,hf,asAgg,hz]
theorem qng {n:Nat}{v:qa}{j:Nat}(h:idx n v=some j):∃k,v=.int k (j:Int)∧j<n:=by
 unfold idx at h
 split at h
 ·rename_i k i
  cases hb:Nat.blt i n with
  |false=>simp[hb]at h
  |true=>
   simp[hb]at h
   subst h
   exact⟨k,rfl,by have:=Nat.le_of_ble_eq_true hb;omega⟩
 ·cases h
theorem jcz {n:Nat}{v:qa}{j:Nat}(h:qo3 n v=some j):∃k,v=.int k (j:Int)∧j≤n:=by
 unfold qo3 at h
 split at h
 ·rename_i k i
  cases hb:Nat.ble i n with
  |false=>simp[hb]at h
  |true=>
   simp[hb]at h
   subst h
   exact⟨k,rfl,Nat.le_of_ble_eq_true hb⟩
 ·cases h
theorem jbz {t e:TypeId}{x i:Operand}{x' i':qh}{len n:Nat}{ag:Bool}{cs:List qa}{iv v:qa}{j:Nat}(he:EnvRep C env a.tmps)(ho:o.op=.index t x i)(ht:P.underlying t=some (.array len e))
  (hag:qak P e=some ag) (hn:yh P e=some n) (h1:zq x=some x') (h2:zq i=some i') (e1:zc env x'=some (.agg cs)) (e2:zc env i'=some iv) (hj:idx len iv=some j) (hv:Abs.part ag cs (j*n) n=some v):Val P C a o w v:=by
 obtain⟨us,hu,ru⟩:=(zt he h1 e1).agg_inv
 obtain⟨k,rfl,hlt⟩:=qng hj
 have hi:=(zt he h2 e2).int_inv
 obtain⟨z,hz,hr⟩:=q4v hag hn hv ru w
 refine⟨z,?_,hr⟩
 simp[execOp,ho,hu,hi,Instr.index,asIntOf,run_underlying ht,hlt,qah hn,hz]
theorem q3y {t:TypeId}{x i:Operand}{x' i':qh}{s:List UInt8}{iv:qa}{j:Nat}{c:UInt8}(he:EnvRep C env a.tmps)(ho:o.op=.index t x i)(ht:P.underlying t=some .string)
  (h1:zq x=some x') (h2:zq i=some i') (e1:zc env x'=some (.str s)) (e2:zc env i'=some iv) (hj:idx s.length iv=some j) (hc:s[j]?=some c):Val P C a o w (.int .u8 c.toNat):=by
 have hu:=(zt he h1 e1).str_inv
 obtain⟨k,rfl,hlt⟩:=qng hj
 have hi:=(zt he h2 e2).int_inv
 refine⟨_,?_,.int _ _⟩
 have hb:(⟨⟨s⟩⟩:ByteArray)[j]?=some c:=by
  rw[getElem?_pos (ByteArray.mk ⟨s⟩) j hlt]
  exact congrArg some (List.getElem?_eq_some_iff.1 hc).2
 simp[execOp,ho,hu,hi,Instr.index,asIntOf,run_underlying ht,hb]
end
section
variable {P:Program}{C:Ctx}{w:World}{env:Env}{a:Act}{o:Oper}
theorem qcz {z:qa}(h:z.isAgg=false):z.flat=[z]:=by cases z<;>simp[qa.isAgg,qa.flat]at *
theorem q60 {ag:Bool}{cs:List qa}{off n r q:Nat}{z:qa}(hc:RepC C r cs q)(hz:Abs.part ag cs off n=some z)(hx:Bool.xor ag z.isAgg=false):RepC C r z.flat (q+off):=by
 unfold Abs.part at hz
 cases ag with
 |true=>
  simp only[cT]at hz
  cases hb:Nat.ble (off+n) cs.length with
  |false=>simp[hb]at hz
  |true=>simp[hb]at hz;subst hz;exact RepC.take n (RepC.drop off hc)
 |false=>
  simp only[cond_false]at hz
  rw[qcz (by simpa using hx)]
  obtain⟨u,h1,h2⟩:=hc.get hz
  exact .ccons _ _ _ _ u h1 h2 (.cnil _ _)
theorem qpx {t:TypeId}{x:Operand}{x':qh}{i:Nat}{fs:Array Field}{f:Field}{ag:Bool}{n:Nat}{p v:qa}(he:EnvRep C env a.tmps)(ho:o.op=.fieldAddr t x i)(ht:P.underlying t=some (.struct fs))(hf:fs[i]?=some f)
  (hn:yh P f.type=some n) (hn0:0<n) (h1:zq x=some x') (e1:zc env x'=some p)
  (hv:(∃b q,p=.ptr b q∧v=.ptr b (q+f.offset))∨(∃cs z,p=.vptr (.agg cs)∧Abs.part ag cs f.offset n=some z∧Bool.xor ag z.isAgg=false∧v=.vptr z)):Val P C a o w v:=by
 have hrun:∀r q,a.eval x=.pointer (some ⟨r,q,none⟩)→(execOp a.eval o).run P w=.ok (.value (.pointer (some ⟨r,q+f.offset,none⟩))) w:=by
  intro r q hq
  simp[execOp,ho,Instr.fieldAt,run_underlying ht,hf,hq,Instr.sureAddr,fieldPlace,qah hn,Nat.pos_iff_ne_zero.1 hn0,add_lit]
 rcases hv with⟨b,q,rfl,rfl⟩|⟨cs,z,rfl,hz,hx,rfl⟩
 ·obtain⟨r,hr,hq⟩:=(zt he h1 e1).ptr_inv
  exact⟨_,hrun r q hq,.ptr _ _ _ hr⟩
 ·obtain⟨r,q,hq,hc⟩:=(zt he h1 e1).vptr_inv
  exact⟨_,hrun r q hq,.vptr _ _ _ (q60 hc hz hx)⟩
theorem qpt {t e:TypeId}{x i:Operand}{x' i':qh}{sz:Nat}{p iv v:qa}(he:EnvRep C env a.tmps)(ho:o.op=.indexAddr t x i)(ht:P.underlying t=some (.slice e))
  (hn:yh P e=some sz) (h1:zq x=some x') (h2:zq i=some i') (e1:zc env x'=some p) (e2:zc env i'=some iv)
  (hv:(∃b q len j,p=.ms b q len∧idx len iv=some j∧v=.ptr b (q+j*sz))∨(∃nl xs z j,p=.list nl sz xs∧idx xs.length iv=some j∧xs[j]?=some z∧v=.vptr z)):Val P C a o w v:=by
 have hrun:∀r q len cap j,a.eval x=.slice (some ⟨r,q,none⟩) len cap→idx len iv=some j→(execOp a.eval o).run P w=.ok (.value (.pointer (some ⟨r,q+j*sz,none⟩))) w:=by
  intro r q len cap j hq hj
  obtain⟨k,rfl,hlt⟩:=qng hj
  have hi:=(zt he h2 e2).int_inv
  simp[execOp,ho,Instr.indexAt,run_underlying ht,hq,hi,asIntOf,qah hn,hlt,add_lit]
 rcases hv with⟨b,q,len,j,rfl,hj,rfl⟩|⟨nl,xs,z,j,rfl,hj,hz,rfl⟩
 ·obtain⟨r,cap,hr,_,hq⟩:=(zt he h1 e1).ms_inv
  exact⟨_,hrun r q len cap j hq hj,.ptr _ _ _ hr⟩
 ·rcases(zt he h1 e1).list_inv with⟨rfl,rfl,hq⟩|⟨rfl,r,q,cap,hq,_,hrow⟩|⟨rfl,rfl,_⟩
  ·simp at hz
  ·exact⟨_,hrun r q _ cap j hq hj,.vptr _ _ _ (hrow.get hz)⟩
  ·simp at hz
theorem qrk {t e:TypeId}{x i:Operand}{x' i':qh}{len sz:Nat}{ag:Bool}{p iv v:qa}{j:Nat}(he:EnvRep C env a.tmps)(ho:o.op=.indexAddr t x i)(ht:P.underlying t=some (.array len e))
  (hn:yh P e=some sz) (h1:zq x=some x') (h2:zq i=some i') (e1:zc env x'=some p) (e2:zc env i'=some iv) (hj:idx len iv=some j)
  (hv:(∃b q,p=.ptr b q∧v=.ptr b (q+j*sz))∨(∃cs z,p=.vptr (.agg cs)∧Abs.part ag cs (j*sz) sz=some z∧Bool.xor ag z.isAgg=false∧v=.vptr z)):Val P C a o w v:=by
 have hrun:∀r q,a.eval x=.pointer (some ⟨r,q,none⟩)→(execOp a.eval o).run P w=.ok (.value (.pointer (some ⟨r,q+j*sz,none⟩))) w:=by
  intro r q hq
  obtain⟨k,rfl,hlt⟩:=qng hj
  have hi:=(zt he h2 e2).int_inv
  simp[execOp,ho,Instr.indexAt,run_underlying ht,hq,hi,asIntOf,Instr.sureAddr,qah hn,hlt,add_lit]
 rcases hv with⟨b,q,rfl,rfl⟩|⟨cs,z,rfl,hz,hx,rfl⟩
 ·obtain⟨r,hr,hq⟩:=(zt he h1 e1).ptr_inv
  exact⟨_,hrun r q hq,.ptr _ _ _ hr⟩
 ·obtain⟨r,q,hq,hc⟩:=(zt he h1 e1).vptr_inv
  exact⟨_,hrun r q hq,.vptr _ _ _ (q60 hc hz hx)⟩
theorem qtl {x:Option Operand}{x':Option qh}{d n j:Nat}(he:EnvRep C env a.tmps)(hc:qew x=some x')(hb:bnd env d n x'=some j):
  (x=none∧j=d)∨(∃y k,x=some y∧a.eval y=.int k (j:Int)∧j≤n):=by
 cases x with
 |none=>simp[qew]at hc;subst hc;simp[bnd]at hb;exact .inl ⟨rfl,hb.symm⟩
 |some x=>
  simp only[qew]at hc
  split at hc
  ·rename_i z hz
   cases hc
   simp only[bnd]at hb
   split at hb
   ·rename_i v hv
    obtain⟨k,rfl,hle⟩:=jcz hb
    exact .inr ⟨x,k,rfl,(zt he hz hv).int_inv,hle⟩
   ·cases hb
  ·cases hc
theorem qop {lo hi:Option Operand}{lo' hi':Option qh}{len cap i j:Nat}{isS:Bool}(he:EnvRep C env a.tmps)(h1:qew lo=some lo')(h2:qew hi=some hi')(b2:bnd env len len hi'=some j)(b1:bnd env 0 j lo'=some i)(hc:len≤cap)(w:World):
  (Instr.sliceBounds isS len cap (lo.map a.eval) (hi.map a.eval) none).run P w=.ok (i,j,cap) w∧i≤j∧j≤len:=by
 have k2:j≤len:=by
  rcases qtl he h2 b2 with⟨_,rfl⟩|⟨_,_,_,_,h⟩
  ·exact Nat.le_refl _
  ·exact h
 have k1:i≤j:=by
  rcases qtl he h1 b1 with⟨_,rfl⟩|⟨_,_,_,_,h⟩
  ·exact Nat.zero_le _
  ·exact h
 refine⟨?_,k1,k2⟩
 have hj:j≤cap:=by omega
 rcases qtl he h2 b2 with⟨rfl,rfl⟩|⟨y,k,rfl,hy,_⟩<;>rcases qtl he h1 b1 with⟨rfl,rfl⟩|⟨z,k',rfl,hz,_⟩
 ·simp[Instr.sliceBounds]
 ·simp[Instr.sliceBounds,hz,Instr.sliceBound,asIntOf,k1]
 ·simp[Instr.sliceBounds,hy,Instr.sliceBound,asIntOf,hj]
 ·simp[Instr.sliceBounds,hy,hz,Instr.sliceBound,asIntOf,hj,k1]
theorem q0k {t e:TypeId}{x:Operand}{lo hi:Option Operand}{x':qh}{lo' hi':Option qh}{sz i j:Nat}{p v:qa}(he:EnvRep C env a.tmps)(ho:o.op=.slice t x lo hi none)(ht:P.underlying t=some (.slice e))
  (hn:yh P e=some sz) (h1:zq x=some x') (h2:qew lo=some lo') (h3:qew hi=some hi') (e1:zc env x'=some p)
  (hv:(∃b q len,p=.ms b q len∧bnd env len len hi'=some j∧bnd env 0 j lo'=some i∧(i=0∨i<j)∧v=.ms b (q+i*sz) (j-i)) ∨
   (∃nl sz' xs,p=.list nl sz' xs∧(sz=sz'∨xs=[])∧bnd env xs.length xs.length hi'=some j∧bnd env 0 j lo'=some i∧v=.list nl sz' ((xs.take j).drop i))):Val P C a o w v:=by
 have hrun:∀b len cap,a.eval x=.slice b len cap→len≤cap→bnd env len len hi'=some j→bnd env 0 j lo'=some i →
   (execOp a.eval o).run P w=.ok (.value (.slice (if cap=i then b else b.map (·.add (i*sz))) (j-i) (cap-i))) w∧i≤j∧j≤len:=by
  intro b len cap hq hle b2 b1
  obtain⟨hb,k1,k2⟩:=qop (P:=P) (isS:=true) he h2 h3 b2 b1 hle w
  refine⟨?_,k1,k2⟩
  simp[execOp,ho,Instr.sliceAt,Instr.slice,run_underlying ht,hq,hb,qah hn]
 rcases hv with⟨b,q,len,rfl,b2,b1,hij,rfl⟩|⟨nl,sz',xs,rfl,hsz,b2,b1,rfl⟩
 ·obtain⟨r,cap,hr,hle,hq⟩:=(zt he h1 e1).ms_inv
  obtain⟨hw,k1,k2⟩:=hrun _ len cap hq hle b2 b1
  refine⟨_,hw,?_⟩
  by_cases hc:cap=i
  ·rw[if_pos hc]
   obtain rfl:i=0:=by omega
   simpa using qp.ms b q (j-0) r (cap-0) hr (by omega)
  ·rw[if_neg hc]
   simp only[Option.map_some,add_lit]
   exact .ms _ _ _ _ _ hr (by omega)
 ·rcases(zt he h1 e1).list_inv with⟨rfl,rfl,hq⟩|⟨rfl,r,q,cap,hq,hle,hrow⟩|⟨rfl,rfl,ad,hsp,hq⟩
  ·obtain⟨hw,k1,k2⟩:=hrun _ 0 0 hq (Nat.le_refl _) b2 b1
   simp at k2
   obtain rfl:=k2
   obtain rfl:i=0:=by omega
   exact⟨_,hw,by simpa using qp.lnil sz'⟩
  ·obtain⟨hw,k1,k2⟩:=hrun _ _ cap hq hle b2 b1
   refine⟨_,hw,?_⟩
   have hl:((xs.take j).drop i).length=j-i:=by simp;omega
   rw[←hl]
   by_cases hc:cap=i
   ·rw[if_pos hc]
    have hnil:(xs.take j).drop i=[]:=List.drop_eq_nil_of_le (by simp;omega)
    rw[hnil]
    exact .list _ _ _ _ _ (by simp) (.rnil _ _ _)
   ·rw[if_neg hc]
    simp only[Option.map_some,add_lit]
    refine .list _ _ _ _ _ (by rw[hl];omega) ?_
    rcases hsz with rfl|rfl
    ·exact RepRow.drop i (RepRow.take j hrow)
    ·simpa using qp.rnil _ _ _
  ·obtain⟨hw,k1,k2⟩:=hrun _ 0 0 hq (Nat.le_refl _) b2 b1
   simp at k2
   obtain rfl:=k2
   obtain rfl:i=0:=by omega
   exact⟨_,hw,by simpa using qp.lemp sz' ad hsp⟩
theorem q24 {t e:TypeId}{x:Operand}{lo hi:Option Operand}{x':qh}{lo' hi':Option qh}{len sz i j b q:Nat}(he:EnvRep C env a.tmps)(ho:o.op=.slice t x lo hi none)(ht:P.underlying t=some (.array len e))
  (hn:yh P e=some sz) (h1:zq x=some x') (h2:qew lo=some lo') (h3:qew hi=some hi') (e1:zc env x'=some (.ptr b q)) (b2:bnd env len len hi'=some j) (b1:bnd env 0 j lo'=some i) (hij:i=0∨i<j):Val P C a o w (.ms b (q+i*sz) (j-i)):=by
 obtain⟨r,hr,hq⟩:=(zt he h1 e1).ptr_inv
 obtain⟨hb,k1,k2⟩:=qop (P:=P) (isS:=false) he h2 h3 b2 b1 (Nat.le_refl len) w
 refine⟨_,by simp[execOp,ho,Instr.sliceAt,Instr.sureAddr,run_underlying ht,hq,hb,qah hn];rfl,?_⟩
 by_cases hc:len=i
 ·rw[if_pos hc]
  obtain rfl:i=0:=by omega
  simpa using qp.ms b q (j-0) r (len-0) hr (by omega)
 ·rw[if_neg hc]
  simp only[add_lit]
  exact .ms _ _ _ _ _ hr (by omega)
theorem q00 (s:List UInt8)(i j:Nat):(⟨⟨s⟩⟩:ByteArray).extract i j=⟨⟨(s.take j).drop i⟩⟩:=by
 z8 ByteArray.ext
 rw[ByteArray.data_extract]
 z8 Array.ext'
 simp[List.extract_eq_take_drop,List.drop_take]
theorem q40 {t:TypeId}{x:Operand}{lo hi:Option Operand}{x':qh}{lo' hi':Option qh}{i j:Nat}{s:List UInt8}(he:EnvRep C env a.tmps)(ho:o.op=.slice t x lo hi none)(ht:P.underlying t=some .string)
  (h1:zq x=some x') (h2:qew lo=some lo') (h3:qew hi=some hi') (e1:zc env x'=some (.str s)) (b2:bnd env s.length s.length hi'=some j) (b1:bnd env 0 j lo'=some i):Val P C a o w (.str ((s.take j).drop i)):=by
 have hq:=(zt he h1 e1).str_inv
 obtain⟨hb,k1,k2⟩:=qop (P:=P) (isS:=false) he h2 h3 b2 b1 (Nat.le_refl s.length) w
 have hsz:(⟨⟨s⟩⟩:ByteArray).size=s.length:=rfl
 refine⟨.string ⟨⟨(s.take j).drop i⟩⟩,?_,.str _⟩
 simp[execOp,ho,Instr.sliceAt,Instr.slice,run_underlying ht,hq,hsz,hb,q00]
theorem q8t {k:Nat}{xs ys:Array Operand}{xs' ys':List qh}{us vs:List qa}(he:EnvRep C env a.tmps)(ho:o.op=.makeFunc (.func k) xs ys)(h1:qgt xs.toList=some xs')(h2:qgt ys.toList=some ys')(e1:qa9 env xs'=some us)(e2:qa9 env ys'=some vs):
  Val P C a o w (.fn (.func k) us vs):=by
 refine⟨.func (.func k) (xs.map a.eval) (ys.map a.eval),by simp[execOp,ho,Instr.makeFunc],?_⟩
 have r1:=qh0 he h1 e1
 have r2:=qh0 he h2 e2
 have q1:xs.map a.eval=⟨xs.toList.map a.eval⟩:=by z8 Array.ext';simp
 have q2:ys.map a.eval=⟨ys.toList.map a.eval⟩:=by z8 Array.ext';simp
 rw[q1,q2]
 exact .fn _ _ _ _ _ _ rfl r1 r2
theorem qzq {c:Call}{x:Operand}{t:TypeId}{x':qh}{p:qa}{n:Nat}(he:EnvRep C env a.tmps)(ho:o.op=.call c)(hcb:c.callee=.builtin .len)(hca:c.args.toList=[x])(hct:c.argTypes.toList=[t])
  (h1:zq x=some x') (e1:zc env x'=some p)
  (hv:(P.underlying t=some .string∧∃s,p=.str s∧n=s.length)∨((∃e,P.underlying t=some (.slice e))∧((∃nl sz xs,p=.list nl sz xs∧n=xs.length)∨(∃b q,p=.ms b q n)))):Val P C a o w (.int .i64 n):=by
 have ha:c.args=#[x]:=by z8 Array.ext';simpa using hca
 have hty:c.argTypes=#[t]:=by z8 Array.ext';simpa using hct
 refine⟨.int .i64 n,?_,.int _ _⟩
 simp only[execOp,ho,resolve,hcb,ha,hty,Sem.run_bind,Sem.run_pure,Result.andThen_ok,invoke,builtin,Builtin.len_]
 rcases hv with⟨ht,s,rfl,rfl⟩|⟨⟨e,ht⟩,⟨nl,sz,xs,rfl,rfl⟩|⟨b,q,rfl⟩⟩
 ·have hq:=(zt he h1 e1).str_inv
  simp[run_underlying ht,hq,goInt]
  rfl
 ·obtain⟨b,cap,hq⟩:=(zt he h1 e1).len
  simp[run_underlying ht,hq,goInt]
 ·obtain⟨r,cap,_,_,hq⟩:=(zt he h1 e1).ms_inv
  simp[run_underlying ht,hq,goInt]
theorem qrz {f:qa→qa→Option qa}{g:Value→Value→Sem Value}(hfg:∀x y z u v,f x y=some z→Rep C x u→Rep C y v→∃q,(g u v).run P w=.ok q w∧Rep C z q):
  ∀(ys:List qa) (x z:qa) (u:Value) (vs:List Value),qff f x ys=some z→Rep C x u→RepL C ys vs→∃q,(vs.foldlM g u).run P w=.ok q w∧Rep C z q
 | [],x,z,u,vs,h,hx,hy=>by
  cases hy
  simp[qff]at h;subst h
  exact⟨u,rfl,hx⟩
 |y::ys,x,z,u,vs,h,hx,hy=>by
  cases hy with
  |cons _ _ v vs hy hr=>
   simp only[qff]at h
   split at h
   ·rename_i z1 hz1
    obtain⟨q,hq,rq⟩:=hfg x y z1 u v hz1 hx hy
    obtain⟨q2,hq2,rq2⟩:=qrz hfg ys z1 z q vs h rq hr
    exact⟨q2,by simp[List.foldlM_cons,hq,hq2],rq2⟩
   ·cases h
theorem jao {c:Call}{xs':List qh}{p v:qa}{ps:List qa}{mx:Bool}(he:EnvRep C env a.tmps)(ho:o.op=.call c)(hcb:c.callee=.builtin (if mx then .max else .min))(h1:qgt c.args.toList=some xs')(e1:qa9 env xs'=some (p::ps))
  (hv:qff (if mx then max2 else min2) p ps=some v):Val P C a o w v:=by
 have r1:=qh0 he h1 e1
 have hargs:(c.args.map a.eval).toList=c.args.toList.map a.eval:=by simp
 cases mx
 ·generalize hl:c.args.toList.map a.eval=l at r1
  cases r1 with
  |cons _ _ u us hu hus=>
   obtain⟨q,hq,rq⟩:=qrz (P:=P) (w:=w) (C:=C) (f:=min2) (g:=Builtin.min2) (fun x y z u v h hx hy=>by
    unfold min2 at h
    split at h<;>first|cases h|skip
    rename_i k n k' m
    by_cases hk:k=k'
    ·subst hk;simp at h;subst h
     obtain rfl:=hx.int_inv
     obtain rfl:=hy.int_inv
     exact⟨_,rfl,.int _ _⟩
    ·simp[hk]at h) ps p v u us (by simpa using hv) hu hus
   refine⟨q,?_,rq⟩
   simp only[Bool.false_eq_true,if_false]at hcb
   simp[execOp,ho,resolve,hcb,invoke,builtin,Builtin.min_,hl,hq]
 ·generalize hl:c.args.toList.map a.eval=l at r1
  cases r1 with
  |cons _ _ u us hu hus=>
   obtain⟨q,hq,rq⟩:=qrz (P:=P) (w:=w) (C:=C) (f:=max2) (g:=Builtin.max2) (fun x y z u v h hx hy=>by
    unfold max2 at h
    split at h<;>first|cases h|skip
    rename_i k n k' m
    by_cases hk:k=k'
    ·subst hk;simp at h;subst h
     obtain rfl:=hx.int_inv
     obtain rfl:=hy.int_inv
     exact⟨_,rfl,.int _ _⟩
    ·simp[hk]at h) ps p v u us (by simpa using hv) hu hus
   refine⟨q,?_,rq⟩
   simp only[if_true]at hcb
   simp[execOp,ho,resolve,hcb,invoke,builtin,Builtin.max_,hl,hq]
theorem q5c {x:Operand}{x':qh}{i:Nat}{vs:List qa}{v:qa}(he:EnvRep C env a.tmps)(ho:o.op=.extract x i)(h1:zq x=some x')(e1:zc env x'=some (.tup vs))(hv:vs[i]?=some v):Val P C a o w v:=by
 obtain⟨us,hu,ru⟩:=(zt he h1 e1).tup_inv
 obtain⟨u,h1,h2⟩:=ru.get hv
 exact⟨u,by simp[execOp,ho,hu,Instr.extract,h1],h2⟩
end
section
variable {P:Program}{C:Ctx}{w:World}{env:Env}{a:Act}{o:Oper}
theorem qer {x:qa}{v:Value}(h:Rep C x v)(hs:x.flat.all ze=true):RepL C x.flat v.cells.toList:=by
 cases h<;>first
  |(simp only[qa.flat,Value.cells];exact .cons _ _ _ _ (by constructor<;>assumption) .nil)
  |skip
 ·simpa[qa.flat,Value.cells]
 all_goals first|done|exact absurd hs (by simp[qa.flat,ze])|skip
theorem q0i (off:Nat):∀(l:List Value) (k:Nat) (cs:Array Value),off+k+l.length≤cs.size →
  ((l.zipIdx k).foldl (fun cs (x:Value×Nat)=>cs.setIfInBounds (off+x.2) x.1) cs).toList=cs.toList.take (off+k)++l++cs.toList.drop (off+k+l.length)
 | [],k,cs,_=>by simp
 |v::l,k,cs,h=>by
  simp only[List.zipIdx_cons,List.foldl_cons]
  simp at h
  rw[q0i off l (k+1) (cs.setIfInBounds (off+k) v) (by simp;omega)]
  have hlt:off+k<cs.toList.length:=by simp;omega
  rw[Array.toList_setIfInBounds]
  have e1:(cs.toList.set (off+k) v).take (off+(k+1))=cs.toList.take (off+k)++[v]:=by
   rw[←Nat.add_assoc,List.take_succ_eq_append_getElem (by simpa using hlt),List.take_set,List.set_eq_of_length_le (by simp;omega),List.getElem_set_self]
  have e2:(cs.toList.set (off+k) v).drop (off+(k+1)+l.length)=cs.toList.drop (off+k+(v::l).length):=by
   rw[List.drop_set_of_lt (by omega)]
   congr 1
   simp;omega
  rw[e1,e2]
  simp
inductive jj (C:Ctx)(place:Nat→Option (Nat×Nat)):List (Nat×Value)→List (Nat×List qa)→Prop where
 |nil:jj C place [] []
 |cons (i:Nat) (v:Value) (off:Nat) (vs:List qa) (ps:List (Nat×Value)) (qs:List (Nat×List qa)) (h1:place i=some (off,vs.length)) (h2:RepL C vs v.cells.toList) (h:jj C place ps qs):jj C place ((i,v)::ps) ((off,vs)::qs)
theorem qlx {place:Nat→Option (Nat×Nat)}:∀(ps:List (Nat×Value)) (qs:List (Nat×List qa)) (xs ys:List qa) (cs:Array Value),RepL C xs cs.toList→qcr xs qs=some ys →
  jj C place ps qs →
  ∃ds,Instr.fill place cs ps=some ds∧RepL C ys ds.toList
 | [],qs,xs,ys,cs,hx,hf,hp=>by
  cases hp
  simp[qcr]at hf
  subst hf
  exact⟨cs,rfl,hx⟩
 |_::ps,qs,xs,ys,cs,hx,hf,hp=>by
  cases hp with
  |cons i v off vs _ qs hpl hr htl=>
   simp only[qcr]at hf
   cases hb:Nat.ble (off+vs.length) xs.length with
   |false=>simp[hb]at hf
   |true=>
    simp only[hb,cT]at hf
    have hle:=Nat.le_of_ble_eq_true hb
    have hl1:=hx.length
    have hl2:=hr.length
    simp at hl1 hl2
    have hfold:=q0i off v.cells.toList 0 cs (by simp;omega)
    have hz:v.cells.zipIdx.foldl (fun cs (x:Value×Nat)=>cs.setIfInBounds (off+x.2) x.1) cs=(v.cells.toList.zipIdx 0).foldl (fun cs (x:Value×Nat)=>cs.setIfInBounds (off+x.2) x.1) cs:=by
     rw[←Array.foldl_toList,Array.toList_zipIdx]
    obtain⟨ds,h1,h2⟩:=qlx (place:=place) ps qs _ ys (v.cells.zipIdx.foldl (fun cs (x:Value×Nat)=>cs.setIfInBounds (off+x.2) x.1) cs) (by
     rw[hz,hfold]
     simp only[Nat.add_zero,Array.length_toList,hl2]
     exact RepL.append (RepL.append (hx.take off) hr) (hx.drop _)) hf htl
    refine⟨ds,?_,h2⟩
    simp only[Instr.fill,hpl]
    rw[if_neg (by simp;omega)]
    exact h1
theorem qje {place:Nat→Option (Nat×Nat)}(he:EnvRep C env a.tmps):∀(ps:List (Nat×Operand)) (ps':List (Nat×Nat×qh)) (qs:List (Nat×List qa)),qi4 P place ps=some ps'→qa2 env ps'=some qs →
  jj C place (ps.map fun x=>(x.1,a.eval x.2)) qs
 | [],ps',qs,hc,hv=>by
  simp[qi4]at hc;subst hc
  simp[qa2]at hv;subst hv
  exact .nil
 |(i,x)::ps,ps',qs,hc,hv=>by
  simp only[qi4]at hc
  split at hc
  ·rename_i off n y r hpl hy hr
   cases hc
   simp only[qa2]at hv
   split at hv
   ·rename_i v hv1
    cases hb:(Nat.beq v.flat.length n&&v.flat.all ze)with
    |false=>simp[hb]at hv
    |true=>
     simp only[hb,cT]at hv
     simp only[Bool.and_eq_true]at hb
     split at hv
     ·rename_i r' hr'
      cases hv
      have hl:=Nat.eq_of_beq_eq_true hb.1
      exact .cons _ _ _ _ _ _ (by rw[hpl,hl]) (qer (zt he hy hv1) hb.2) (qje he ps r r' hr hr')
     ·cases hv
   ·cases hv
  ·cases hc
theorem q0c {t:TypeId}{z:List qa}(h:qan P t=some z)(w:World):∃v,(zeroValue t).run P w=.ok v w∧RepL C z v.cells.toList∧∃i,P.info? t=some i∧i.zero=some v:=by
 unfold qan at h
 split at h
 ·rename_i i hi
  split at h
  ·rename_i v hv
   exact⟨v,by simp[zeroValue,typeInfo,hi,hv],qir C h,i,hi,hv⟩
  ·cases h
 ·cases h
theorem qt8 {fs:Array Field}(w:World):∀(l:List Field),(∀f∈l,(yh P f.type).isSome)→(l.mapM fun(f:Field)=>(do pure (f.offset,←sizeOf f.type):Sem (Nat×Nat))).run P w=.ok (l.map fun f=>(f.offset,(yh P f.type).getD 0)) w
 | [],_=>rfl
 |f::l,h=>by
  obtain⟨n,hn⟩:=Option.isSome_iff_exists.1 (h f (by simp))
  simp only[List.mapM_cons,Sem.run_bind,qah hn,Result.andThen_ok,Sem.run_pure,qt8 (fs:=fs) w l (fun g hg=>h g (by simp[hg])),List.map_cons,hn,Option.getD_some]
theorem qvh {t:TypeId}{ps:Array (Nat×Operand)}{fs:Array Field}{z:List qa}{ps':List (Nat×Nat×qh)}{qs:List (Nat×List qa)}{cs:List qa}(he:EnvRep C env a.tmps)(ho:o.op=.build t ps)(ht:P.underlying t=some (.struct fs))(hz:qan P t=some z)
  (hall:∀f∈fs.toList,(yh P f.type).isSome) (hps:qi4 P (fun i=>match fs[i]? with|some f=>(yh P f.type).map fun n=>(f.offset,n)|none=>none) ps.toList=some ps') (hq:qa2 env ps'=some qs) (hf:qcr z qs=some cs):Val P C a o w (.agg cs):=by
 obtain⟨zv,hzr,hzrep,_⟩:=q0c (C:=C) hz w
 have hm:=qt8 (P:=P) (fs:=fs) w fs.toList hall
 have hpr:=qje (P:=P) he ps.toList ps' qs hps hq
 have hplace:(fun(i:Nat)=>match fs[i]? with|some f=>(yh P f.type).map fun n=>(f.offset,n)|none=>none)=fun(i:Nat)=>((fs.toList.map fun f=>(f.offset,(yh P f.type).getD 0)).toArray)[i]?:=by
  funext i
  have hm:∀f,fs[i]?=some f→f∈fs.toList:=fun f h=>by rw[Array.mem_toList_iff];exact Array.mem_of_getElem? h
  obtain⟨l⟩:=fs
  simp only[List.getElem?_toArray,List.getElem?_map]at hm ⊢
  cases h:l[i]? with
  |none=>rfl
  |some f=>
   obtain⟨n,hn⟩:=Option.isSome_iff_exists.1 (hall f (hm f h))
   simp[hn]
 rw[hplace]at hpr
 obtain⟨ds,hd,hr⟩:=qlx (ps.toList.map fun x=>(x.1,a.eval x.2)) qs z cs zv.cells hzrep hf hpr
 refine⟨.agg ds,?_,.agg cs ds.toList hr⟩
 have hmap:(fs.mapM fun(f:Field)=>(do pure (f.offset,←sizeOf f.type):Sem (Nat×Nat))).run P w=.ok ((fs.toList.map fun f=>(f.offset,(yh P f.type).getD 0)).toArray) w:=by
  rw[Array.mapM_eq_mapM_toList]
  simp only[Sem.run_map]
  rw[hm]
  rfl
 have hpa:(ps.map fun(x:Nat×Operand)=>(x.1,a.eval x.2)).toList=ps.toList.map fun x=>(x.1,a.eval x.2):=by simp
 simp only[execOp,ho,Instr.build,Sem.run_bind,hzr,Result.andThen_ok,run_underlying ht,hmap,hpa,hd,Sem.run_pure]
theorem qy4 {t e:TypeId}{ps:Array (Nat×Operand)}{len n:Nat}{z:List qa}{ps':List (Nat×Nat×qh)}{qs:List (Nat×List qa)}{cs:List qa}(he:EnvRep C env a.tmps)(ho:o.op=.build t ps)(ht:P.underlying t=some (.array len e))(hz:qan P t=some z)
  (hn:yh P e=some n) (hps:qi4 P (fun i=>some (i*n,n)) ps.toList=some ps') (hq:qa2 env ps'=some qs) (hf:qcr z qs=some cs):Val P C a o w (.agg cs):=by
 obtain⟨zv,hzr,hzrep,_⟩:=q0c (C:=C) hz w
 have hpr:=qje (P:=P) he ps.toList ps' qs hps hq
 obtain⟨ds,hd,hr⟩:=qlx (ps.toList.map fun x=>(x.1,a.eval x.2)) qs z cs zv.cells hzrep hf hpr
 refine⟨.agg ds,?_,.agg cs ds.toList hr⟩
 have hpa:(ps.map fun(x:Nat×Operand)=>(x.1,a.eval x.2)).toList=ps.toList.map fun x=>(x.1,a.eval x.2):=by simp
 simp only[execOp,ho,Instr.build,Sem.run_bind,hzr,Result.andThen_ok,run_underlying ht,qah hn,hpa,hd,Sem.run_pure]
theorem qpv {sz:Nat}(he:EnvRep C env a.tmps):∀(ps:List (Nat×Operand)) (ps':List (Nat×qh)) (qs:List (Nat×qa)),qi3 ps=some ps'→qac env sz ps'=some qs →
  jj C (fun i=>some (i*sz,sz)) (ps.map fun x=>(x.1,a.eval x.2)) (qs.map fun x=>(x.1*sz,x.2.flat))∧∀q∈qs,q.2.flat.length=sz
 | [],ps',qs,hc,hv=>by
  simp[qi3]at hc;subst hc
  simp[qac]at hv;subst hv
  exact⟨.nil,by simp⟩
 |(i,x)::ps,ps',qs,hc,hv=>by
  simp only[qi3]at hc
  split at hc
  ·rename_i y r hy hr
   cases hc
   simp only[qac]at hv
   split at hv
   ·rename_i v hv1
    cases hb:(Nat.beq v.flat.length sz&&v.flat.all ze)with
    |false=>simp[hb]at hv
    |true=>
     simp only[hb,cT]at hv
     simp only[Bool.and_eq_true]at hb
     split at hv
     ·rename_i r' hr'
      cases hv
      have hl:=Nat.eq_of_beq_eq_true hb.1
      obtain⟨h1,h2⟩:=qpv he ps r r' hr hr'
      refine⟨.cons _ _ _ _ _ _ (by rw[hl]) (qer (zt he hy hv1) hb.2) h1,?_⟩
      intro q hq
      rcases List.mem_cons.1 hq with rfl|hq
      ·exact hl
      ·exact h2 q hq
     ·cases hv
   ·cases hv
  ·cases hc
theorem qt6 {sz:Nat}:∀(xs:List qa) (i:Nat) (v:qa),(∀x∈xs,x.flat.length=sz)→v.flat.length=sz→i<xs.length →
  (xs.set i v).flatMap qa.flat=(xs.flatMap qa.flat).take (i*sz)++v.flat++(xs.flatMap qa.flat).drop (i*sz+sz)
 | [],i,v,_,_,h=>by simp at h
 |x::xs,0,v,hl,hv,_=>by
  simp only[List.set_cons_zero,List.flatMap_cons,Nat.zero_mul,List.take_zero,List.nil_append,Nat.zero_add]
  rw[List.drop_append_of_le_length (by rw[hl x (by simp)];exact Nat.le_refl _),List.drop_eq_nil_of_le (by rw[hl x (by simp)];exact Nat.le_refl _)]
  simp
 |x::xs,i+1,v,hl,hv,h=>by
  simp only[List.set_cons_succ,List.flatMap_cons]
  rw[qt6 xs i v (fun y hy=>hl y (by simp[hy])) hv (by simpa using h)]
  have hx:=hl x (by simp)
  have e1:(i+1)*sz=x.flat.length+i*sz:=by rw[hx,Nat.succ_mul];omega
  have t1:List.take (x.flat.length+i*sz) (x.flat++xs.flatMap qa.flat)=x.flat++(xs.flatMap qa.flat).take (i*sz):=List.take_length_add_append _
  have t2:List.drop (x.flat.length+i*sz+sz) (x.flat++xs.flatMap qa.flat)=(xs.flatMap qa.flat).drop (i*sz+sz):=by
   rw[Nat.add_assoc];exact List.drop_length_add_append _
  rw[e1,t1,t2]
  simp
theorem qai {sz:Nat}:∀(xs:List qa),(∀x∈xs,x.flat.length=sz)→(xs.flatMap qa.flat).length=xs.length*sz
 | [],_=>by simp
 |x::xs,h=>by
  simp only[List.flatMap_cons,List.length_append,List.length_cons]
  rw[qai xs (fun y hy=>h y (by simp[hy])),h x (by simp),Nat.succ_mul];omega
theorem qwy {sz:Nat}:∀(qs:List (Nat×qa)) (xs ys:List qa),qdp xs qs=some ys→(∀x∈xs,x.flat.length=sz)→(∀q∈qs,q.2.flat.length=sz) →
  qcr (xs.flatMap qa.flat) (qs.map fun x=>(x.1*sz,x.2.flat))=some (ys.flatMap qa.flat)∧(∀y∈ys,y.flat.length=sz)∧ys.length=xs.length
 | [],xs,ys,h,hx,_=>by simp[qdp]at h;subst h;exact⟨rfl,hx,rfl⟩
 |(i,v)::qs,xs,ys,h,hx,hq=>by
  simp only[qdp]at h
  cases hb:Nat.blt i xs.length with
  |false=>simp[hb]at h
  |true=>
   simp only[hb,cT]at h
   have hlt:i<xs.length:=by have:=Nat.le_of_ble_eq_true hb;omega
   have hv:=hq (i,v) (by simp)
   obtain⟨h1,h2,h3⟩:=qwy qs (xs.set i v) ys h (fun y hy=>by
    rcases List.mem_or_eq_of_mem_set hy with h|rfl
    ·exact hx y h
    ·exact hv) (fun q h=>hq q (by simp[h]))
   refine⟨?_,h2,by simpa using h3⟩
   have hl:=qai xs hx
   have hle:i*sz+sz≤xs.length*sz:=by rw[←Nat.succ_mul];exact Nat.mul_le_mul_right _ hlt
   simp only[List.map_cons,qcr]
   rw[show Nat.ble (i*sz+v.flat.length) (xs.flatMap qa.flat).length=true from by rw[Nat.ble_eq];simp only at hv;omega]
   simp only[cT]
   rw[qt6 xs i v hx hv hlt]at h1
   simp only at hv
   rw[hv]
   exact h1
end
end Go.Abs
