/- One operation. -/
import Derived.Test.YtfopaakmgogpiaaGreatDoorAbsA
import Derived.Laws.StructEq
import Derived.Laws.Strings
import Derived.ChangeKeysEq
import Derived.Lib.SliceRun
import Derived.WalkSpells
import Derived.Laws.Cover3
import Derived.Laws.Pointers
set_option linter.unusedVariables false
set_option linter.unusedSimpArgs false
namespace Go.Abs
def zk (P:Program) (C0:Ctx) (w0:World) (C:Ctx) (tmps:Array Value) (d:Loc) (env:Env) (res:ORes) (v:Value) (w':World):Prop:=
 ∃ C' ω',C.le C'∧MInv P C' ω' w0 C0 res.heap w'∧EnvRel C' ω' w' w0.heap.size (z8 env res.strip) tmps∧Rep C' res.v v∧(res.own=true→OwnV C' ω' w' w0.heap.size d res.v v)
theorem qwq (C:Ctx) {v:Value} {x:AVal} (h:qll v=some x):Rep C x v:=by
 unfold qll at h
 split at h <;> first | cases h | skip
 ·exact .bool _
 ·exact .int _ _
 ·exact .str _
 ·exact .lnil _
 ·exact .nilptr
 ·exact .nilmap
 ·exact .nilfn
theorem qg9 (C:Ctx):∀ {vs:List Value} {xs:List AVal},qes vs=some xs→RepL C xs vs
 | [],xs,h=>by simp [qes] at h; subst h; exact .nil
 | v::vs,xs,h=>by
  simp only [qes] at h
  split at h
  ·rename_i x hx
   split at h
   ·rename_i ys hys
    cases h
    exact .cons _ _ _ _ (qwq C hx) (qg9 C hys)
   ·cases h
  ·cases h
theorem qsp (C:Ctx) {v:Value} {x:AVal} (h:ofValue v=some x):Rep C x v:=by
 unfold ofValue at h
 split at h
 ·rename_i cs
  split at h
  ·rename_i xs hx
   cases h
   exact .agg _ _ (qg9 C hx)
  ·cases h
 ·exact qwq C h
section
variable {P:Program} {C C0:Ctx} {ω:Nat→Option Loc} {w w0:World} {hp:qf} {env:Env} {a:Act} {B:Nat}
theorem q9 {x:Operand} {y:qq} {v:AVal} (he:EnvRep C env a.tmps) (hc:qy x=some y) (hv:qj env y=some v):Rep C v (a.eval x):=by
 cases x with
 | tmp t=>
  simp only [qy] at hc
  cases hc
  simp only [qj] at hv
  split at hv
  ·rename_i x hx
   cases hv
   obtain ⟨u,h1,h2⟩:=he t x hx
   have:a.eval (.tmp t)=u:=by simp [Act.eval,Array.getD_eq_getD_getElem?,h1]
   rw [this]; exact h2
  ·cases hv
 | const u=>
  simp only [qy] at hc
  split at hc
  ·rename_i z hz
   cases hc
   simp only [qj] at hv
   cases hv
   exact qsp C hz
  ·cases hc
 | func f=>
  simp only [qy] at hc
  cases hc
  simp only [qj] at hv
  cases hv
  exact .fn (.func f) (.func f) [] [] [] [] rfl .nil .nil
 | global g=>simp [qy] at hc
theorem qgt (he:EnvRep C env a.tmps):∀ {xs:List Operand} {ys:List qq} {vs:List AVal},qfi xs=some ys→kl env ys=some vs→RepL C vs (xs.map a.eval)
 | [],ys,vs,hc,hv=>by simp [qfi] at hc; subst hc; simp [kl] at hv; subst hv; exact .nil
 | x::xs,ys,vs,hc,hv=>by
  simp only [qfi] at hc
  split at hc
  ·rename_i y hy
   split at hc
   ·rename_i zs hzs
    cases hc
    simp only [kl] at hv
    split at hv
    ·rename_i v hv1
     split at hv
     ·rename_i us hus
      cases hv
      exact .cons _ _ _ _ (q9 he hy hv1) (qgt he hzs hus)
     ·cases hv
    ·cases hv
   ·cases hc
  ·cases hc
theorem Rep.bool_inv {b:Bool} {v:Value} (h:Rep C (.bool b) v):v=.bool b:=by cases h; rfl
theorem Rep.int_inv {k:IntKind} {n:Int} {v:Value} (h:Rep C (.int k n) v):v=.int k n:=by cases h; rfl
theorem Rep.str_inv {s:List UInt8} {v:Value} (h:Rep C (.str s) v):v=.string ⟨⟨s⟩⟩:=by cases h; rfl
theorem Rep.ptr_inv {b o:Nat} {v:Value} (h:Rep C (.ptr b o) v):∃ r,C.β b=some r∧v=.pointer (some ⟨r,o,none⟩):=by cases h; exact ⟨_,‹_›,rfl⟩
theorem Rep.vptr_inv {x:AVal} {v:Value} (h:Rep C (.vptr x) v):∃ r o,v=.pointer (some ⟨r,o,none⟩)∧RepC C r x.flat o:=by cases h; exact ⟨_,_,rfl,‹_›⟩
theorem Rep.agg_inv {cs:List AVal} {v:Value} (h:Rep C (.agg cs) v):∃ vs,v=.agg ⟨vs⟩∧RepL C cs vs:=by cases h; exact ⟨_,rfl,‹_›⟩
theorem Rep.tup_inv {cs:List AVal} {v:Value} (h:Rep C (.tup cs) v):∃ vs,v=.tuple ⟨vs⟩∧RepL C cs vs:=by cases h; exact ⟨_,rfl,‹_›⟩
theorem Rep.ms_inv {b o len:Nat} {v:Value} (h:Rep C (.ms b o len) v):∃ r cap,C.β b=some r∧len≤cap∧v=.slice (some ⟨r,o,none⟩) len cap:=by cases h; exact ⟨_,_,‹_›,‹_›,rfl⟩
theorem Rep.list_inv {n:Bool} {sz:Nat} {xs:List AVal} {v:Value} (h:Rep C (.list n sz xs) v):
  (n=true∧xs=[]∧v=.slice none 0 0)∨(n=false∧∃ r o cap,v=.slice (some ⟨r,o,none⟩) xs.length cap∧xs.length≤cap∧RepRow C r sz xs o)∨(n=false∧xs=[]∧∃ a,a.spot ≠ none∧v=.slice (some a) 0 0):=by
 cases h
 ·exact .inl ⟨rfl,rfl,rfl⟩
 ·exact .inr (.inl ⟨rfl,_,_,_,rfl,‹_›,‹_›⟩)
 ·exact .inr (.inr ⟨rfl,rfl,_,‹_›,rfl⟩)
theorem Rep.len {n:Bool} {sz:Nat} {xs:List AVal} {v:Value} (h:Rep C (.list n sz xs) v):∃ b cap,v=.slice b xs.length cap:=by
 rcases h.list_inv with ⟨rfl,rfl,rfl⟩ | ⟨rfl,r,o,cap,rfl,_,_⟩ | ⟨rfl,rfl,a,_,rfl⟩
 ·exact ⟨none,0,rfl⟩
 ·exact ⟨_,_,rfl⟩
 ·exact ⟨_,_,rfl⟩
theorem add_lit (r o n:Nat):(⟨r,o,none⟩:Addr).add n=⟨r,o + n,none⟩:=by unfold Addr.add; split <;> simp_all
theorem qfj (k:IntKind) (n:Int):qe k n=k.wrap n:=by
 unfold qe
 cases h:qd5 k n with
 | false=>rfl
 | true=>
  simp only [cond_true]
  symm
  have key:∀ m:Nat,IntKind.min k≤n→n≤IntKind.max k→k.wrap n=n:=by
   intro _ h1 h2
   unfold IntKind.wrap
   cases k <;> simp [IntKind.bits,IntKind.signed,IntKind.min,IntKind.max] at * <;> omega
  refine key 0 ?_ ?_
  ·cases k <;> cases n <;> simp [qd5,IntKind.min,IntKind.signed,IntKind.bits] at * <;> omega
  ·cases k <;> cases n <;> simp [qd5,IntKind.max,IntKind.signed,IntKind.bits] at * <;> omega
theorem qeu {t:TypeId} {b:Bool} (h:yj P t=some b) (w:World):(isAgg t).run P w=.ok b w:=by
 unfold yj at h
 unfold isAgg
 cases hu:P.underlying t with
 | none=>simp [hu] at h
 | some d=>rw [hu] at h; simp [run_underlying hu]; cases d <;> simp at h <;> subst h <;> rfl
theorem yi {t:TypeId} {n:Nat} (h:jp P t=some n) (w:World):(sizeOf t).run P w=.ok n w:=by
 unfold jp at h
 cases hi:P.info? t with
 | none=>simp [hi] at h
 | some i=>simp [hi] at h; simp [sizeOf,typeInfo,hi,h]
theorem q10 {t:TypeId} {ag:Bool} {n off:Nat} {cs:List AVal} {vs:List Value} {x:AVal} (hg:yj P t=some ag) (hn:jp P t=some n) (hp:part ag cs off n=some x) (hr:RepL C cs vs) (w:World):
  ∃ v,(Go.part t ⟨vs⟩ off).run P w=.ok v w∧Rep C x v:=by
 unfold part at hp
 cases ag with
 | true=>
  simp only [cond_true] at hp
  cases hb:Nat.ble (off + n) cs.length with
  | false=>simp [hb] at hp
  | true=>
   simp [hb] at hp
   subst hp
   refine ⟨.agg ⟨(vs.drop off).take n⟩,?_,.agg _ _ ((hr.drop off).take n)⟩
   simp [Go.part,qeu hg,yi hn]
 | false=>
  simp only [cond_false] at hp
  obtain ⟨v,h1,h2⟩:=hr.get hp
  exact ⟨v,by simp [Go.part,qeu hg,h1],h2⟩
theorem qql (a:List UInt8):(⟨⟨a⟩⟩:ByteArray).toList=a:=by
 rw [ByteArray.toList_eq]
end
theorem qgy:∀ {ks:List Kd} {xs ys:List AVal} (ks':List Kd) (xs' ys':List AVal),xs.length=ks.length→ys.length=ks.length →
  z7 (ks++ks') (xs++xs') (ys++ys')=match z7 ks xs ys with | some true=>z7 ks' xs' ys' | r=>r
 | [],[],[],ks',xs',ys',_,_=>by simp [z7]
 | k::ks,x::xs,y::ys,ks',xs',ys',h,h'=>by
  simp only [List.cons_append,z7]
  cases he:qbb k x y with
  | none=>simp
  | some b=>cases b with
   | false=>simp
   | true=>simpa using qgy ks' xs' ys' (by simpa using h) (by simpa using h')
 | [],_::_,_,_,_,_,h,_=>by simp at h
 | [],[],_::_,_,_,_,_,h=>by simp at h
 | _::_,[],_,_,_,_,h,_=>by simp at h
 | _::_,_::_,[],_,_,_,_,h=>by simp at h
def qhf (ag:Bool) (us:List Value):Value:=if ag then .agg ⟨us⟩ else us.headD undef
def q8g:TypeDesc→Bool
 | .struct _=>true
 | .array _ _=>true
 | _=>false
section
variable {P:Program} {C:Ctx}
theorem q93 {t:TypeId} {d:TypeDesc} (h:P.underlying t=some d):yj P t=some (q8g d):=by
 unfold yj
 rw [h]
 cases d <;> rfl
theorem qkk {t:TypeId} {ag:Bool} {n off:Nat} {us:List Value} (hg:yj P t=some ag) (hn:jp P t=some n) (h1:ag=false→n=1) (hl:off + n≤us.length) (w:World):
  (Go.part t ⟨us⟩ off).run P w=.ok (qhf ag ((us.drop off).take n)) w:=by
 cases ag with
 | true=>simp [Go.part,qeu hg,yi hn,qhf]
 | false=>
  obtain rfl:=h1 rfl
  have hlt:off < us.length:=by omega
  simp only [Go.part,Sem.run_bind,qeu hg,Result.andThen_ok,qhf,Bool.false_eq_true,if_false]
  have e:(⟨us⟩:Array Value)[off]?=some us[off]:=by
   show (List.toArray us)[off]?=_
   rw [List.getElem?_toArray,List.getElem?_eq_getElem hlt]
  rw [e,List.drop_eq_getElem_cons hlt]
  rfl
def jdv (P:Program) (C:Ctx) (n:Nat) (t:TypeId) (ks:List Kd):Prop:=
 ∃ ag,yj P t=some ag∧jp P t=some ks.length∧(ag=false→ks.length=1)∧∀ d,n≤d→∀ xs ys us vs b w,RepL C xs us→RepL C ys vs→xs.length=ks.length→ys.length=ks.length→z7 ks xs ys=some b →
  (Op.equalIn d t (qhf ag us) (qhf ag vs)).run P w=.ok b w
theorem qij {α:Type} (xs:List α) (off n:Nat):xs.drop off=(xs.drop off).take n++xs.drop (off + n):=by
 rw [← List.drop_drop]; exact (List.take_append_drop _ _).symm
theorem qsq {n d:Nat} (hd:n≤d):∀ (fs:List Field) (off:Nat) (ks:List Kd) (xs ys:List AVal) (us vs:List Value) (b:Bool) (w:World),
  qmx (qe5 P n) off fs=some ks →
  (∀ f∈fs,∀ ks,qe5 P n f.type=some ks→jdv P C n f.type ks) →
  RepL C xs us→RepL C ys vs→xs.length=off + ks.length→ys.length=off + ks.length→z7 ks (xs.drop off) (ys.drop off)=some b →
  (Op.eqFields d ⟨us⟩ ⟨vs⟩ fs).run P w=.ok b w
 | [],off,ks,xs,ys,us,vs,b,w,hf,_,hx,hy,hxl,hyl,he=>by
  simp [qmx] at hf
  subst hf
  rw [List.drop_eq_nil_of_le (by simp at hxl; omega),List.drop_eq_nil_of_le (by simp at hyl; omega)] at he
  simp [z7] at he
  subst he
  simp [Op.eqFields]
 | f::fs,off,ks,xs,ys,us,vs,b,w,hf,hok,hx,hy,hxl,hyl,he=>by
  simp only [qmx] at hf
  split at hf
  ·rename_i hc
   simp at hc
   obtain ⟨hname,hoff⟩:=hc
   split at hf
   ·rename_i k1 hk1
    split at hf
    ·rename_i k2 hk2
     cases hf
     obtain ⟨ag,hag,hsz,h1,heq⟩:=hok f (by simp) k1 hk1
     have hul:=hx.length
     have hvl:=hy.length
     simp at hxl hyl
     have p1:=qkk (P:=P) (us:=us) (off:=f.offset) hag hsz h1 (by omega) w
     have p2:=qkk (P:=P) (us:=vs) (off:=f.offset) hag hsz h1 (by omega) w
     rw [qij xs off k1.length,qij ys off k1.length,qgy _ _ _ (by simp; omega) (by simp; omega)] at he
     simp only [Op.eqFields,ne_eq,hname,not_false_eq_true,if_true,Sem.run_bind,p1,p2,Result.andThen_ok]
     rw [hoff]
     cases hb:z7 k1 ((xs.drop off).take k1.length) ((ys.drop off).take k1.length) with
     | none=>rw [hb] at he; cases he
     | some b1=>
      rw [hb] at he
      rw [heq d hd _ _ _ _ b1 w ((hx.drop off).take _) ((hy.drop off).take _) (by simp; omega) (by simp; omega) hb]
      cases b1 with
      | false=>simp at he; subst he; simp
      | true=>
       simp only [Result.andThen_ok,Bool.not_true,Bool.false_eq_true,if_false]
       exact qsq hd fs (off + k1.length) k2 xs ys us vs b w hk2 (fun g hg=>hok g (by simp [hg])) hx hy (by omega) (by omega) he
    ·cases hf
   ·cases hf
  ·cases hf
theorem qvs {n d:Nat} (hd:n≤d) {e:TypeId} {ag:Bool} {k1:List Kd} (hag:yj P e=some ag) (hsz:jp P e=some k1.length) (h1:ag=false→k1.length=1)
  (heq:∀ d,n≤d→∀ xs ys us vs b w,RepL C xs us→RepL C ys vs→xs.length=k1.length→ys.length=k1.length→z7 k1 xs ys=some b→(Op.equalIn d e (qhf ag us) (qhf ag vs)).run P w=.ok b w):
  ∀ (len i:Nat) (xs ys:List AVal) (us vs:List Value) (b:Bool) (w:World),
  RepL C xs us→RepL C ys vs→xs.length=i * k1.length + len * k1.length→ys.length=i * k1.length + len * k1.length→z7 (List.replicate len k1).flatten (xs.drop (i * k1.length)) (ys.drop (i * k1.length))=some b →
  (Op.eqItems d e k1.length ⟨us⟩ ⟨vs⟩ (List.range' i len)).run P w=.ok b w
 | 0,i,xs,ys,us,vs,b,w,hx,hy,hxl,hyl,he=>by
  rw [List.drop_eq_nil_of_le (by simp at hxl; omega),List.drop_eq_nil_of_le (by simp at hyl; omega)] at he
  simp [z7] at he
  subst he
  simp [Op.eqItems]
 | len + 1,i,xs,ys,us,vs,b,w,hx,hy,hxl,hyl,he=>by
  have hul:=hx.length
  have hvl:=hy.length
  rw [Nat.succ_mul] at hxl hyl
  have p1:=qkk (P:=P) (us:=us) (off:=i * k1.length) hag hsz h1 (by omega) w
  have p2:=qkk (P:=P) (us:=vs) (off:=i * k1.length) hag hsz h1 (by omega) w
  rw [List.replicate_succ,List.flatten_cons,qij xs (i * k1.length) k1.length,qij ys (i * k1.length) k1.length,qgy _ _ _ (by simp; omega) (by simp; omega)] at he
  simp only [List.range'_succ,Op.eqItems,Sem.run_bind,p1,p2,Result.andThen_ok]
  cases hb:z7 k1 ((xs.drop (i * k1.length)).take k1.length) ((ys.drop (i * k1.length)).take k1.length) with
  | none=>rw [hb] at he; cases he
  | some b1=>
   rw [hb] at he
   rw [heq d hd _ _ _ _ b1 w ((hx.drop _).take _) ((hy.drop _).take _) (by simp; omega) (by simp; omega) hb]
   cases b1 with
   | false=>simp at he; subst he; simp
   | true=>
    simp only [Result.andThen_ok,Bool.not_true,Bool.false_eq_true,if_false]
    refine qvs hd hag hsz h1 heq len (i + 1) xs ys us vs b w hx hy (by rw [hxl,Nat.succ_mul]; omega) (by rw [hyl,Nat.succ_mul]; omega) ?_
    rw [Nat.succ_mul]; exact he
theorem qzl {t:TypeId} {n:Nat} (h:jp P t=some n):P.cellsOf t=n:=by
 unfold jp at h
 unfold Program.cellsOf
 rw [h]; rfl
theorem qzd {t:TypeId} {n:Nat} (h:jp P t=some n):∃ i,P.info? t=some i∧i.size=n:=by
 unfold jp at h
 cases hi:P.info? t with
 | none=>simp [hi] at h
 | some i=>exact ⟨i,rfl,by simpa [hi] using h⟩
theorem q33 {k:Kd} {x y:AVal} {b:Bool} (h:z7 [k] [x] [y]=some b):qbb k x y=some b:=by
 simp only [z7] at h
 split at h <;> simp_all
theorem jag {xs:List AVal} {us:List Value} (h:RepL C xs us) (hl:xs.length=1):∃ x u,xs=[x]∧us=[u]∧Rep C x u:=by
 obtain ⟨x,rfl⟩:=List.length_eq_one_iff.1 hl
 cases h with
 | cons _ _ u vs hx h=>cases h; exact ⟨x,u,rfl,rfl,hx⟩
theorem q3j {k:Kd} {x y:AVal} {b:Bool} {u v:Value} (h:qbb k x y=some b) (hx:Rep C x u) (hy:Rep C y v):
  match k with
  | .int=>∃ kd a c,u=.int kd a∧v=.int kd c∧b=(a == c)
  | .str=>∃ a c:List UInt8,u=.string ⟨⟨a⟩⟩∧v=.string ⟨⟨c⟩⟩∧b=(a == c)
  | .bool=>∃ a c,u=.bool a∧v=.bool c∧b=(a == c):=by
 unfold qbb at h
 split at h
 ·rename_i k a k' c
  cases hx; cases hy
  by_cases hk:k=k'
  ·subst hk; simp at h; exact ⟨_,_,_,rfl,rfl,h.symm⟩
  ·simp [hk] at h
 ·cases hx; cases hy; cases h; exact ⟨_,_,rfl,rfl,rfl⟩
 ·cases hx; cases hy; cases h; exact ⟨_,_,rfl,rfl,rfl⟩
 ·cases h
theorem q1g {t:TypeId} {k:Kd} {x y:AVal} {b:Bool} {u v:Value} (hk:kdT P t=some k) (h:qbb k x y=some b) (hx:Rep C x u) (hy:Rep C y v) (d:Nat) (w:World):
  (Op.equalIn (d + 1) t u v).run P w=.ok b w:=by
 have hc:=q3j h hx hy
 unfold kdT at hk
 cases hu:P.underlying t with
 | none=>simp [hu] at hk
 | some D=>
  rw [hu] at hk
  cases D <;> simp at hk <;> subst hk <;> simp only [] at hc
  ·obtain ⟨a,c,rfl,rfl,rfl⟩:=hc; exact run_equalIn_bool w d t a c hu
  ·obtain ⟨kd,a,c,rfl,rfl,rfl⟩:=hc; exact run_equalIn_int w d t kd _ a c hu
  ·obtain ⟨a,c,rfl,rfl,rfl⟩:=hc
   rw [run_equalIn_string w d t _ _ hu,qql,qql]
theorem qh8:∀ (n:Nat) (t:TypeId) (ks:List Kd),qe5 P n t=some ks→jdv P C n t ks
 | 0,t,ks,h=>by simp [qe5] at h
 | n + 1,t,ks,h=>by
  unfold qe5 at h
  cases hu:P.underlying t with
  | none=>simp [hu] at h
  | some D=>
   rw [hu] at h
   have hag:=q93 hu
   have scalar:∀ k,ks=[k]→jp P t=some 1→kdT P t=some k→q8g D=false→jdv P C (n + 1) t ks:=by
    intro k hks hs hk ha
    subst hks
    refine ⟨false,by rw [hag,ha],hs,fun _=>rfl,?_⟩
    intro d hd xs ys us vs b w hx hy hxl hyl he
    obtain ⟨d,rfl⟩:∃ m,d=m + 1:=⟨d - 1,by omega⟩
    obtain ⟨x,u,rfl,rfl,hx1⟩:=jag hx hxl
    obtain ⟨y,v,rfl,rfl,hy1⟩:=jag hy hyl
    exact q1g hk (q33 he) hx1 hy1 d w
   cases D <;> simp only [] at h <;> first | (simp at h; done) | skip
   case int k=>
    split at h <;> first | cases h | skip
    rename_i hs
    exact scalar .int rfl (by simpa using hs) (by simp [kdT,hu]) rfl
   case bool=>
    split at h <;> first | cases h | skip
    rename_i hs
    exact scalar .bool rfl (by simpa using hs) (by simp [kdT,hu]) rfl
   case string=>
    split at h <;> first | cases h | skip
    rename_i hs
    exact scalar .str rfl (by simpa using hs) (by simp [kdT,hu]) rfl
   case array len e=>
    split at h
    ·rename_i k1 hk1
     split at h
     ·rename_i hs
      cases h
      obtain ⟨ag,hag',hsz,h1,heq⟩:=qh8 n e k1 hk1
      have hlen:(List.replicate len k1).flatten.length=len * k1.length:=by simp [List.length_flatten]
      refine ⟨true,by simpa [q8g] using hag,by rw [hlen]; simpa using hs,(fun h=>by cases h),?_⟩
      intro d hd xs ys us vs b w hx hy hxl hyl he
      obtain ⟨d,rfl⟩:∃ m,d=m + 1:=⟨d - 1,by omega⟩
      obtain ⟨i,hi,_⟩:=qzd hsz
      simp only [qhf,if_true]
      rw [run_equalIn_array w d _ _ hu hi,qzl hsz,List.range_eq_range']
      exact qvs (by omega) hag' hsz h1 heq len 0 xs ys us vs b w hx hy (by rw [hxl,hlen]; omega) (by rw [hyl,hlen]; omega) (by simpa using he)
     ·cases h
    ·cases h
   case struct fs=>
    split at h
    ·rename_i k1 hk1
     split at h
     ·rename_i hs
      cases h
      simp at hs
      obtain ⟨hso,hsz⟩:=hs
      refine ⟨true,by simpa [q8g] using hag,hsz,(fun h=>by cases h),?_⟩
      intro d hd xs ys us vs b w hx hy hxl hyl he
      obtain ⟨d,rfl⟩:∃ m,d=m + 1:=⟨d - 1,by omega⟩
      simp only [qhf,if_true]
      have hf:P.fieldsOf t=fs:=by simp [Program.fieldsOf,hu]
      rw [run_equalIn_struct w d t _ _ (by rw [hf]; exact hu) hso,hf]
      exact qsq (n:=n) (by omega) fs.toList 0 _ xs ys us vs b w hk1 (fun f _ ks hp=>qh8 n f.type ks hp) hx hy (by omega) (by omega) (by simpa using he)
     ·cases h
    ·cases h
end
section
variable {P:Program} {C:Ctx} {w:World} {env:Env} {a:Act} {o:Oper}
def Val (P:Program) (C:Ctx) (a:Act) (o:Oper) (w:World) (x:AVal):Prop:=∃ v,(execOp a.eval o).run P w=.ok (.value v) w∧Rep C x v
theorem jev {x:Operand} {y:qq} {v:AVal} (he:EnvRep C env a.tmps) (ho:o.op=.move x∨o.op=.assign x) (hc:qy x=some y) (hv:qj env y=some v):Val P C a o w v:=by
 refine ⟨a.eval x,?_,q9 he hc hv⟩
 rcases ho with ho | ho <;> simp [execOp,ho]
theorem jeg {c x y:Operand} {c' x' y':qq} {b:Bool} {u v:AVal} (he:EnvRep C env a.tmps) (ho:o.op=.pick c x y) (h1:qy c=some c') (h2:qy x=some x') (h3:qy y=some y')
  (e1:qj env c'=some (.bool b)) (e2:qj env x'=some u) (e3:qj env y'=some v):Val P C a o w (bif b then u else v):=by
 have r1:=(q9 he h1 e1).bool_inv
 have r2:=q9 he h2 e2
 have r3:=q9 he h3 e3
 refine ⟨if b then a.eval x else a.eval y,by simp [execOp,ho,r1,asBool],?_⟩
 cases b <;> simpa
theorem qos {x:Operand} {y:qq} {v:AVal} (he:EnvRep C env a.tmps) (ho:o.op=.nilCheck x) (hc:qy x=some y) (hv:qj env y=some v)
  (hk:(∃ b p,v=.ptr b p)∨(∃ z,v=.vptr z)):Val P C a o w v:=by
 have r:=q9 he hc hv
 rcases hk with ⟨b,p,rfl⟩ | ⟨z,rfl⟩
 ·obtain ⟨q,_,hq⟩:=r.ptr_inv
  exact ⟨a.eval x,by simp [execOp,ho,hq],r⟩
 ·obtain ⟨q,p,hq,_⟩:=r.vptr_inv
  exact ⟨a.eval x,by simp [execOp,ho,hq],r⟩
theorem qnu (op:BinOp) (k:IntKind) (x y:Int) (t:TypeId) (h1:op ≠ .shl) (h2:op ≠ .shr):binOp op t (.int k x) (.int k y)=match op with
  | .add | .sub | .mul=>Op.intArith op k x y
  | .quo | .rem=>Op.intDiv op k x y
  | .and | .or | .xor | .andNot=>Op.intBits op k x y
  | _=>Op.intCmp op x y:=by
 cases op <;> simp at h1 h2 <;> simp [binOp]
theorem q6o {op:BinOp} {k:IntKind} {x y:Int} {v:AVal} (h:qdb op k x y=some v) (t:TypeId) (w:World):∃ u,(binOp op t (.int k x) (.int k y)).run P w=.ok u w∧Rep C v u:=by
 unfold qdb at h
 cases op <;> simp only [] at h <;> first | (cases h; done) | skip
 case quo=>
  cases hy:(y == 0) with
  | true=>simp [hy] at h
  | false=>
   simp [hy] at h
   subst h
   have:y ≠ 0:=by simpa using hy
   rw [qfj,qnu _ _ _ _ _ (by simp) (by simp)]
   refine ⟨_,?_,.int _ _⟩
   simp [Op.intDiv,this]
 case rem=>
  cases hy:(y == 0) with
  | true=>simp [hy] at h
  | false=>
   simp [hy] at h
   subst h
   have:y ≠ 0:=by simpa using hy
   rw [qnu _ _ _ _ _ (by simp) (by simp)]
   refine ⟨_,?_,.int _ _⟩
   simp [Op.intDiv,this]
 all_goals (cases h; rw [qnu _ _ _ _ _ (by simp) (by simp)]; try rw [qfj])
 all_goals first
  | exact ⟨_,rfl,.int _ _⟩
  | exact ⟨_,rfl,.bool _⟩
theorem qrg:∀ (x y:List UInt8),bytesLess x y=Op.bytesLess x y
 | x,[]=>by cases x <;> rfl
 | [],_::_=>rfl
 | a::x,b::y=>by simp only [bytesLess,Op.bytesLess,qrg x y]
theorem q7u {op:BinOp} {x y:List UInt8} {v:AVal} (h:qq1 op x y=some v) (t:TypeId) (w:World):∃ u,(binOp op t (.string ⟨⟨x⟩⟩) (.string ⟨⟨y⟩⟩)).run P w=.ok u w∧Rep C v u:=by
 unfold qq1 at h
 cases op <;> simp only [] at h <;> first | (cases h; done) | skip
 ·cases hb:Nat.ble (x.length + y.length) 4611686018427387904 with
  | false=>simp [hb] at h
  | true=>
   simp [hb] at h
   subst h
   have hle:x.length + y.length≤4611686018427387904:=Nat.le_of_ble_eq_true hb
   refine ⟨.string ⟨⟨x++y⟩⟩,?_,.str _⟩
   have e1:(⟨⟨x⟩⟩:ByteArray).size=x.length:=rfl
   have e2:(⟨⟨y⟩⟩:ByteArray).size=y.length:=rfl
   have e3:(⟨⟨x⟩⟩:ByteArray)++⟨⟨y⟩⟩=⟨⟨x++y⟩⟩:=by
    jh ByteArray.ext
    simp [ByteArray.data_append]
   simp only [binOp,Op.stringOp,e1,e2,e3,IntKind.max,IntKind.signed,IntKind.bits]
   rw [if_neg (by simp; omega)]
   rfl
 all_goals (cases h; refine ⟨_,?_,.bool _⟩; simp [binOp,Op.stringOp,qrg])
theorem q65 {op:BinOp} {x y v:AVal} {u u':Value} (h:ym op x y=some v) (hx:Rep C x u) (hy:Rep C y u') (t:TypeId) (w:World):∃ z,(binOp op t u u').run P w=.ok z w∧Rep C v z:=by
 unfold ym at h
 split at h
 ·rename_i k a k' b
  obtain rfl:=hx.int_inv
  obtain rfl:=hy.int_inv
  have hsh:∀ (op:BinOp),(op=.shl∨op=.shr)→qni op k a b=some v→∃ z,(binOp op t (.int k a) (.int k' b)).run P w=.ok z w∧Rep C v z:=by
   intro op hop h
   unfold qni at h
   cases hb:decide (b < 0) with
   | true=>simp [hb] at h
   | false=>
    have hb':¬ b < 0:=by simpa using hb
    rcases hop with rfl | rfl <;> simp [hb] at h <;> subst h
    ·rw [qfj]; (refine ⟨_,?_,.int _ _⟩; simp [binOp,Op.shift,hb'])
    ·(refine ⟨_,?_,.int _ _⟩; simp [binOp,Op.shift,hb'])
  have hin:op ≠ .shl→op ≠ .shr→(bif decide (k=k') then qdb op k a b else none)=some v→∃ z,(binOp op t (.int k a) (.int k' b)).run P w=.ok z w∧Rep C v z:=by
   intro _ _ h
   by_cases hk:k=k'
   ·subst hk; simp at h; exact q6o h t w
   ·simp [hk] at h
  cases op <;> simp only [] at h <;> first | exact hsh _ (.inl rfl) h | exact hsh _ (.inr rfl) h | exact hin (by simp) (by simp) h
 ·obtain rfl:=hx.str_inv
  obtain rfl:=hy.str_inv
  exact q7u h t w
 ·cases h
theorem q3w (op:BinOp) (t:TypeId) (x y:Operand) (u v:Value) (w:World) (h1:¬ (u=.nilIface∧v=.nilIface)) (h2:(∀ cs,u ≠ .agg cs)∨P.eqGuardType P.depth t=false):(eqGuard op t x y u v).run P w=.ok () w:=by
 unfold eqGuard
 by_cases hop:(!(match op with | .eql | .neq=>true | _=>false))=true
 ·cases op <;> simp_all
 ·cases op <;> simp at hop ⊢
  all_goals (
   split
   ·exact absurd ⟨rfl,rfl⟩ h1
   ·rcases h2 with h2 | h2
    ·rename_i cs _ ; exact absurd rfl (h2 cs)
    ·simp [h2]
   ·rfl)
theorem qik {op:BinOp} {t u:TypeId} {x y:Operand} {p q z:Value} (ho:o.op=.binOp op t x y u) (hx:a.eval x=p) (hy:a.eval y=q) (h1:¬ (p=.nilIface∧q=.nilIface)) (h2:(∀ cs,p ≠ .agg cs)∨P.eqGuardType P.depth t=false)
  (hz:(binOp op t p q).run P w=.ok z w):(execOp a.eval o).run P w=.ok (.value z) w:=by
 have hg:=q3w (P:=P) op t x y p q w h1 h2
 subst hx; subst hy
 simp only [execOp,ho,Sem.run_bind,hg,Result.andThen_ok,hz,Sem.run_pure]
theorem qzg {x:AVal} {v:Value} (h:Rep C x v) (hx:x ≠ .undef) (hy:x ≠ .any:=by simp):v ≠ .nilIface:=by
 cases h <;> simp at hx hy ⊢
theorem qzm {op:BinOp} {x y v:AVal} (h:ym op x y=some v):(x ≠ .undef∧(∀ cs,x ≠ .agg cs)∧x ≠ .any):=by
 unfold ym at h
 split at h <;> simp at h ⊢
theorem q4o {x:AVal} {v:Value} (h:Rep C x v) (hx:x ≠ .undef) (ha:∀ cs,x ≠ .agg cs) (hy:x ≠ .any:=by simp):∀ cs,v ≠ .agg cs:=by
 cases h <;> simp at hx ha hy ⊢
theorem jk4 {op:BinOp} {t u:TypeId} {x y:Operand} {x' y':qq} {p q v:AVal} (he:EnvRep C env a.tmps) (ho:o.op=.binOp op t x y u) (h1:qy x=some x') (h2:qy y=some y')
  (e1:qj env x'=some p) (e2:qj env y'=some q) (hv:ym op p q=some v):Val P C a o w v:=by
 have r1:=q9 he h1 e1
 have r2:=q9 he h2 e2
 obtain ⟨hn,ha,hy⟩:=qzm hv
 obtain ⟨z,hz,hr⟩:=q65 (P:=P) hv r1 r2 t w
 refine ⟨z,?_,hr⟩
 exact qik ho rfl rfl (fun h=>qzg r1 hn hy h.1) (.inl (q4o r1 hn ha hy)) hz
theorem qjr {neq:Bool} {t:TypeId} {u v:Value} {b:Bool} (w:World) (hu:(∀ k n,u ≠ .int k n)∧(∀ s,u ≠ .string s)∧(∀ k n,u ≠ .float k n)∧(∀ k n m,u ≠ .complex k n m))
  (h:(Op.equal t u v).run P w=.ok b w):(binOp (if neq then .neq else .eql) t u v).run P w=.ok (.bool (bif neq then !b else b)) w:=by
 obtain ⟨h1,h2,h3,h4⟩:=hu
 cases neq <;> cases u <;> simp_all [binOp]
theorem ji4 {op:BinOp} {neq:Bool} {t u:TypeId} {x y:Operand} {x' y':qq} {p q:List AVal} {ks:List Kd} {b:Bool} (he:EnvRep C env a.tmps) (ho:o.op=.binOp op t x y u) (hop:op=if neq then .neq else .eql)
  (h1:qy x=some x') (h2:qy y=some y') (e1:qj env x'=some (.agg p)) (e2:qj env y'=some (.agg q)) (hg:P.eqGuardType P.depth t=false) (hk:qe5 P qio t=some ks) (hag:yj P t=some true)
  (hl1:p.length=ks.length) (hl2:q.length=ks.length) (hb:z7 ks p q=some b):Val P C a o w (.bool (bif neq then !b else b)):=by
 obtain ⟨us,hu,ru⟩:=(q9 he h1 e1).agg_inv
 obtain ⟨vs,hv,rv⟩:=(q9 he h2 e2).agg_inv
 obtain ⟨ag,ha,_,_,heq⟩:=qh8 (C:=C) qio t ks hk
 rw [hag] at ha; cases ha
 have hq:=heq 10000 (by decide) p q us vs b w ru rv hl1 hl2 hb
 simp only [qhf,if_true] at hq
 refine ⟨_,?_,.bool _⟩
 have hbin:=qjr (P:=P) (neq:=neq) (t:=t) (u:=.agg ⟨us⟩) (v:=.agg ⟨vs⟩) (b:=b) w ⟨by simp,by simp,by simp,by simp⟩ hq
 exact qik (hop ▸ ho) hu hv (by simp) (.inr hg) hbin
theorem jji {op:BinOp} {neq:Bool} {t u:TypeId} {x y:Operand} {x' y':qq} {p q:Bool} (he:EnvRep C env a.tmps) (ho:o.op=.binOp op t x y u) (hop:op=if neq then .neq else .eql)
  (h1:qy x=some x') (h2:qy y=some y') (e1:qj env x'=some (.bool p)) (e2:qj env y'=some (.bool q)) (ht:P.underlying t=some .bool):Val P C a o w (.bool (bif neq then !(p == q) else p == q)):=by
 have hu:=(q9 he h1 e1).bool_inv
 have hv:=(q9 he h2 e2).bool_inv
 refine ⟨_,?_,.bool _⟩
 have hbin:=qjr (P:=P) (neq:=neq) (t:=t) (u:=.bool p) (v:=.bool q) (b:=p == q) w ⟨by simp,by simp,by simp,by simp⟩ (run_equalIn_bool w 9999 t p q ht)
 exact qik (hop ▸ ho) hu hv (by simp) (.inl (by simp)) hbin
theorem jbo {op:BinOp} {neq b:Bool} {t u:TypeId} {x y:Operand} {c:Value} (ho:o.op=.binOp op t x y u) (hop:op=if neq then .neq else .eql)
  (hy:a.eval y=c) (hne:(∀ k n,a.eval x ≠ .int k n)∧(∀ s,a.eval x ≠ .string s)∧(∀ k n,a.eval x ≠ .float k n)∧(∀ k n m,a.eval x ≠ .complex k n m)) (hag:∀ cs,a.eval x ≠ .agg cs) (hif:a.eval x ≠ .nilIface)
  (h:(Op.equal t (a.eval x) c).run P w=.ok b w):Val P C a o w (.bool (bif neq then !b else b)):=by
 refine ⟨_,?_,.bool _⟩
 have hbin:=qjr (P:=P) (neq:=neq) w hne h
 exact qik (hop ▸ ho) rfl hy (fun h=>hif h.1) (.inl hag) hbin
theorem jnl {op:UnOp} {t:TypeId} {x:Operand} {x':qq} {p v:AVal} (he:EnvRep C env a.tmps) (ho:o.op=.unOp op t x) (h1:qy x=some x') (e1:qj env x'=some p) (hv:qkn op p=some v):Val P C a o w v:=by
 have r1:=q9 he h1 e1
 unfold qkn at hv
 split at hv
 ·obtain hu:=r1.int_inv
  cases hv
  rw [qfj]
  (refine ⟨_,?_,.int _ _⟩; simp [execOp,ho,hu,Op.unary,Op.intArith])
 ·obtain hu:=r1.bool_inv
  cases hv
  (refine ⟨_,?_,.bool _⟩; simp [execOp,ho,hu,Op.unary])
 ·cases hv
theorem jg0 {s d:TypeId} {k k0:IntKind} {x:Operand} {x':qq} {k1:IntKind} {n:Int} (he:EnvRep C env a.tmps) (ho:o.op=.convert s d x) (hs:P.underlying s=some (.int k0)) (hd:P.underlying d=some (.int k))
  (h1:qy x=some x') (e1:qj env x'=some (.int k1 n)):Val P C a o w (.int k (qe k n)):=by
 have hu:=(q9 he h1 e1).int_inv
 rw [qfj]
 (refine ⟨_,?_,.int _ _⟩; simp [execOp,ho,hu,convert,run_underlying hs,run_underlying hd,Conv.intToInt])
theorem q39 {s d:TypeId} {x:Operand} {x':qq} {v:AVal} (he:EnvRep C env a.tmps) (ho:o.op=.convert s d x) (hs:P.underlying s=some .string) (hd:P.underlying d=some .string)
  (h1:qy x=some x') (e1:qj env x'=some v) (hv:∃ l,v=.str l):Val P C a o w v:=by
 obtain ⟨l,rfl⟩:=hv
 have r:=q9 he h1 e1
 have hu:=r.str_inv
 exact ⟨_,by simp [execOp,ho,hu,convert,run_underlying hs,run_underlying hd]; rfl,by rw [← hu]; exact r⟩
theorem q1u {s d:TypeId} {x:Operand} {x':qq} {v:AVal} {k0:IntKind} (he:EnvRep C env a.tmps) (ho:o.op=.convert s d x) (hs:P.underlying s=some (.int k0)) (hd:P.underlying d=some .string)
  (h1:qy x=some x') (e1:qj env x'=some v) (hv:∃ l,v=.str l):Val P C a o w v:=by
 obtain ⟨l,rfl⟩:=hv
 have r:=q9 he h1 e1
 have hu:=r.str_inv
 exact ⟨_,by simp [execOp,ho,hu,convert,run_underlying hs,run_underlying hd]; rfl,by rw [← hu]; exact r⟩
theorem q4b {s d:TypeId} {x:Operand} {x':qq} {k0 k1:IntKind} {n:Int} (he:EnvRep C env a.tmps) (ho:o.op=.convert s d x) (hs:P.underlying s=some (.int k0)) (hd:P.underlying d=some .string)
  (h1:qy x=some x') (e1:qj env x'=some (.int k1 n)):Val P C a o w (.str (Utf8.encode n).data.toList):=by
 have hu:=(q9 he h1 e1).int_inv
 exact ⟨.string (Utf8.encode n),by simp [execOp,ho,hu,convert,run_underlying hs,run_underlying hd,Conv.intToString],.str _⟩
theorem q02 {s d:TypeId} {x:Operand} {x':qq} {k1:IntKind} {n:Int} (he:EnvRep C env a.tmps) (ho:o.op=.convert s d x) (hs:P.underlying s=some .string) (hd:P.underlying d=some .string)
  (h1:qy x=some x') (e1:qj env x'=some (.int k1 n)):Val P C a o w (.str (Utf8.encode n).data.toList):=by
 have hu:=(q9 he h1 e1).int_inv
 exact ⟨.string (Utf8.encode n),by simp [execOp,ho,hu,convert,run_underlying hs,run_underlying hd,Conv.intToString],.str _⟩
theorem jaw {t:TypeId} {x:Operand} {x':qq} {i:Nat} {fs:Array Field} {f:Field} {ag:Bool} {n:Nat} {cs:List AVal} {v:AVal} (he:EnvRep C env a.tmps) (ho:o.op=.field t x i) (ht:P.underlying t=some (.struct fs)) (hf:fs[i]?=some f)
  (hag:yj P f.type=some ag) (hn:jp P f.type=some n) (h1:qy x=some x') (e1:qj env x'=some (.agg cs)) (hv:Abs.part ag cs f.offset n=some v):Val P C a o w v:=by
 obtain ⟨us,hu,ru⟩:=(q9 he h1 e1).agg_inv
 obtain ⟨z,hz,hr⟩:=q10 hag hn hv ru w
 refine ⟨z,?_,hr⟩
 simp [execOp,ho,hu,Instr.field,run_underlying ht,hf,asAgg,hz]
theorem qmg {n:Nat} {v:AVal} {j:Nat} (h:idx n v=some j):∃ k,v=.int k (j:Int)∧j < n:=by
 unfold idx at h
 split at h
 ·rename_i k i
  cases hb:Nat.blt i n with
  | false=>simp [hb] at h
  | true=>
   simp [hb] at h
   subst h
   exact ⟨k,rfl,by have:=Nat.le_of_ble_eq_true hb; omega⟩
 ·cases h
theorem jbh {n:Nat} {v:AVal} {j:Nat} (h:qne n v=some j):∃ k,v=.int k (j:Int)∧j≤n:=by
 unfold qne at h
 split at h
 ·rename_i k i
  cases hb:Nat.ble i n with
  | false=>simp [hb] at h
  | true=>
   simp [hb] at h
   subst h
   exact ⟨k,rfl,Nat.le_of_ble_eq_true hb⟩
 ·cases h
theorem ja5 {t e:TypeId} {x i:Operand} {x' i':qq} {len n:Nat} {ag:Bool} {cs:List AVal} {iv v:AVal} {j:Nat} (he:EnvRep C env a.tmps) (ho:o.op=.index t x i) (ht:P.underlying t=some (.array len e))
  (hag:yj P e=some ag) (hn:jp P e=some n) (h1:qy x=some x') (h2:qy i=some i') (e1:qj env x'=some (.agg cs)) (e2:qj env i'=some iv) (hj:idx len iv=some j) (hv:Abs.part ag cs (j * n) n=some v):Val P C a o w v:=by
 obtain ⟨us,hu,ru⟩:=(q9 he h1 e1).agg_inv
 obtain ⟨k,rfl,hlt⟩:=qmg hj
 have hi:=(q9 he h2 e2).int_inv
 obtain ⟨z,hz,hr⟩:=q10 hag hn hv ru w
 refine ⟨z,?_,hr⟩
 simp [execOp,ho,hu,hi,Instr.index,asIntOf,run_underlying ht,hlt,yi hn,hz]
theorem q2f {t:TypeId} {x i:Operand} {x' i':qq} {s:List UInt8} {iv:AVal} {j:Nat} {c:UInt8} (he:EnvRep C env a.tmps) (ho:o.op=.index t x i) (ht:P.underlying t=some .string)
  (h1:qy x=some x') (h2:qy i=some i') (e1:qj env x'=some (.str s)) (e2:qj env i'=some iv) (hj:idx s.length iv=some j) (hc:s[j]?=some c):Val P C a o w (.int .u8 c.toNat):=by
 have hu:=(q9 he h1 e1).str_inv
 obtain ⟨k,rfl,hlt⟩:=qmg hj
 have hi:=(q9 he h2 e2).int_inv
 refine ⟨_,?_,.int _ _⟩
 have hb:(⟨⟨s⟩⟩:ByteArray)[j]?=some c:=by
  rw [getElem?_pos (ByteArray.mk ⟨s⟩) j hlt]
  exact congrArg some (List.getElem?_eq_some_iff.1 hc).2
 simp [execOp,ho,hu,hi,Instr.index,asIntOf,run_underlying ht,hb]
end
section
variable {P:Program} {C:Ctx} {w:World} {env:Env} {a:Act} {o:Oper}
theorem qbk {z:AVal} (h:z.isAgg=false):z.flat=[z]:=by cases z <;> simp [AVal.isAgg,AVal.flat] at *
theorem q5d {ag:Bool} {cs:List AVal} {off n r q:Nat} {z:AVal} (hc:RepC C r cs q) (hz:Abs.part ag cs off n=some z) (hx:Bool.xor ag z.isAgg=false):RepC C r z.flat (q + off):=by
 unfold Abs.part at hz
 cases ag with
 | true=>
  simp only [cond_true] at hz
  cases hb:Nat.ble (off + n) cs.length with
  | false=>simp [hb] at hz
  | true=>simp [hb] at hz; subst hz; exact RepC.take n (RepC.drop off hc)
 | false=>
  simp only [cond_false] at hz
  rw [qbk (by simpa using hx)]
  obtain ⟨u,h1,h2⟩:=hc.get hz
  exact .ccons _ _ _ _ u h1 h2 (.cnil _ _)
theorem qoh {t:TypeId} {x:Operand} {x':qq} {i:Nat} {fs:Array Field} {f:Field} {ag:Bool} {n:Nat} {p v:AVal} (he:EnvRep C env a.tmps) (ho:o.op=.fieldAddr t x i) (ht:P.underlying t=some (.struct fs)) (hf:fs[i]?=some f)
  (hn:jp P f.type=some n) (hn0:0 < n) (h1:qy x=some x') (e1:qj env x'=some p)
  (hv:(∃ b q,p=.ptr b q∧v=.ptr b (q + f.offset))∨(∃ cs z,p=.vptr (.agg cs)∧Abs.part ag cs f.offset n=some z∧Bool.xor ag z.isAgg=false∧v=.vptr z)):Val P C a o w v:=by
 have hrun:∀ r q,a.eval x=.pointer (some ⟨r,q,none⟩)→(execOp a.eval o).run P w=.ok (.value (.pointer (some ⟨r,q + f.offset,none⟩))) w:=by
  intro r q hq
  simp [execOp,ho,Instr.fieldAt,run_underlying ht,hf,hq,Instr.sureAddr,fieldPlace,yi hn,Nat.pos_iff_ne_zero.1 hn0,add_lit]
 rcases hv with ⟨b,q,rfl,rfl⟩ | ⟨cs,z,rfl,hz,hx,rfl⟩
 ·obtain ⟨r,hr,hq⟩:=(q9 he h1 e1).ptr_inv
  exact ⟨_,hrun r q hq,.ptr _ _ _ hr⟩
 ·obtain ⟨r,q,hq,hc⟩:=(q9 he h1 e1).vptr_inv
  exact ⟨_,hrun r q hq,.vptr _ _ _ (q5d hc hz hx)⟩
theorem qof {t e:TypeId} {x i:Operand} {x' i':qq} {sz:Nat} {p iv v:AVal} (he:EnvRep C env a.tmps) (ho:o.op=.indexAddr t x i) (ht:P.underlying t=some (.slice e))
  (hn:jp P e=some sz) (h1:qy x=some x') (h2:qy i=some i') (e1:qj env x'=some p) (e2:qj env i'=some iv)
  (hv:(∃ b q len j,p=.ms b q len∧idx len iv=some j∧v=.ptr b (q + j * sz))∨(∃ nl xs z j,p=.list nl sz xs∧idx xs.length iv=some j∧xs[j]?=some z∧v=.vptr z)):Val P C a o w v:=by
 have hrun:∀ r q len cap j,a.eval x=.slice (some ⟨r,q,none⟩) len cap→idx len iv=some j→(execOp a.eval o).run P w=.ok (.value (.pointer (some ⟨r,q + j * sz,none⟩))) w:=by
  intro r q len cap j hq hj
  obtain ⟨k,rfl,hlt⟩:=qmg hj
  have hi:=(q9 he h2 e2).int_inv
  simp [execOp,ho,Instr.indexAt,run_underlying ht,hq,hi,asIntOf,yi hn,hlt,add_lit]
 rcases hv with ⟨b,q,len,j,rfl,hj,rfl⟩ | ⟨nl,xs,z,j,rfl,hj,hz,rfl⟩
 ·obtain ⟨r,cap,hr,_,hq⟩:=(q9 he h1 e1).ms_inv
  exact ⟨_,hrun r q len cap j hq hj,.ptr _ _ _ hr⟩
 ·rcases (q9 he h1 e1).list_inv with ⟨rfl,rfl,hq⟩ | ⟨rfl,r,q,cap,hq,_,hrow⟩ | ⟨rfl,rfl,_⟩
  ·simp at hz
  ·exact ⟨_,hrun r q _ cap j hq hj,.vptr _ _ _ (hrow.get hz)⟩
  ·simp at hz
theorem qpp {t e:TypeId} {x i:Operand} {x' i':qq} {len sz:Nat} {ag:Bool} {p iv v:AVal} {j:Nat} (he:EnvRep C env a.tmps) (ho:o.op=.indexAddr t x i) (ht:P.underlying t=some (.array len e))
  (hn:jp P e=some sz) (h1:qy x=some x') (h2:qy i=some i') (e1:qj env x'=some p) (e2:qj env i'=some iv) (hj:idx len iv=some j)
  (hv:(∃ b q,p=.ptr b q∧v=.ptr b (q + j * sz))∨(∃ cs z,p=.vptr (.agg cs)∧Abs.part ag cs (j * sz) sz=some z∧Bool.xor ag z.isAgg=false∧v=.vptr z)):Val P C a o w v:=by
 have hrun:∀ r q,a.eval x=.pointer (some ⟨r,q,none⟩)→(execOp a.eval o).run P w=.ok (.value (.pointer (some ⟨r,q + j * sz,none⟩))) w:=by
  intro r q hq
  obtain ⟨k,rfl,hlt⟩:=qmg hj
  have hi:=(q9 he h2 e2).int_inv
  simp [execOp,ho,Instr.indexAt,run_underlying ht,hq,hi,asIntOf,Instr.sureAddr,yi hn,hlt,add_lit]
 rcases hv with ⟨b,q,rfl,rfl⟩ | ⟨cs,z,rfl,hz,hx,rfl⟩
 ·obtain ⟨r,hr,hq⟩:=(q9 he h1 e1).ptr_inv
  exact ⟨_,hrun r q hq,.ptr _ _ _ hr⟩
 ·obtain ⟨r,q,hq,hc⟩:=(q9 he h1 e1).vptr_inv
  exact ⟨_,hrun r q hq,.vptr _ _ _ (q5d hc hz hx)⟩
theorem qrs {x:Option Operand} {x':Option qq} {d n j:Nat} (he:EnvRep C env a.tmps) (hc:qdh x=some x') (hb:bnd env d n x'=some j):
  (x=none∧j=d)∨(∃ y k,x=some y∧a.eval y=.int k (j:Int)∧j≤n):=by
 cases x with
 | none=>simp [qdh] at hc; subst hc; simp [bnd] at hb; exact .inl ⟨rfl,hb.symm⟩
 | some x=>
  simp only [qdh] at hc
  split at hc
  ·rename_i z hz
   cases hc
   simp only [bnd] at hb
   split at hb
   ·rename_i v hv
    obtain ⟨k,rfl,hle⟩:=jbh hb
    exact .inr ⟨x,k,rfl,(q9 he hz hv).int_inv,hle⟩
   ·cases hb
  ·cases hc
theorem qna {lo hi:Option Operand} {lo' hi':Option qq} {len cap i j:Nat} {isS:Bool} (he:EnvRep C env a.tmps) (h1:qdh lo=some lo') (h2:qdh hi=some hi') (b2:bnd env len len hi'=some j) (b1:bnd env 0 j lo'=some i) (hc:len≤cap) (w:World):
  (Instr.sliceBounds isS len cap (lo.map a.eval) (hi.map a.eval) none).run P w=.ok (i,j,cap) w∧i≤j∧j≤len:=by
 have k2:j≤len:=by
  rcases qrs he h2 b2 with ⟨_,rfl⟩ | ⟨_,_,_,_,h⟩
  ·exact Nat.le_refl _
  ·exact h
 have k1:i≤j:=by
  rcases qrs he h1 b1 with ⟨_,rfl⟩ | ⟨_,_,_,_,h⟩
  ·exact Nat.zero_le _
  ·exact h
 refine ⟨?_,k1,k2⟩
 have hj:j≤cap:=by omega
 rcases qrs he h2 b2 with ⟨rfl,rfl⟩ | ⟨y,k,rfl,hy,_⟩ <;> rcases qrs he h1 b1 with ⟨rfl,rfl⟩ | ⟨z,k',rfl,hz,_⟩
 ·simp [Instr.sliceBounds]
 ·simp [Instr.sliceBounds,hz,Instr.sliceBound,asIntOf,k1]
 ·simp [Instr.sliceBounds,hy,Instr.sliceBound,asIntOf,hj]
 ·simp [Instr.sliceBounds,hy,hz,Instr.sliceBound,asIntOf,hj,k1]
theorem qy6 {t e:TypeId} {x:Operand} {lo hi:Option Operand} {x':qq} {lo' hi':Option qq} {sz i j:Nat} {p v:AVal} (he:EnvRep C env a.tmps) (ho:o.op=.slice t x lo hi none) (ht:P.underlying t=some (.slice e))
  (hn:jp P e=some sz) (h1:qy x=some x') (h2:qdh lo=some lo') (h3:qdh hi=some hi') (e1:qj env x'=some p)
  (hv:(∃ b q len,p=.ms b q len∧bnd env len len hi'=some j∧bnd env 0 j lo'=some i∧(i=0∨i < j)∧v=.ms b (q + i * sz) (j - i)) ∨
   (∃ nl sz' xs,p=.list nl sz' xs∧(sz=sz'∨xs=[])∧bnd env xs.length xs.length hi'=some j∧bnd env 0 j lo'=some i∧v=.list nl sz' ((xs.take j).drop i))):Val P C a o w v:=by
 have hrun:∀ b len cap,a.eval x=.slice b len cap→len≤cap→bnd env len len hi'=some j→bnd env 0 j lo'=some i →
   (execOp a.eval o).run P w=.ok (.value (.slice (if cap=i then b else b.map (·.add (i * sz))) (j - i) (cap - i))) w∧i≤j∧j≤len:=by
  intro b len cap hq hle b2 b1
  obtain ⟨hb,k1,k2⟩:=qna (P:=P) (isS:=true) he h2 h3 b2 b1 hle w
  refine ⟨?_,k1,k2⟩
  simp [execOp,ho,Instr.sliceAt,Instr.slice,run_underlying ht,hq,hb,yi hn]
 rcases hv with ⟨b,q,len,rfl,b2,b1,hij,rfl⟩ | ⟨nl,sz',xs,rfl,hsz,b2,b1,rfl⟩
 ·obtain ⟨r,cap,hr,hle,hq⟩:=(q9 he h1 e1).ms_inv
  obtain ⟨hw,k1,k2⟩:=hrun _ len cap hq hle b2 b1
  refine ⟨_,hw,?_⟩
  by_cases hc:cap=i
  ·rw [if_pos hc]
   obtain rfl:i=0:=by omega
   simpa using RepI.ms b q (j - 0) r (cap - 0) hr (by omega)
  ·rw [if_neg hc]
   simp only [Option.map_some,add_lit]
   exact .ms _ _ _ _ _ hr (by omega)
 ·rcases (q9 he h1 e1).list_inv with ⟨rfl,rfl,hq⟩ | ⟨rfl,r,q,cap,hq,hle,hrow⟩ | ⟨rfl,rfl,ad,hsp,hq⟩
  ·obtain ⟨hw,k1,k2⟩:=hrun _ 0 0 hq (Nat.le_refl _) b2 b1
   simp at k2
   obtain rfl:=k2
   obtain rfl:i=0:=by omega
   exact ⟨_,hw,by simpa using RepI.lnil sz'⟩
  ·obtain ⟨hw,k1,k2⟩:=hrun _ _ cap hq hle b2 b1
   refine ⟨_,hw,?_⟩
   have hl:((xs.take j).drop i).length=j - i:=by simp; omega
   rw [← hl]
   by_cases hc:cap=i
   ·rw [if_pos hc]
    have hnil:(xs.take j).drop i=[]:=List.drop_eq_nil_of_le (by simp; omega)
    rw [hnil]
    exact .list _ _ _ _ _ (by simp) (.rnil _ _ _)
   ·rw [if_neg hc]
    simp only [Option.map_some,add_lit]
    refine .list _ _ _ _ _ (by rw [hl]; omega) ?_
    rcases hsz with rfl | rfl
    ·exact RepRow.drop i (RepRow.take j hrow)
    ·simpa using RepI.rnil _ _ _
  ·obtain ⟨hw,k1,k2⟩:=hrun _ 0 0 hq (Nat.le_refl _) b2 b1
   simp at k2
   obtain rfl:=k2
   obtain rfl:i=0:=by omega
   exact ⟨_,hw,by simpa using RepI.lemp sz' ad hsp⟩
theorem q2h {t e:TypeId} {x:Operand} {lo hi:Option Operand} {x':qq} {lo' hi':Option qq} {len sz i j b q:Nat} (he:EnvRep C env a.tmps) (ho:o.op=.slice t x lo hi none) (ht:P.underlying t=some (.array len e))
  (hn:jp P e=some sz) (h1:qy x=some x') (h2:qdh lo=some lo') (h3:qdh hi=some hi') (e1:qj env x'=some (.ptr b q)) (b2:bnd env len len hi'=some j) (b1:bnd env 0 j lo'=some i) (hij:i=0∨i < j):Val P C a o w (.ms b (q + i * sz) (j - i)):=by
 obtain ⟨r,hr,hq⟩:=(q9 he h1 e1).ptr_inv
 obtain ⟨hb,k1,k2⟩:=qna (P:=P) (isS:=false) he h2 h3 b2 b1 (Nat.le_refl len) w
 refine ⟨_,by simp [execOp,ho,Instr.sliceAt,Instr.sureAddr,run_underlying ht,hq,hb,yi hn]; rfl,?_⟩
 by_cases hc:len=i
 ·rw [if_pos hc]
  obtain rfl:i=0:=by omega
  simpa using RepI.ms b q (j - 0) r (len - 0) hr (by omega)
 ·rw [if_neg hc]
  simp only [add_lit]
  exact .ms _ _ _ _ _ hr (by omega)
theorem qzq (s:List UInt8) (i j:Nat):(⟨⟨s⟩⟩:ByteArray).extract i j=⟨⟨(s.take j).drop i⟩⟩:=by
 jh ByteArray.ext
 rw [ByteArray.data_extract]
 jh Array.ext'
 simp [List.extract_eq_take_drop,List.drop_take]
theorem q05 {t:TypeId} {x:Operand} {lo hi:Option Operand} {x':qq} {lo' hi':Option qq} {i j:Nat} {s:List UInt8} (he:EnvRep C env a.tmps) (ho:o.op=.slice t x lo hi none) (ht:P.underlying t=some .string)
  (h1:qy x=some x') (h2:qdh lo=some lo') (h3:qdh hi=some hi') (e1:qj env x'=some (.str s)) (b2:bnd env s.length s.length hi'=some j) (b1:bnd env 0 j lo'=some i):Val P C a o w (.str ((s.take j).drop i)):=by
 have hq:=(q9 he h1 e1).str_inv
 obtain ⟨hb,k1,k2⟩:=qna (P:=P) (isS:=false) he h2 h3 b2 b1 (Nat.le_refl s.length) w
 have hsz:(⟨⟨s⟩⟩:ByteArray).size=s.length:=rfl
 refine ⟨.string ⟨⟨(s.take j).drop i⟩⟩,?_,.str _⟩
 simp [execOp,ho,Instr.sliceAt,Instr.slice,run_underlying ht,hq,hsz,hb,qzq]
theorem q59 {k:Nat} {xs ys:Array Operand} {xs' ys':List qq} {us vs:List AVal} (he:EnvRep C env a.tmps) (ho:o.op=.makeFunc (.func k) xs ys) (h1:qfi xs.toList=some xs') (h2:qfi ys.toList=some ys') (e1:kl env xs'=some us) (e2:kl env ys'=some vs):
  Val P C a o w (.fn (.func k) us vs):=by
 refine ⟨.func (.func k) (xs.map a.eval) (ys.map a.eval),by simp [execOp,ho,Instr.makeFunc],?_⟩
 have r1:=qgt he h1 e1
 have r2:=qgt he h2 e2
 have q1:xs.map a.eval=⟨xs.toList.map a.eval⟩:=by jh Array.ext'; simp
 have q2:ys.map a.eval=⟨ys.toList.map a.eval⟩:=by jh Array.ext'; simp
 rw [q1,q2]
 exact .fn _ _ _ _ _ _ rfl r1 r2
theorem qw2 {c:Call} {x:Operand} {t:TypeId} {x':qq} {p:AVal} {n:Nat} (he:EnvRep C env a.tmps) (ho:o.op=.call c) (hcb:c.callee=.builtin .len) (hca:c.args.toList=[x]) (hct:c.argTypes.toList=[t])
  (h1:qy x=some x') (e1:qj env x'=some p)
  (hv:(P.underlying t=some .string∧∃ s,p=.str s∧n=s.length)∨((∃ e,P.underlying t=some (.slice e))∧((∃ nl sz xs,p=.list nl sz xs∧n=xs.length)∨(∃ b q,p=.ms b q n)))):Val P C a o w (.int .i64 n):=by
 have ha:c.args=#[x]:=by jh Array.ext'; simpa using hca
 have hty:c.argTypes=#[t]:=by jh Array.ext'; simpa using hct
 refine ⟨.int .i64 n,?_,.int _ _⟩
 simp only [execOp,ho,resolve,hcb,ha,hty,Sem.run_bind,Sem.run_pure,Result.andThen_ok,invoke,builtin,Builtin.len_]
 rcases hv with ⟨ht,s,rfl,rfl⟩ | ⟨⟨e,ht⟩,⟨nl,sz,xs,rfl,rfl⟩ | ⟨b,q,rfl⟩⟩
 ·have hq:=(q9 he h1 e1).str_inv
  simp [run_underlying ht,hq,goInt]
  rfl
 ·obtain ⟨b,cap,hq⟩:=(q9 he h1 e1).len
  simp [run_underlying ht,hq,goInt]
 ·obtain ⟨r,cap,_,_,hq⟩:=(q9 he h1 e1).ms_inv
  simp [run_underlying ht,hq,goInt]
theorem qq9 {f:AVal→AVal→Option AVal} {g:Value→Value→Sem Value} (hfg:∀ x y z u v,f x y=some z→Rep C x u→Rep C y v→∃ q,(g u v).run P w=.ok q w∧Rep C z q):
  ∀ (ys:List AVal) (x z:AVal) (u:Value) (vs:List Value),qd2 f x ys=some z→Rep C x u→RepL C ys vs→∃ q,(vs.foldlM g u).run P w=.ok q w∧Rep C z q
 | [],x,z,u,vs,h,hx,hy=>by
  cases hy
  simp [qd2] at h; subst h
  exact ⟨u,rfl,hx⟩
 | y::ys,x,z,u,vs,h,hx,hy=>by
  cases hy with
  | cons _ _ v vs hy hr=>
   simp only [qd2] at h
   split at h
   ·rename_i z1 hz1
    obtain ⟨q,hq,rq⟩:=hfg x y z1 u v hz1 hx hy
    obtain ⟨q2,hq2,rq2⟩:=qq9 hfg ys z1 z q vs h rq hr
    exact ⟨q2,by simp [List.foldlM_cons,hq,hq2],rq2⟩
   ·cases h
theorem q92 {c:Call} {xs':List qq} {p v:AVal} {ps:List AVal} {mx:Bool} (he:EnvRep C env a.tmps) (ho:o.op=.call c) (hcb:c.callee=.builtin (if mx then .max else .min)) (h1:qfi c.args.toList=some xs') (e1:kl env xs'=some (p::ps))
  (hv:qd2 (if mx then max2 else min2) p ps=some v):Val P C a o w v:=by
 have r1:=qgt he h1 e1
 have hargs:(c.args.map a.eval).toList=c.args.toList.map a.eval:=by simp
 cases mx
 ·generalize hl:c.args.toList.map a.eval=l at r1
  cases r1 with
  | cons _ _ u us hu hus=>
   obtain ⟨q,hq,rq⟩:=qq9 (P:=P) (w:=w) (C:=C) (f:=min2) (g:=Builtin.min2) (fun x y z u v h hx hy=>by
    unfold min2 at h
    split at h <;> first | cases h | skip
    rename_i k n k' m
    by_cases hk:k=k'
    ·subst hk; simp at h; subst h
     obtain rfl:=hx.int_inv
     obtain rfl:=hy.int_inv
     exact ⟨_,rfl,.int _ _⟩
    ·simp [hk] at h) ps p v u us (by simpa using hv) hu hus
   refine ⟨q,?_,rq⟩
   simp only [Bool.false_eq_true,if_false] at hcb
   simp [execOp,ho,resolve,hcb,invoke,builtin,Builtin.min_,hl,hq]
 ·generalize hl:c.args.toList.map a.eval=l at r1
  cases r1 with
  | cons _ _ u us hu hus=>
   obtain ⟨q,hq,rq⟩:=qq9 (P:=P) (w:=w) (C:=C) (f:=max2) (g:=Builtin.max2) (fun x y z u v h hx hy=>by
    unfold max2 at h
    split at h <;> first | cases h | skip
    rename_i k n k' m
    by_cases hk:k=k'
    ·subst hk; simp at h; subst h
     obtain rfl:=hx.int_inv
     obtain rfl:=hy.int_inv
     exact ⟨_,rfl,.int _ _⟩
    ·simp [hk] at h) ps p v u us (by simpa using hv) hu hus
   refine ⟨q,?_,rq⟩
   simp only [if_true] at hcb
   simp [execOp,ho,resolve,hcb,invoke,builtin,Builtin.max_,hl,hq]
theorem q4d {x:Operand} {x':qq} {i:Nat} {vs:List AVal} {v:AVal} (he:EnvRep C env a.tmps) (ho:o.op=.extract x i) (h1:qy x=some x') (e1:qj env x'=some (.tup vs)) (hv:vs[i]?=some v):Val P C a o w v:=by
 obtain ⟨us,hu,ru⟩:=(q9 he h1 e1).tup_inv
 obtain ⟨u,h1,h2⟩:=ru.get hv
 exact ⟨u,by simp [execOp,ho,hu,Instr.extract,h1],h2⟩
end
section
variable {P:Program} {C:Ctx} {w:World} {env:Env} {a:Act} {o:Oper}
theorem qdn {x:AVal} {v:Value} (h:Rep C x v) (hs:x.flat.all ql=true):RepL C x.flat v.cells.toList:=by
 cases h <;> first
  | (simp only [AVal.flat,Value.cells]; exact .cons _ _ _ _ (by constructor <;> assumption) .nil)
  | skip
 ·simpa [AVal.flat,Value.cells]
 all_goals first | done | exact absurd hs (by simp [AVal.flat,ql]) | skip
theorem qy0 (off:Nat):∀ (l:List Value) (k:Nat) (cs:Array Value),off + k + l.length≤cs.size →
  ((l.zipIdx k).foldl (fun cs (x:Value × Nat)=>cs.setIfInBounds (off + x.2) x.1) cs).toList=cs.toList.take (off + k)++l++cs.toList.drop (off + k + l.length)
 | [],k,cs,_=>by simp
 | v::l,k,cs,h=>by
  simp only [List.zipIdx_cons,List.foldl_cons]
  simp at h
  rw [qy0 off l (k + 1) (cs.setIfInBounds (off + k) v) (by simp; omega)]
  have hlt:off + k < cs.toList.length:=by simp; omega
  rw [Array.toList_setIfInBounds]
  have e1:(cs.toList.set (off + k) v).take (off + (k + 1))=cs.toList.take (off + k)++[v]:=by
   rw [← Nat.add_assoc,List.take_succ_eq_append_getElem (by simpa using hlt),List.take_set,List.set_eq_of_length_le (by simp; omega),List.getElem_set_self]
  have e2:(cs.toList.set (off + k) v).drop (off + (k + 1) + l.length)=cs.toList.drop (off + k + (v::l).length):=by
   rw [List.drop_set_of_lt (by omega)]
   congr 1
   simp; omega
  rw [e1,e2]
  simp
inductive qgx (C:Ctx) (place:Nat→Option (Nat × Nat)):List (Nat × Value)→List (Nat × List AVal)→Prop where
 | nil:qgx C place [] []
 | cons (i:Nat) (v:Value) (off:Nat) (vs:List AVal) (ps:List (Nat × Value)) (qs:List (Nat × List AVal)) (h1:place i=some (off,vs.length)) (h2:RepL C vs v.cells.toList) (h:qgx C place ps qs):qgx C place ((i,v)::ps) ((off,vs)::qs)
theorem qko {place:Nat→Option (Nat × Nat)}:∀ (ps:List (Nat × Value)) (qs:List (Nat × List AVal)) (xs ys:List AVal) (cs:Array Value),RepL C xs cs.toList→qbj xs qs=some ys →
  qgx C place ps qs →
  ∃ ds,Instr.fill place cs ps=some ds∧RepL C ys ds.toList
 | [],qs,xs,ys,cs,hx,hf,hp=>by
  cases hp
  simp [qbj] at hf
  subst hf
  exact ⟨cs,rfl,hx⟩
 | _::ps,qs,xs,ys,cs,hx,hf,hp=>by
  cases hp with
  | cons i v off vs _ qs hpl hr htl=>
   simp only [qbj] at hf
   cases hb:Nat.ble (off + vs.length) xs.length with
   | false=>simp [hb] at hf
   | true=>
    simp only [hb,cond_true] at hf
    have hle:=Nat.le_of_ble_eq_true hb
    have hl1:=hx.length
    have hl2:=hr.length
    simp at hl1 hl2
    have hfold:=qy0 off v.cells.toList 0 cs (by simp; omega)
    have hz:v.cells.zipIdx.foldl (fun cs (x:Value × Nat)=>cs.setIfInBounds (off + x.2) x.1) cs=(v.cells.toList.zipIdx 0).foldl (fun cs (x:Value × Nat)=>cs.setIfInBounds (off + x.2) x.1) cs:=by
     rw [← Array.foldl_toList,Array.toList_zipIdx]
    obtain ⟨ds,h1,h2⟩:=qko (place:=place) ps qs _ ys (v.cells.zipIdx.foldl (fun cs (x:Value × Nat)=>cs.setIfInBounds (off + x.2) x.1) cs) (by
     rw [hz,hfold]
     simp only [Nat.add_zero,Array.length_toList,hl2]
     exact RepL.append (RepL.append (hx.take off) hr) (hx.drop _)) hf htl
    refine ⟨ds,?_,h2⟩
    simp only [Instr.fill,hpl]
    rw [if_neg (by simp; omega)]
    exact h1
theorem qh9 {place:Nat→Option (Nat × Nat)} (he:EnvRep C env a.tmps):∀ (ps:List (Nat × Operand)) (ps':List (Nat × Nat × qq)) (qs:List (Nat × List AVal)),qhz P place ps=some ps'→y9 env ps'=some qs →
  qgx C place (ps.map fun x=>(x.1,a.eval x.2)) qs
 | [],ps',qs,hc,hv=>by
  simp [qhz] at hc; subst hc
  simp [y9] at hv; subst hv
  exact .nil
 | (i,x)::ps,ps',qs,hc,hv=>by
  simp only [qhz] at hc
  split at hc
  ·rename_i off n y r hpl hy hr
   cases hc
   simp only [y9] at hv
   split at hv
   ·rename_i v hv1
    cases hb:(Nat.beq v.flat.length n && v.flat.all ql) with
    | false=>simp [hb] at hv
    | true=>
     simp only [hb,cond_true] at hv
     simp only [Bool.and_eq_true] at hb
     split at hv
     ·rename_i r' hr'
      cases hv
      have hl:=Nat.eq_of_beq_eq_true hb.1
      exact .cons _ _ _ _ _ _ (by rw [hpl,hl]) (qdn (q9 he hy hv1) hb.2) (qh9 he ps r r' hr hr')
     ·cases hv
   ·cases hv
  ·cases hc
theorem qyp {t:TypeId} {z:List AVal} (h:yo P t=some z) (w:World):∃ v,(zeroValue t).run P w=.ok v w∧RepL C z v.cells.toList∧∃ i,P.info? t=some i∧i.zero=some v:=by
 unfold yo at h
 split at h
 ·rename_i i hi
  split at h
  ·rename_i v hv
   exact ⟨v,by simp [zeroValue,typeInfo,hi,hv],qg9 C h,i,hi,hv⟩
  ·cases h
 ·cases h
theorem qsu {fs:Array Field} (w:World):∀ (l:List Field),(∀ f∈l,(jp P f.type).isSome)→(l.mapM fun (f:Field)=>(do pure (f.offset,← sizeOf f.type):Sem (Nat × Nat))).run P w=.ok (l.map fun f=>(f.offset,(jp P f.type).getD 0)) w
 | [],_=>rfl
 | f::l,h=>by
  obtain ⟨n,hn⟩:=Option.isSome_iff_exists.1 (h f (by simp))
  simp only [List.mapM_cons,Sem.run_bind,yi hn,Result.andThen_ok,Sem.run_pure,qsu (fs:=fs) w l (fun g hg=>h g (by simp [hg])),List.map_cons,hn,Option.getD_some]
theorem qv6 {t:TypeId} {ps:Array (Nat × Operand)} {fs:Array Field} {z:List AVal} {ps':List (Nat × Nat × qq)} {qs:List (Nat × List AVal)} {cs:List AVal} (he:EnvRep C env a.tmps) (ho:o.op=.build t ps) (ht:P.underlying t=some (.struct fs)) (hz:yo P t=some z)
  (hall:∀ f∈fs.toList,(jp P f.type).isSome) (hps:qhz P (fun i=>match fs[i]? with | some f=>(jp P f.type).map fun n=>(f.offset,n) | none=>none) ps.toList=some ps') (hq:y9 env ps'=some qs) (hf:qbj z qs=some cs):Val P C a o w (.agg cs):=by
 obtain ⟨zv,hzr,hzrep,_⟩:=qyp (C:=C) hz w
 have hm:=qsu (P:=P) (fs:=fs) w fs.toList hall
 have hpr:=qh9 (P:=P) he ps.toList ps' qs hps hq
 have hplace:(fun (i:Nat)=>match fs[i]? with | some f=>(jp P f.type).map fun n=>(f.offset,n) | none=>none)=fun (i:Nat)=>((fs.toList.map fun f=>(f.offset,(jp P f.type).getD 0)).toArray)[i]?:=by
  funext i
  have hm:∀ f,fs[i]?=some f→f∈fs.toList:=fun f h=>by rw [Array.mem_toList_iff]; exact Array.mem_of_getElem? h
  obtain ⟨l⟩:=fs
  simp only [List.getElem?_toArray,List.getElem?_map] at hm ⊢
  cases h:l[i]? with
  | none=>rfl
  | some f=>
   obtain ⟨n,hn⟩:=Option.isSome_iff_exists.1 (hall f (hm f h))
   simp [hn]
 rw [hplace] at hpr
 obtain ⟨ds,hd,hr⟩:=qko (ps.toList.map fun x=>(x.1,a.eval x.2)) qs z cs zv.cells hzrep hf hpr
 refine ⟨.agg ds,?_,.agg cs ds.toList hr⟩
 have hmap:(fs.mapM fun (f:Field)=>(do pure (f.offset,← sizeOf f.type):Sem (Nat × Nat))).run P w=.ok ((fs.toList.map fun f=>(f.offset,(jp P f.type).getD 0)).toArray) w:=by
  rw [Array.mapM_eq_mapM_toList]
  simp only [Sem.run_map]
  rw [hm]
  rfl
 have hpa:(ps.map fun (x:Nat × Operand)=>(x.1,a.eval x.2)).toList=ps.toList.map fun x=>(x.1,a.eval x.2):=by simp
 simp only [execOp,ho,Instr.build,Sem.run_bind,hzr,Result.andThen_ok,run_underlying ht,hmap,hpa,hd,Sem.run_pure]
theorem qxx {t e:TypeId} {ps:Array (Nat × Operand)} {len n:Nat} {z:List AVal} {ps':List (Nat × Nat × qq)} {qs:List (Nat × List AVal)} {cs:List AVal} (he:EnvRep C env a.tmps) (ho:o.op=.build t ps) (ht:P.underlying t=some (.array len e)) (hz:yo P t=some z)
  (hn:jp P e=some n) (hps:qhz P (fun i=>some (i * n,n)) ps.toList=some ps') (hq:y9 env ps'=some qs) (hf:qbj z qs=some cs):Val P C a o w (.agg cs):=by
 obtain ⟨zv,hzr,hzrep,_⟩:=qyp (C:=C) hz w
 have hpr:=qh9 (P:=P) he ps.toList ps' qs hps hq
 obtain ⟨ds,hd,hr⟩:=qko (ps.toList.map fun x=>(x.1,a.eval x.2)) qs z cs zv.cells hzrep hf hpr
 refine ⟨.agg ds,?_,.agg cs ds.toList hr⟩
 have hpa:(ps.map fun (x:Nat × Operand)=>(x.1,a.eval x.2)).toList=ps.toList.map fun x=>(x.1,a.eval x.2):=by simp
 simp only [execOp,ho,Instr.build,Sem.run_bind,hzr,Result.andThen_ok,run_underlying ht,yi hn,hpa,hd,Sem.run_pure]
theorem qoi {sz:Nat} (he:EnvRep C env a.tmps):∀ (ps:List (Nat × Operand)) (ps':List (Nat × qq)) (qs:List (Nat × AVal)),qhw ps=some ps'→yc env sz ps'=some qs →
  qgx C (fun i=>some (i * sz,sz)) (ps.map fun x=>(x.1,a.eval x.2)) (qs.map fun x=>(x.1 * sz,x.2.flat))∧∀ q∈qs,q.2.flat.length=sz
 | [],ps',qs,hc,hv=>by
  simp [qhw] at hc; subst hc
  simp [yc] at hv; subst hv
  exact ⟨.nil,by simp⟩
 | (i,x)::ps,ps',qs,hc,hv=>by
  simp only [qhw] at hc
  split at hc
  ·rename_i y r hy hr
   cases hc
   simp only [yc] at hv
   split at hv
   ·rename_i v hv1
    cases hb:(Nat.beq v.flat.length sz && v.flat.all ql) with
    | false=>simp [hb] at hv
    | true=>
     simp only [hb,cond_true] at hv
     simp only [Bool.and_eq_true] at hb
     split at hv
     ·rename_i r' hr'
      cases hv
      have hl:=Nat.eq_of_beq_eq_true hb.1
      obtain ⟨h1,h2⟩:=qoi he ps r r' hr hr'
      refine ⟨.cons _ _ _ _ _ _ (by rw [hl]) (qdn (q9 he hy hv1) hb.2) h1,?_⟩
      intro q hq
      rcases List.mem_cons.1 hq with rfl | hq
      ·exact hl
      ·exact h2 q hq
     ·cases hv
   ·cases hv
  ·cases hc
theorem qsk {sz:Nat}:∀ (xs:List AVal) (i:Nat) (v:AVal),(∀ x∈xs,x.flat.length=sz)→v.flat.length=sz→i < xs.length →
  (xs.set i v).flatMap AVal.flat=(xs.flatMap AVal.flat).take (i * sz)++v.flat++(xs.flatMap AVal.flat).drop (i * sz + sz)
 | [],i,v,_,_,h=>by simp at h
 | x::xs,0,v,hl,hv,_=>by
  simp only [List.set_cons_zero,List.flatMap_cons,Nat.zero_mul,List.take_zero,List.nil_append,Nat.zero_add]
  rw [List.drop_append_of_le_length (by rw [hl x (by simp)]; exact Nat.le_refl _),List.drop_eq_nil_of_le (by rw [hl x (by simp)]; exact Nat.le_refl _)]
  simp
 | x::xs,i + 1,v,hl,hv,h=>by
  simp only [List.set_cons_succ,List.flatMap_cons]
  rw [qsk xs i v (fun y hy=>hl y (by simp [hy])) hv (by simpa using h)]
  have hx:=hl x (by simp)
  have e1:(i + 1) * sz=x.flat.length + i * sz:=by rw [hx,Nat.succ_mul]; omega
  have t1:List.take (x.flat.length + i * sz) (x.flat++xs.flatMap AVal.flat)=x.flat++(xs.flatMap AVal.flat).take (i * sz):=List.take_length_add_append _
  have t2:List.drop (x.flat.length + i * sz + sz) (x.flat++xs.flatMap AVal.flat)=(xs.flatMap AVal.flat).drop (i * sz + sz):=by
   rw [Nat.add_assoc]; exact List.drop_length_add_append _
  rw [e1,t1,t2]
  simp
theorem yh {sz:Nat}:∀ (xs:List AVal),(∀ x∈xs,x.flat.length=sz)→(xs.flatMap AVal.flat).length=xs.length * sz
 | [],_=>by simp
 | x::xs,h=>by
  simp only [List.flatMap_cons,List.length_append,List.length_cons]
  rw [yh xs (fun y hy=>h y (by simp [hy])),h x (by simp),Nat.succ_mul]; omega
theorem qud {sz:Nat}:∀ (qs:List (Nat × AVal)) (xs ys:List AVal),qcj xs qs=some ys→(∀ x∈xs,x.flat.length=sz)→(∀ q∈qs,q.2.flat.length=sz) →
  qbj (xs.flatMap AVal.flat) (qs.map fun x=>(x.1 * sz,x.2.flat))=some (ys.flatMap AVal.flat)∧(∀ y∈ys,y.flat.length=sz)∧ys.length=xs.length
 | [],xs,ys,h,hx,_=>by simp [qcj] at h; subst h; exact ⟨rfl,hx,rfl⟩
 | (i,v)::qs,xs,ys,h,hx,hq=>by
  simp only [qcj] at h
  cases hb:Nat.blt i xs.length with
  | false=>simp [hb] at h
  | true=>
   simp only [hb,cond_true] at h
   have hlt:i < xs.length:=by have:=Nat.le_of_ble_eq_true hb; omega
   have hv:=hq (i,v) (by simp)
   obtain ⟨h1,h2,h3⟩:=qud qs (xs.set i v) ys h (fun y hy=>by
    rcases List.mem_or_eq_of_mem_set hy with h | rfl
    ·exact hx y h
    ·exact hv) (fun q h=>hq q (by simp [h]))
   refine ⟨?_,h2,by simpa using h3⟩
   have hl:=yh xs hx
   have hle:i * sz + sz≤xs.length * sz:=by rw [← Nat.succ_mul]; exact Nat.mul_le_mul_right _ hlt
   simp only [List.map_cons,qbj]
   rw [show Nat.ble (i * sz + v.flat.length) (xs.flatMap AVal.flat).length=true from by rw [Nat.ble_eq]; simp only at hv; omega]
   simp only [cond_true]
   rw [qsk xs i v hx hv hlt] at h1
   simp only at hv
   rw [hv]
   exact h1
end
end Go.Abs
