/-
  Equations of the executor, second part: boxes, structs, further operations; calls as equations.
-/
import Derived.Test.YtnjngdcbkkonnaaGreatDoorAbsI
set_option linter.unusedVariables false
set_option linter.unusedSimpArgs false
namespace Go.Abs
section
variable {p:AProg} {xc:XC} {h0:Nat} {al:Option (List Nat)} {e:Env} {h:Heap} {α:Type}
attribute [go_sem] List.getElem?_cons_zero List.getElem?_cons_succ List.getElem?_nil List.set_cons_zero List.set_cons_succ List.set_nil List.cons_append List.replicate_zero List.replicate_succ List.map_cons List.map_nil List.all_cons List.all_nil List.drop_zero List.drop_succ_cons List.take_zero List.take_succ_cons List.drop_nil List.take_nil Bool.and_true Bool.true_and Bool.or_false Bool.false_or Bool.and_self List.headD_cons List.foldl_cons List.foldl_nil List.flatMap_cons List.flatMap_nil
@[go_sem] theorem sc_int {k:IntKind} {n:Int}:isScalarCell (.int k n)=true:=rfl
@[go_sem] theorem sc_bool {b:Bool}:isScalarCell (.bool b)=true:=rfl
@[go_sem] theorem sc_str {s:List UInt8}:isScalarCell (.str s)=true:=rfl
@[go_sem] theorem sc_list {b:Bool} {z:Nat} {xs:List AVal}:isScalarCell (.list b z xs)=true:=rfl
@[go_sem] theorem sc_ms {b o n:Nat}:isScalarCell (.ms b o n)=true:=rfl
@[go_sem] theorem sc_ptr {b o:Nat}:isScalarCell (.ptr b o)=true:=rfl
@[go_sem] theorem sc_map {b:Nat}:isScalarCell (.map b)=true:=rfl
@[go_sem] theorem sc_nilptr:isScalarCell .nilptr=true:=rfl
@[go_sem] theorem sc_nilmap:isScalarCell .nilmap=true:=rfl
@[go_sem] theorem sc_nilfn:isScalarCell .nilfn=true:=rfl
@[go_sem] theorem sc_fn {f:Fn} {a b:List AVal}:isScalarCell (.fn f a b)=true:=rfl
@[go_sem] theorem sc_sl {z:Nat} {f:α→AVal} {l:Option (List α)}:isScalarCell (sl z f l)=true:=by cases l <;> rfl
@[go_sem] theorem flat_agg {cs:List AVal}:AVal.flat (.agg cs)=cs:=rfl
@[go_sem] theorem flat_int {k:IntKind} {n:Int}:AVal.flat (.int k n)=[.int k n]:=rfl
@[go_sem] theorem flat_bool {b:Bool}:AVal.flat (.bool b)=[.bool b]:=rfl
@[go_sem] theorem flat_str {s:List UInt8}:AVal.flat (.str s)=[.str s]:=rfl
@[go_sem] theorem flat_list {b:Bool} {z:Nat} {xs:List AVal}:AVal.flat (.list b z xs)=[.list b z xs]:=rfl
@[go_sem] theorem flat_sl {z:Nat} {f:α→AVal} {l:Option (List α)}:AVal.flat (sl z f l)=[sl z f l]:=by cases l <;> rfl
@[go_sem] theorem flat_ptr {b o:Nat}:AVal.flat (.ptr b o)=[.ptr b o]:=rfl
@[go_sem] theorem flat_map {b:Nat}:AVal.flat (.map b)=[.map b]:=rfl
@[go_sem] theorem flat_fn {f:Fn} {a b:List AVal}:AVal.flat (.fn f a b)=[.fn f a b]:=rfl
@[go_sem] theorem flat_ms {b o n:Nat}:AVal.flat (.ms b o n)=[.ms b o n]:=rfl
@[go_sem] theorem nat_beq {a b:Nat}:Nat.beq a b=decide (a=b):=by
 cases h:Nat.beq a b with
 | true=>have:=Nat.eq_of_beq_eq_true h; simp [this]
 | false=>
  have:a ≠ b:=fun hh=>by subst hh; simp at h
  simp [this]
@[go_sem] theorem nat_ble {a b:Nat}:Nat.ble a b=decide (a≤b):=by
 cases h:Nat.ble a b with
 | true=>have:=Nat.le_of_ble_eq_true h; simp [this]
 | false=>
  have:¬ a≤b:=fun hh=>by rw [Nat.ble_eq_true_of_le hh] at h; cases h
  simp [this]
@[go_sem] theorem nat_blt {a b:Nat}:Nat.blt a b=decide (a < b):=by
 show Nat.ble (a + 1) b=_
 rw [nat_ble]; rfl
@[go_sem] theorem okBox_any {b:Nat}:okBox h0 none b=true:=rfl
@[go_sem] theorem exl_nil:exl []=false:=rfl
@[go_sem] theorem exl_cons {k:Nat} {l:List Nat}:exl (k::l)=decide (1000≤k):=by simp only [exl,nat_ble]
@[go_sem] theorem exq_cons {k b:Nat} {l:List Nat}:exq h0 (k::l) b=cond (decide (k < 2000)) (decide (b=k - 1000) && decide (b < h0)) (decide (b=h0 + (k - 2000))):=by
 have e:∀ x y:Nat,Nat.beq x y=decide (x=y):=fun x y=>by
  cases h:Nat.beq x y with
  | true=>rw [Nat.eq_of_beq_eq_true h]; simp
  | false=>
   have:x ≠ y:=fun e=>by rw [e,Nat.beq_refl] at h; cases h
   simp [this]
 simp only [exq,nat_blt,e]
@[go_sem] theorem okBox_some {b:Nat} {l:List Nat}:okBox h0 (some l) b=cond (exl l) (exq h0 l b) (decide (b < h0) || l.contains (b - h0)):=by simp only [okBox,nat_blt]
def newR (r:Option Heap) (v:AVal):Option ORes:=match r with
 | some h'=>some ⟨v,false,none,h'⟩
 | none=>none
@[go_sem] theorem newR_some {v:AVal}:newR (some h) v=some ⟨v,false,none,h⟩:=rfl
@[go_sem] theorem mapR_some {h0 r:Nat} {es:List (AVal × AVal)}:mapR h0 r h true (some es)=newR (newBox h0 h r (.map es)) (.map (h0 + r)):=rfl
def newC (n:Nat) (h:Heap) (b:Option ABox) (x:ABox):Option Heap:=match b with
 | some .hole=>some (h.set n x)
 | _=>none
@[go_sem] theorem newC_hole {n:Nat} {x:ABox}:newC n h (some .hole) x=some (h.set n x):=rfl
@[go_sem] theorem newBox_eq {r:Nat} {x:ABox}:newBox h0 h r x=newC (h0 + r) h h[h0 + r]? x:=by
 unfold newBox newC; rfl
def ifR (b:Bool) (r:Option ORes):Option ORes:=match b with
 | true=>r
 | false=>none
@[go_sem] theorem ifR_true {r:Option ORes}:ifR true r=r:=rfl
@[go_sem] theorem s_alloc {r:Nat} {z:List AVal}:stepOp p xc h0 al e h (.alloc r z)=ifR (z.all isScalarCell) (newR (newBox h0 h r (.cells (cellsOf z))) (.ptr (h0 + r) 0)):=by
 simp only [stepOp,stepWrite,ifR]
 cases z.all isScalarCell with
 | false=>rfl
 | true=>simp only [cond_true,newR]; cases newBox h0 h r (.cells (cellsOf z)) <;> rfl
def vboxR (n:Nat) (h:Heap) (x:Option AVal):Option ORes:=match x with
 | some v=>ifR (Nat.beq v.flat.length n && v.flat.all isScalarCell) (some ⟨.vptr v,false,none,h⟩)
 | none=>none
@[go_sem] theorem vboxR_some {n:Nat} {v:AVal}:vboxR n h (some v)=ifR (Nat.beq v.flat.length n && v.flat.all isScalarCell) (some ⟨.vptr v,false,none,h⟩):=rfl
@[go_sem] theorem s_vbox {n:Nat} {x:AOpd}:stepOp p xc h0 al e h (.vbox n x)=vboxR n h (evalO e x):=by
 simp only [stepOp,stepPure,vboxR]
 cases evalO e x with
 | none=>rfl
 | some v=>
  simp only [ifR]
  cases (Nat.beq v.flat.length n && v.flat.all isScalarCell) <;> rfl
def boxR (h0 r n:Nat) (h:Heap) (x:Option AVal):Option ORes:=match x with
 | some v=>ifR (Nat.beq v.flat.length n && v.flat.all isScalarCell) (newR (newBox h0 h r (.cells (cellsOf v.flat))) (.ptr (h0 + r) 0))
 | none=>none
@[go_sem] theorem boxR_some {r n:Nat} {v:AVal}:boxR h0 r n h (some v)=ifR (Nat.beq v.flat.length n && v.flat.all isScalarCell) (newR (newBox h0 h r (.cells (cellsOf v.flat))) (.ptr (h0 + r) 0)):=rfl
@[go_sem] theorem s_box {r n:Nat} {x:AOpd}:stepOp p xc h0 al e h (.box r n x)=boxR h0 r n h (evalO e x):=by
 simp only [stepOp,stepWrite,boxR]
 cases evalO e x with
 | none=>rfl
 | some v=>
  simp only [ifR,newR]
  cases (Nat.beq v.flat.length n && v.flat.all isScalarCell) with
  | false=>rfl
  | true=>simp only [cond_true]; cases newBox h0 h r (.cells (cellsOf v.flat)) <;> rfl
@[go_sem] theorem s_mkmap {r:Nat}:stepOp p xc h0 al e h (.mkmap r)=newR (newBox h0 h r (.map [])) (.map (h0 + r)):=by
 simp only [stepOp,stepWrite,newR]
 cases newBox h0 h r (.map []) <;> rfl
@[go_sem] theorem cellsOf_nil:cellsOf []=[]:=rfl
@[go_sem] theorem cellsOf_cons {v:AVal} {vs:List AVal}:cellsOf (v::vs)=(v,false)::cellsOf vs:=rfl
def vptrR (agg:Bool) (h:Heap) (r:Option AVal):Option ORes:=match r with
 | some v=>bif Bool.xor agg v.isAgg then none else val h (.vptr v)
 | none=>none
def fieldAddrR (agg:Bool) (off n:Nat) (h:Heap) (x:Option AVal):Option ORes:=match x with
 | some (.ptr b o)=>val h (.ptr b (o + off))
 | some (.vptr (.agg cs))=>vptrR agg h (part agg cs off n)
 | _=>none
@[go_sem] theorem fieldAddr_ptr {agg:Bool} {off n b o:Nat}:fieldAddrR agg off n h (some (.ptr b o))=some ⟨.ptr b (o + off),false,none,h⟩:=rfl
@[go_sem] theorem fieldAddr_vptr {agg:Bool} {off n:Nat} {cs:List AVal}:fieldAddrR agg off n h (some (.vptr (.agg cs)))=vptrR agg h (part agg cs off n):=rfl
@[go_sem] theorem s_fieldAddr {agg:Bool} {off n:Nat} {x:AOpd}:stepOp p xc h0 al e h (.fieldAddr agg off n x)=fieldAddrR agg off n h (evalO e x):=by
 simp only [stepOp,stepPure,fieldAddrR]
 cases evalO e x with
 | none=>rfl
 | some v=>cases v with
  | vptr v=>cases v <;> rfl
  | _=>rfl
def notAgg (v:AVal):Prop:=v.isAgg=false
theorem vptrR_one {v:AVal} (hv:v.isAgg=false):vptrR false h (some v)=some ⟨.vptr v,false,none,h⟩:=by simp [vptrR,hv,val]
@[go_sem] theorem vptrR_int {k:IntKind} {n:Int}:vptrR false h (some (.int k n))=some ⟨.vptr (.int k n),false,none,h⟩:=rfl
@[go_sem] theorem vptrR_str {s:List UInt8}:vptrR false h (some (.str s))=some ⟨.vptr (.str s),false,none,h⟩:=rfl
@[go_sem] theorem vptrR_bool {b:Bool}:vptrR false h (some (.bool b))=some ⟨.vptr (.bool b),false,none,h⟩:=rfl
@[go_sem] theorem vptrR_sl {z:Nat} {f:α→AVal} {l:Option (List α)}:vptrR false h (some (sl z f l))=some ⟨.vptr (sl z f l),false,none,h⟩:=by cases l <;> rfl
@[go_sem] theorem vptrR_agg {cs:List AVal}:vptrR true h (some (.agg cs))=some ⟨.vptr (.agg cs),false,none,h⟩:=rfl
@[go_sem] theorem part_one {cs:List AVal} {off n:Nat}:part false cs off n=cs[off]?:=rfl
def partC (b:Bool) (cs:List AVal) (off n:Nat):Option AVal:=match b with
 | true=>some (.agg ((cs.drop off).take n))
 | false=>none
@[go_sem] theorem partC_true {cs:List AVal} {off n:Nat}:partC true cs off n=some (.agg ((cs.drop off).take n)):=rfl
@[go_sem] theorem part_agg {cs:List AVal} {off n:Nat}:part true cs off n=partC (decide (off + n≤cs.length)) cs off n:=by
 simp only [part,partC,cond_true,nat_ble]
 cases decide (off + n≤cs.length) <;> rfl
@[go_sem] theorem loadR_sl {z:Nat} {f:α→AVal} {l:Option (List α)}:loadR h0 al false 1 h (some (.vptr (sl z f l)))=some ⟨sl z f l,false,none,h⟩:=by cases l <;> rfl
def aggR (h:Heap) (cs:List AVal) (b:Bool):Option ORes:=match b with
 | true=>some ⟨.agg cs,false,none,h⟩
 | false=>none
@[go_sem] theorem aggR_true {cs:List AVal}:aggR h cs true=some ⟨.agg cs,false,none,h⟩:=rfl
@[go_sem] theorem loadR_vagg {n:Nat} {cs:List AVal}:loadR h0 al true n h (some (.vptr (.agg cs)))=aggR h cs (decide (cs.length=n)):=by
 unfold aggR
 by_cases hn:cs.length=n
 ·rw [loadR_agg hn]; simp [hn]
 ·simp [loadR,AVal.isAgg,AVal.flat,hn,nat_beq]
def ptrR (agg:Bool) (h:Heap) (vs:Option (List AVal)):Option ORes:=match vs with
 | some vs=>bif agg then val h (.agg vs) else (match vs with
  | [v]=>val h v
  | _=>none)
 | none=>none
@[go_sem] theorem ptrR_agg {vs:List AVal}:ptrR true h (some vs)=some ⟨.agg vs,false,none,h⟩:=rfl
@[go_sem] theorem ptrR_one {v:AVal}:ptrR false h (some [v])=some ⟨v,false,none,h⟩:=rfl
def cellsC (b:Option ABox):Option (List (AVal × Bool)):=match b with
 | some (.cells cs)=>some cs
 | _=>none
@[go_sem] theorem cellsC_some {cs:List (AVal × Bool)}:cellsC (some (.cells cs))=some cs:=rfl
@[go_sem] theorem boxCells_eq {b:Nat}:boxCells h b=cellsC h[b]?:=by unfold boxCells cellsC; rfl
def ldC (b:Bool) (cs:List (AVal × Bool)) (off n:Nat):Option (List AVal):=match b with
 | true=>some (((cs.drop off).take n).map (·.1))
 | false=>none
@[go_sem] theorem ldC_true {cs:List (AVal × Bool)} {off n:Nat}:ldC true cs off n=some (((cs.drop off).take n).map (·.1)):=rfl
@[go_sem] theorem loadCells_eq {cs:List (AVal × Bool)} {off n:Nat}:loadCellsA cs off n=ldC (decide (off + n≤cs.length)) cs off n:=by
 simp only [loadCellsA,ldC,nat_ble]
 cases decide (off + n≤cs.length) <;> rfl
def ptrL (agg:Bool) (o n:Nat) (h:Heap) (cs:Option (List (AVal × Bool))):Option ORes:=match cs with
 | some cs=>ptrR agg h (loadCellsA cs o n)
 | none=>none
@[go_sem] theorem ptrL_some {agg:Bool} {o n:Nat} {cs:List (AVal × Bool)}:ptrL agg o n h (some cs)=ptrR agg h (loadCellsA cs o n):=rfl
@[go_sem] theorem loadR_ptr {agg:Bool} {n b o:Nat}:loadR h0 al agg n h (some (.ptr b o))=ifR (okBox h0 al b) (ptrL agg o n h (boxCells h b)):=by
 simp only [loadR,ifR,ptrL,ptrR]
 cases okBox h0 al b with
 | false=>rfl
 | true=>
  simp only [cond_true]
  cases boxCells h b with
  | none=>rfl
  | some cs=>simp only []; cases loadCellsA cs o n <;> rfl
def newR2 (r:Option Heap) (v:AVal) (w:Bool):Option ORes:=match r with
 | some h'=>some ⟨v,w,none,h'⟩
 | none=>none
@[go_sem] theorem newR2_some {v:AVal} {w:Bool}:newR2 (some h) v w=some ⟨v,w,none,h⟩:=rfl
def takeM (h:Heap) (b o:Nat) (cs:List (AVal × Bool)) (x:Option (AVal × Bool)):Option ORes:=match x with
 | some (v,w)=>newR2 (setBox h b (.cells (cs.set o (v,false)))) v w
 | none=>none
@[go_sem] theorem takeM_some {b o:Nat} {cs:List (AVal × Bool)} {v:AVal} {w:Bool}:takeM h b o cs (some (v,w))=newR2 (setBox h b (.cells (cs.set o (v,false)))) v w:=rfl
def takeL (h:Heap) (b o:Nat) (cs:Option (List (AVal × Bool))):Option ORes:=match cs with
 | some cs=>takeM h b o cs cs[o]?
 | none=>none
@[go_sem] theorem takeL_some {b o:Nat} {cs:List (AVal × Bool)}:takeL h b o (some cs)=takeM h b o cs cs[o]?:=rfl
def loadTakeR (h0:Nat) (al:Option (List Nat)) (off:Option Nat) (h:Heap) (x:Option AVal):Option ORes:=match x with
 | some (.ptr b o)=>ifR (okBox h0 al b && offOk off o) (takeL h b o (boxCells h b))
 | _=>none
@[go_sem] theorem loadTakeR_ptr {off:Option Nat} {b o:Nat}:loadTakeR h0 al off h (some (.ptr b o))=ifR (okBox h0 al b && offOk off o) (takeL h b o (boxCells h b)):=rfl
@[go_sem] theorem offOk_none {o:Nat}:offOk none o=true:=rfl
@[go_sem] theorem offOk_some {a o:Nat}:offOk (some a) o=decide (a=o):=by simp only [offOk,nat_beq]
@[go_sem] theorem s_loadTake {off:Option Nat} {x:AOpd}:stepOp p xc h0 al e h (.loadTake off x)=loadTakeR h0 al off h (evalO e x):=by
 simp only [stepOp,stepWrite,loadTakeR]
 cases evalO e x with
 | none=>rfl
 | some v=>cases v with
  | ptr b o=>
   simp only [ifR,takeL,takeM,newR2]
   cases (okBox h0 al b && offOk off o) with
   | false=>rfl
   | true=>
    simp only [cond_true]
    cases boxCells h b with
    | none=>rfl
    | some cs=>
     simp only []
     cases cs[o]? with
     | none=>rfl
     | some c=>
      obtain ⟨v,w⟩:=c
      simp only []
      cases setBox h b (.cells (cs.set o (v,false))) <;> rfl
  | _=>rfl
def setC (b:Bool) (n:Nat) (x:ABox) (h:Heap):Option Heap:=match b with
 | true=>some (h.set n x)
 | false=>none
@[go_sem] theorem setC_true {n:Nat} {x:ABox}:setC true n x h=some (h.set n x):=rfl
@[go_sem] theorem setBox_eq {b:Nat} {x:ABox}:setBox h b x=setC (decide (b < h.length)) b x h:=by
 simp only [setBox,setC,nat_blt]
 cases decide (b < h.length) <;> rfl
def stC (b:Bool) (cs:List (AVal × Bool)) (off:Nat) (vs:List AVal):Option (List (AVal × Bool)):=match b with
 | true=>some (cs.take off++vs.map (·,false)++cs.drop (off + vs.length))
 | false=>none
@[go_sem] theorem stC_true {cs:List (AVal × Bool)} {off:Nat} {vs:List AVal}:stC true cs off vs=some (cs.take off++vs.map (·,false)++cs.drop (off + vs.length)):=rfl
@[go_sem] theorem storeCells_eq {cs:List (AVal × Bool)} {off:Nat} {vs:List AVal}:storeCellsA cs off vs=stC (decide (off + vs.length≤cs.length) && vs.all isScalarCell) cs off vs:=by
 simp only [storeCellsA,stC,nat_ble]
 cases (decide (off + vs.length≤cs.length) && vs.all isScalarCell) <;> rfl
def ownO (e:Env) (x:AOpd):Option Nat:=isOwnTmp e x
def ownC (t:Nat) (x:Option (AVal × Bool)):Option Nat:=match x with
 | some (_,true)=>some t
 | _=>none
@[go_sem] theorem ownC_true {t:Nat} {v:AVal}:ownC t (some (v,true))=some t:=rfl
@[go_sem] theorem ownC_false {t:Nat} {v:AVal}:ownC t (some (v,false))=none:=rfl
@[go_sem] theorem isOwn_tmp {t:Nat}:isOwnTmp e (.tmp t)=ownC t (look t e):=by
 simp only [isOwnTmp,ownC]; rfl
@[go_sem] theorem isOwn_const {v:AVal}:isOwnTmp e (.const v)=none:=rfl
def stPlain (h:Heap) (b:Nat) (cs:Option (List (AVal × Bool))):Option ORes:=match cs with
 | some cs'=>newR (setBox h b (.cells cs')) .undef
 | none=>none
@[go_sem] theorem stPlain_some {b:Nat} {cs:List (AVal × Bool)}:stPlain h b (some cs)=newR (setBox h b (.cells cs)) .undef:=rfl
def stOwn (t:Nat) (r:Option Heap):Option ORes:=match r with
 | some h'=>some ⟨.undef,false,some t,h'⟩
 | none=>none
@[go_sem] theorem stOwn_some {t:Nat}:stOwn t (some h)=some ⟨.undef,false,some t,h⟩:=rfl
def storeM (n:Nat) (h:Heap) (b o:Nat) (v:AVal) (own:Option Nat) (cs:Option (List (AVal × Bool))):Option ORes:=match cs,own with
 | some cs,some t=>ifR (Nat.beq n 1 && v.isList && Nat.blt o cs.length) (stOwn t (setBox h b (.cells (cs.set o (v,true)))))
 | some cs,none=>ifR (Nat.beq v.flat.length n) (stPlain h b (storeCellsA cs o v.flat))
 | none,_=>none
@[go_sem] theorem storeM_own {n b o t:Nat} {v:AVal} {cs:List (AVal × Bool)}:storeM n h b o v (some t) (some cs)=ifR (Nat.beq n 1 && v.isList && Nat.blt o cs.length) (stOwn t (setBox h b (.cells (cs.set o (v,true))))):=rfl
@[go_sem] theorem storeM_plain {n b o:Nat} {v:AVal} {cs:List (AVal × Bool)}:storeM n h b o v none (some cs)=ifR (Nat.beq v.flat.length n) (stPlain h b (storeCellsA cs o v.flat)):=rfl
def storeR (h0:Nat) (al:Option (List Nat)) (n:Nat) (h:Heap) (own:Option Nat) (a x:Option AVal):Option ORes:=match a,x with
 | some (.ptr b o),some v=>ifR (okBox h0 al b) (storeM n h b o v own (boxCells h b))
 | _,_=>none
@[go_sem] theorem storeR_ptr {n b o:Nat} {own:Option Nat} {v:AVal}:storeR h0 al n h own (some (.ptr b o)) (some v)=ifR (okBox h0 al b) (storeM n h b o v own (boxCells h b)):=rfl
@[go_sem] theorem s_store {n:Nat} {a x:AOpd}:stepOp p xc h0 al e h (.store n a x)=storeR h0 al n h (isOwnTmp e x) (evalO e a) (evalO e x):=by
 simp only [stepOp,stepWrite,storeR]
 cases evalO e a with
 | none=>rfl
 | some va=>
  cases va with
  | ptr b o=>
   cases evalO e x with
   | none=>rfl
   | some v=>
    simp only [ifR]
    cases okBox h0 al b with
    | false=>rfl
    | true=>
     simp only [cond_true]
     cases boxCells h b with
     | none=>rfl
     | some cs=>
      simp only [storeM]
      cases isOwnTmp e x with
      | none=>
       simp only [ifR,stPlain,newR]
       cases Nat.beq v.flat.length n with
       | false=>rfl
       | true=>
        simp only [cond_true]
        cases storeCellsA cs o v.flat with
        | none=>rfl
        | some cs'=>simp only []; cases setBox h b (.cells cs') <;> rfl
      | some t=>
       simp only [ifR,stOwn]
       cases (Nat.beq n 1 && v.isList && Nat.blt o cs.length) with
       | false=>rfl
       | true=>simp only [cond_true]; cases setBox h b (.cells (cs.set o (v,true))) <;> rfl
  | _=>rfl
@[go_sem] theorem isList_list {b:Bool} {z:Nat} {xs:List AVal}:AVal.isList (.list b z xs)=true:=rfl
@[go_sem] theorem isList_sl {z:Nat} {f:α→AVal} {l:Option (List α)}:AVal.isList (sl z f l)=true:=by cases l <;> rfl
def partsC (b:Bool) (off:Nat) (vs:List AVal) (l:Option (List (Nat × List AVal))):Option (List (Nat × List AVal)):=match b,l with
 | true,some r=>some ((off,vs)::r)
 | _,_=>none
@[go_sem] theorem partsC_true {off:Nat} {vs:List AVal} {r:List (Nat × List AVal)}:partsC true off vs (some r)=some ((off,vs)::r):=rfl
def partsO (x:Option AVal) (off n:Nat) (l:Option (List (Nat × List AVal))):Option (List (Nat × List AVal)):=match x with
 | some v=>partsC (Nat.beq v.flat.length n && v.flat.all isScalarCell) off v.flat l
 | none=>none
@[go_sem] theorem partsO_some {v:AVal} {off n:Nat} {l:Option (List (Nat × List AVal))}:partsO (some v) off n l=partsC (Nat.beq v.flat.length n && v.flat.all isScalarCell) off v.flat l:=rfl
@[go_sem] theorem evalParts_nil:evalParts e []=some []:=rfl
@[go_sem] theorem evalParts_cons {off n:Nat} {x:AOpd} {l:List (Nat × Nat × AOpd)}:evalParts e ((off,n,x)::l)=partsO (evalO e x) off n (evalParts e l):=by
 simp only [evalParts,partsO,partsC]
 cases evalO e x with
 | none=>rfl
 | some v=>simp only []; cases (Nat.beq v.flat.length n && v.flat.all isScalarCell) <;> cases evalParts e l <;> rfl
def fillR (h:Heap) (zero:List AVal) (ps:Option (List (Nat × List AVal))):Option ORes:=match ps with
 | some ps=>fillS h (fillA zero ps)
 | none=>none
where fillS (h:Heap) (r:Option (List AVal)):Option ORes:=match r with
 | some cs=>some ⟨.agg cs,false,none,h⟩
 | none=>none
@[go_sem] theorem fillR_some {zero:List AVal} {ps:List (Nat × List AVal)}:fillR h zero (some ps)=fillR.fillS h (fillA zero ps):=rfl
@[go_sem] theorem fillS_some {cs:List AVal}:fillR.fillS h (some cs)=some ⟨.agg cs,false,none,h⟩:=rfl
@[go_sem] theorem s_build {zero:List AVal} {ps:List (Nat × Nat × AOpd)}:stepOp p xc h0 al e h (.build zero ps)=fillR h zero (evalParts e ps):=by
 simp only [stepOp,stepPure,fillR,fillR.fillS]
 cases evalParts e ps with
 | none=>rfl
 | some ps=>simp only []; cases fillA zero ps <;> rfl
@[go_sem] theorem fillA_nil {cs:List AVal}:fillA cs []=some cs:=rfl
def fillC (b:Bool) (cs:List AVal) (off:Nat) (vs:List AVal) (l:List (Nat × List AVal)):Option (List AVal):=match b with
 | true=>fillA (cs.take off++vs++cs.drop (off + vs.length)) l
 | false=>none
@[go_sem] theorem fillC_true {cs:List AVal} {off:Nat} {vs:List AVal} {l:List (Nat × List AVal)}:fillC true cs off vs l=fillA (cs.take off++vs++cs.drop (off + vs.length)) l:=rfl
@[go_sem] theorem fillA_cons {cs:List AVal} {off:Nat} {vs:List AVal} {l:List (Nat × List AVal)}:fillA cs ((off,vs)::l)=fillC (decide (off + vs.length≤cs.length)) cs off vs l:=by
 simp only [fillA,fillC,nat_ble]
 cases decide (off + vs.length≤cs.length) <;> rfl
def elemsO (x:Option AVal) (i sz:Nat) (l:Option (List (Nat × AVal))):Option (List (Nat × AVal)):=match x with
 | some v=>elemsC (Nat.beq v.flat.length sz && v.flat.all isScalarCell) i v l
 | none=>none
where elemsC (b:Bool) (i:Nat) (v:AVal) (l:Option (List (Nat × AVal))):Option (List (Nat × AVal)):=match b,l with
 | true,some r=>some ((i,v)::r)
 | _,_=>none
@[go_sem] theorem elemsO_some {v:AVal} {i sz:Nat} {l:Option (List (Nat × AVal))}:elemsO (some v) i sz l=elemsO.elemsC (Nat.beq v.flat.length sz && v.flat.all isScalarCell) i v l:=rfl
@[go_sem] theorem elemsC_true {v:AVal} {i:Nat} {r:List (Nat × AVal)}:elemsO.elemsC true i v (some r)=some ((i,v)::r):=rfl
@[go_sem] theorem evalElems_nil {sz:Nat}:evalElems e sz []=some []:=rfl
@[go_sem] theorem evalElems_cons {sz i:Nat} {x:AOpd} {l:List (Nat × AOpd)}:evalElems e sz ((i,x)::l)=elemsO (evalO e x) i sz (evalElems e sz l):=by
 simp only [evalElems,elemsO,elemsO.elemsC]
 cases evalO e x with
 | none=>rfl
 | some v=>simp only []; cases (Nat.beq v.flat.length sz && v.flat.all isScalarCell) <;> cases evalElems e sz l <;> rfl
@[go_sem] theorem setAt_nil {xs:List AVal}:setAt xs []=some xs:=rfl
def setAtC (b:Bool) (xs:List AVal) (i:Nat) (v:AVal) (l:List (Nat × AVal)):Option (List AVal):=match b with
 | true=>setAt (xs.set i v) l
 | false=>none
@[go_sem] theorem setAtC_true {xs:List AVal} {i:Nat} {v:AVal} {l:List (Nat × AVal)}:setAtC true xs i v l=setAt (xs.set i v) l:=rfl
@[go_sem] theorem setAt_cons {xs:List AVal} {i:Nat} {v:AVal} {l:List (Nat × AVal)}:setAt xs ((i,v)::l)=setAtC (decide (i < xs.length)) xs i v l:=by
 simp only [setAt,setAtC,nat_blt]
 cases decide (i < xs.length) <;> rfl
def sliceR (sz:Nat) (h:Heap) (xs:List AVal) (ps:Option (List (Nat × AVal))):Option ORes:=match ps with
 | some ps=>sliceS sz h (setAt xs ps)
 | none=>none
where sliceS (sz:Nat) (h:Heap) (r:Option (List AVal)):Option ORes:=match r with
 | some xs=>some ⟨.list false sz xs,true,none,h⟩
 | none=>none
@[go_sem] theorem sliceR_some {sz:Nat} {xs:List AVal} {ps:List (Nat × AVal)}:sliceR sz h xs (some ps)=sliceR.sliceS sz h (setAt xs ps):=rfl
@[go_sem] theorem sliceS_some {sz:Nat} {xs:List AVal}:sliceR.sliceS sz h (some xs)=some ⟨.list false sz xs,true,none,h⟩:=rfl
@[go_sem] theorem s_buildSlice {sz len:Nat} {zero:List AVal} {ps:List (Nat × AOpd)}:stepOp p xc h0 al e h (.buildSlice sz len zero ps)=sliceR sz h (List.replicate len (bif Nat.beq sz 1 then zero.headD .undef else .agg zero)) (evalElems e sz ps):=by
 simp only [stepOp,stepPure,sliceR,sliceR.sliceS]
 cases evalElems e sz ps with
 | none=>rfl
 | some ps=>simp only []; cases setAt (List.replicate len (bif Nat.beq sz 1 then zero.headD .undef else .agg zero)) ps <;> rfl
def appR (sz bytes:Nat) (h:Heap) (own:Option Nat) (x y:Option AVal):Option ORes:=match x,y with
 | some (.list n sz' xs),some vy=>ifR (n || own.isSome) (appS sz bytes h own n sz' xs (srcElems sz vy))
 | _,_=>none
where appS (sz bytes:Nat) (h:Heap) (own:Option Nat) (n:Bool) (sz':Nat) (xs:List AVal) (ys:Option (List AVal)):Option ORes:=match ys with
 | some ys=>ifR ((Nat.beq sz sz' || (xs.isEmpty && n)) && Nat.ble (xs.length + ys.length) 1073741824 && Nat.ble bytes 4096 && Nat.blt 0 sz) (some ⟨apRes n sz xs ys,true,own,h⟩)
 | none=>none
@[go_sem] theorem appR_list {sz bytes:Nat} {own:Option Nat} {n:Bool} {sz':Nat} {xs:List AVal} {vy:AVal}:appR sz bytes h own (some (.list n sz' xs)) (some vy)=ifR (n || own.isSome) (appR.appS sz bytes h own n sz' xs (srcElems sz vy)):=rfl
@[go_sem] theorem appS_some {sz bytes:Nat} {own:Option Nat} {n:Bool} {sz':Nat} {xs ys:List AVal}:appR.appS sz bytes h own n sz' xs (some ys)=ifR ((Nat.beq sz sz' || (xs.isEmpty && n)) && Nat.ble (xs.length + ys.length) 1073741824 && Nat.ble bytes 4096 && Nat.blt 0 sz) (some ⟨apRes n sz xs ys,true,own,h⟩):=rfl
@[go_sem] theorem s_append {sz bytes:Nat} {x y:AOpd}:stepOp p xc h0 al e h (.append none sz bytes x y)=appR sz bytes h (isOwnTmp e x) (evalO e x) (evalO e y):=by
 simp only [stepOp,stepPure,appR,appR.appS]
 cases evalO e x with
 | none=>rfl
 | some vx=>
  cases vx with
  | list n sz' xs=>
   cases evalO e y with
   | none=>rfl
   | some vy=>
    simp only [ifR]
    cases (n || (isOwnTmp e x).isSome) with
    | false=>rfl
    | true=>
     simp only [cond_true]
     cases srcElems sz vy with
     | none=>rfl
     | some ys=>simp only []; cases ((Nat.beq sz sz' || (xs.isEmpty && n)) && Nat.ble (xs.length + ys.length) 1073741824 && Nat.ble bytes 4096 && Nat.blt 0 sz) <;> rfl
  | _=>cases evalO e y <;> rfl
@[go_sem] theorem src_sl {z:Nat} {f:α→AVal} {l:Option (List α)}:srcElems z (sl z f l)=some ((l.getD []).map f):=by
 cases l <;> simp [srcElems,sl]
@[go_sem] theorem src_list {z:Nat} {b:Bool} {xs:List AVal}:srcElems z (.list b z xs)=some xs:=by simp [srcElems]
@[go_sem] theorem src_nil {z z':Nat} {b:Bool}:srcElems z (.list b z' [])=some []:=by simp [srcElems]
@[go_sem] theorem apRes_false {z:Nat} {xs ys:List AVal}:apRes false z xs ys=.list false z (xs++ys):=rfl
@[go_sem] theorem apRes_cons {z:Nat} {b:Bool} {xs:List AVal} {y:AVal} {ys:List AVal}:apRes b z xs (y::ys)=.list false z (xs++y::ys):=by cases b <;> rfl
attribute [go_sem] Option.isSome_some Option.isSome_none Bool.or_true Bool.true_or List.isEmpty_nil List.isEmpty_cons Bool.and_false Bool.false_and
def extractR (h:Heap) (i:Nat) (x:Option AVal):Option ORes:=match x with
 | some (.tup vs)=>valO h vs[i]?
 | _=>none
@[go_sem] theorem extractR_tup {i:Nat} {vs:List AVal}:extractR h i (some (.tup vs))=valO h vs[i]?:=rfl
@[go_sem] theorem s_extract {i:Nat} {x:AOpd}:stepOp p xc h0 al e h (.extract x i)=extractR h i (evalO e x):=by
 simp only [stepOp,stepPure,extractR]
 cases evalO e x with
 | none=>rfl
 | some v=>cases v <;> rfl
def un1 (op:UnOp) (h:Heap) (x:Option AVal):Option ORes:=match x with
 | some v=>valO h (unOpA op v)
 | none=>none
@[go_sem] theorem un1_some {op:UnOp} {v:AVal}:un1 op h (some v)=valO h (unOpA op v):=rfl
@[go_sem] theorem s_un {op:UnOp} {x:AOpd}:stepOp p xc h0 al e h (.un op x)=un1 op h (evalO e x):=by
 simp only [stepOp,stepPure,un1]
 cases evalO e x <;> rfl
@[go_sem] theorem un_not {b:Bool}:unOpA .not (.bool b)=some (.bool (!b)):=rfl
@[go_sem] theorem un_neg {k:IntKind} {n:Int}:unOpA .neg (.int k n)=some (.int k (wrapF k (0 - n))):=rfl
def beqR (neq:Bool) (h:Heap) (x y:Option AVal):Option ORes:=match x,y with
 | some (.bool a),some (.bool b)=>val h (.bool (bif neq then !(a == b) else a == b))
 | _,_=>none
@[go_sem] theorem beqR_bool {neq a b:Bool}:beqR neq h (some (.bool a)) (some (.bool b))=some ⟨.bool (bif neq then !(a == b) else a == b),false,none,h⟩:=rfl
@[go_sem] theorem s_beq {neq:Bool} {x y:AOpd}:stepOp p xc h0 al e h (.beq neq x y)=beqR neq h (evalO e x) (evalO e y):=by
 simp only [stepOp,stepPure,beqR]
 cases evalO e x with
 | none=>rfl
 | some v=>cases v <;> cases evalO e y <;> rfl
def mkfuncR (f:Fn) (h:Heap) (a b:Option (List AVal)):Option ORes:=match a,b with
 | some a,some b=>val h (.fn f a b)
 | _,_=>none
@[go_sem] theorem mkfuncR_some {f:Fn} {a b:List AVal}:mkfuncR f h (some a) (some b)=some ⟨.fn f a b,false,none,h⟩:=rfl
@[go_sem] theorem s_mkfunc {f:Fn} {a b:List AOpd}:stepOp p xc h0 al e h (.mkfunc f a b)=mkfuncR f h (evalL e a) (evalL e b):=by
 simp only [stepOp,stepPure,mkfuncR]
 cases evalL e a <;> cases evalL e b <;> rfl
def mxR (f:AVal→AVal→Option AVal) (h:Heap) (l:Option (List AVal)):Option ORes:=match l with
 | some (v::vs)=>valO h (foldO f v vs)
 | _=>none
@[go_sem] theorem mxR_cons {f:AVal→AVal→Option AVal} {v:AVal} {vs:List AVal}:mxR f h (some (v::vs))=valO h (foldO f v vs):=rfl
@[go_sem] theorem s_mx {l:List AOpd}:stepOp p xc h0 al e h (.mx l)=mxR max2 h (evalL e l):=by
 simp only [stepOp,stepPure,mxR]
 cases evalL e l with
 | none=>rfl
 | some vs=>cases vs <;> rfl
@[go_sem] theorem s_mn {l:List AOpd}:stepOp p xc h0 al e h (.mn l)=mxR min2 h (evalL e l):=by
 simp only [stepOp,stepPure,mxR]
 cases evalL e l with
 | none=>rfl
 | some vs=>cases vs <;> rfl
def foldC (f:AVal→AVal→Option AVal) (x:Option AVal) (l:List AVal):Option AVal:=match x with
 | some z=>foldO f z l
 | none=>none
@[go_sem] theorem foldC_some {f:AVal→AVal→Option AVal} {x:AVal} {l:List AVal}:foldC f (some x) l=foldO f x l:=rfl
@[go_sem] theorem foldO_nil {f:AVal→AVal→Option AVal} {x:AVal}:foldO f x []=some x:=rfl
@[go_sem] theorem foldO_cons {f:AVal→AVal→Option AVal} {x y:AVal} {l:List AVal}:foldO f x (y::l)=foldC f (f x y) l:=by
 simp only [foldO,foldC]; rfl
@[go_sem] theorem max2_int {k:IntKind} {x y:Int}:max2 (.int k x) (.int k y)=some (.int k (max x y)):=by
 simp only [max2,decide_true,cond_true]
 congr 2
 by_cases h:y > x
 ·rw [if_pos h]; omega
 ·rw [if_neg h]; omega
@[go_sem] theorem min2_int {k:IntKind} {x y:Int}:min2 (.int k x) (.int k y)=some (.int k (min x y)):=by
 simp only [min2,decide_true,cond_true]
 congr 2
 by_cases h:y < x
 ·rw [if_pos h]; omega
 ·rw [if_neg h]; omega
def nilEqR (k:Nat) (neq:Bool) (h:Heap) (x:Option AVal):Option ORes:=match k,x with
  | 0,some (.list n _ _)=>val h (.bool (bif neq then !n else n))
  | 0,some (.ms ..)=>val h (.bool neq)
  | 1,some .nilptr=>val h (.bool (!neq))
  | 1,some (.ptr ..)=>val h (.bool neq)
  | 1,some (.vptr ..)=>val h (.bool neq)
  | 2,some .nilmap=>val h (.bool (!neq))
  | 2,some (.map ..)=>val h (.bool neq)
  | 3,some .nilfn=>val h (.bool (!neq))
  | 3,some (.fn ..)=>val h (.bool neq)
  | _,_=>none
@[go_sem] theorem s_nilEq {k:Nat} {neq:Bool} {x:AOpd}:stepOp p xc h0 al e h (.nilEq k neq x)=nilEqR k neq h (evalO e x):=rfl
@[go_sem] theorem nilEq_list {neq n:Bool} {z:Nat} {xs:List AVal}:nilEqR 0 neq h (some (.list n z xs))=some ⟨.bool (bif neq then !n else n),false,none,h⟩:=rfl
@[go_sem] theorem below_int {n:Nat} {k:IntKind} {i:Int}:below n (.int k i)=true:=rfl
@[go_sem] theorem below_bool {n:Nat} {b:Bool}:below n (.bool b)=true:=rfl
@[go_sem] theorem below_str {n:Nat} {s:List UInt8}:below n (.str s)=true:=rfl
@[go_sem] theorem below_list {n:Nat} {b:Bool} {z:Nat} {xs:List AVal}:below n (.list b z xs)=belowL n xs:=by simp only [below]
@[go_sem] theorem below_agg {n:Nat} {xs:List AVal}:below n (.agg xs)=belowL n xs:=by simp only [below]
@[go_sem] theorem below_tup {n:Nat} {xs:List AVal}:below n (.tup xs)=belowL n xs:=by simp only [below]
@[go_sem] theorem below_ptr {n b o:Nat}:below n (.ptr b o)=decide (b < n):=by simp only [below,nat_blt]
@[go_sem] theorem below_map {n b:Nat}:below n (.map b)=decide (b < n):=by simp only [below,nat_blt]
@[go_sem] theorem below_fn {n k:Nat} {a b:List AVal}:below n (.fn (.func k) a b)=(belowL n a && belowL n b):=by simp only [below]
@[go_sem] theorem belowL_nil {n:Nat}:belowL n []=true:=by simp only [belowL]
@[go_sem] theorem belowL_cons {n:Nat} {x:AVal} {xs:List AVal}:belowL n (x::xs)=(below n x && belowL n xs):=by simp only [belowL]
@[go_sem] theorem below_vint {n:Nat} {i:Int}:below n (vint i)=true:=rfl
@[go_sem] theorem below_ints {n z:Nat} {l:Option (List Int)}:below n (sl z vint l)=true:=below_sl fun _=>rfl
theorem belowL_map {n:Nat} {f:α→AVal} (hf:∀ x,below n (f x)=true):∀ l:List α,belowL n (l.map f)=true
 | []=>rfl
 | x::l=>by rw [List.map_cons,belowL_cons,hf,belowL_map hf l]; rfl
@[go_sem] theorem belowL_vint {n:Nat} {l:List Int}:belowL n (l.map vint)=true:=belowL_map (fun _=>rfl) l
@[go_sem] theorem frz_int {k:IntKind} {i:Int}:freezeV h (.int k i)=some (.int k i):=rfl
@[go_sem] theorem frz_bool {b:Bool}:freezeV h (.bool b)=some (.bool b):=rfl
@[go_sem] theorem frz_str {s:List UInt8}:freezeV h (.str s)=some (.str s):=rfl
@[go_sem] theorem frz_list {b:Bool} {z:Nat} {xs:List AVal}:freezeV h (.list b z xs)=some (.list b z xs):=rfl
@[go_sem] theorem frz_sl {z:Nat} {f:α→AVal} {l:Option (List α)}:freezeV h (sl z f l)=some (sl z f l):=by cases l <;> rfl
@[go_sem] theorem frzL_nil:freezeL h []=some []:=rfl
@[go_sem] theorem frzL_cons {v:AVal} {vs:List AVal}:freezeL h (v::vs)=consO (freezeV h v) (freezeL h vs):=by
 simp only [freezeL,consO]
 cases freezeV h v with
 | none=>rfl
 | some x=>cases freezeL h vs <;> rfl
def aggO (l:Option (List AVal)):Option AVal:=match l with
 | some xs=>some (.agg xs)
 | none=>none
@[go_sem] theorem aggO_some {xs:List AVal}:aggO (some xs)=some (.agg xs):=rfl
@[go_sem] theorem frzR_agg {cs:List AVal}:freezeR h (.agg cs)=aggO (freezeL h cs):=by
 simp only [freezeR,aggO]
 cases freezeL h cs <;> rfl
@[go_sem] theorem frzR_int {k:IntKind} {i:Int}:freezeR h (.int k i)=some (.int k i):=rfl
@[go_sem] theorem frzR_bool {b:Bool}:freezeR h (.bool b)=some (.bool b):=rfl
@[go_sem] theorem frzR_str {s:List UInt8}:freezeR h (.str s)=some (.str s):=rfl
@[go_sem] theorem frzR_list {b:Bool} {z:Nat} {xs:List AVal}:freezeR h (.list b z xs)=some (.list b z xs):=rfl
@[go_sem] theorem frzR_sl {z:Nat} {f:α→AVal} {l:Option (List α)}:freezeR h (sl z f l)=some (sl z f l):=by cases l <;> rfl
def tupO (l:Option (List AVal)):Option AVal:=match l with
 | some xs=>some (.tup xs)
 | none=>none
@[go_sem] theorem tupO_some {xs:List AVal}:tupO (some xs)=some (.tup xs):=rfl
@[go_sem] theorem frzR_tup {cs:List AVal}:freezeR h (.tup cs)=tupO (freezeR.freezeT h cs):=by
 simp only [freezeR,tupO]
 cases freezeR.freezeT h cs <;> rfl
@[go_sem] theorem frzT_nil:freezeR.freezeT h []=some []:=rfl
@[go_sem] theorem frzT_agg {cs vs:List AVal}:freezeR.freezeT h (.agg cs::vs)=consO (aggO (freezeL h cs)) (freezeR.freezeT h vs):=by
 rw [freezeR.freezeT]
 cases freezeL h cs with
 | none=>rfl
 | some x=>cases freezeR.freezeT h vs <;> rfl
theorem frzT_one {v:AVal} {vs:List AVal} (hv:v.isAgg=false):freezeR.freezeT h (v::vs)=consO (freezeV h v) (freezeR.freezeT h vs):=by
 have:∀ cs,v ≠ .agg cs:=fun cs hc=>by rw [hc] at hv; cases hv
 rw [freezeR.freezeT]
 ·cases freezeV h v with
  | none=>rfl
  | some x=>cases freezeR.freezeT h vs <;> rfl
 ·exact this
@[go_sem] theorem frzT_int {k:IntKind} {i:Int} {vs:List AVal}:freezeR.freezeT h (.int k i::vs)=consO (some (.int k i)) (freezeR.freezeT h vs):=frzT_one rfl
@[go_sem] theorem frzT_bool {b:Bool} {vs:List AVal}:freezeR.freezeT h (.bool b::vs)=consO (some (.bool b)) (freezeR.freezeT h vs):=frzT_one rfl
@[go_sem] theorem frzT_str {s:List UInt8} {vs:List AVal}:freezeR.freezeT h (.str s::vs)=consO (some (.str s)) (freezeR.freezeT h vs):=frzT_one rfl
@[go_sem] theorem frzT_list {b:Bool} {z:Nat} {xs vs:List AVal}:freezeR.freezeT h (.list b z xs::vs)=consO (some (.list b z xs)) (freezeR.freezeT h vs):=frzT_one rfl
@[go_sem] theorem frzT_sl {z:Nat} {f:α→AVal} {l:Option (List α)} {vs:List AVal}:freezeR.freezeT h (sl z f l::vs)=consO (some (sl z f l)) (freezeR.freezeT h vs):=by
 rw [frzT_one (by cases l <;> rfl),frz_sl]
attribute [go_sem] List.contains_cons List.contains_nil
@[go_sem] theorem beq_nat {a b:Nat}:(a == b)=decide (a=b):=by
 by_cases hab:a=b <;> simp [hab]
def cellZ (agg:Bool) (c:Option (AVal × Bool)) (vs:Option (List AVal)):Option (AVal × Bool):=match vs,agg with
 | some vs,true=>some (.agg vs,false)
 | some _,false=>c
 | none,_=>none
@[go_sem] theorem cellZ_agg {c:Option (AVal × Bool)} {vs:List AVal}:cellZ true c (some vs)=some (.agg vs,false):=rfl
@[go_sem] theorem cellZ_one {c:Option (AVal × Bool)} {vs:List AVal}:cellZ false c (some vs)=c:=rfl
def cellY (agg:Bool) (o n:Nat) (cs:Option (List (AVal × Bool))):Option (AVal × Bool):=match cs with
 | some cs=>cellZ agg cs[o]? (loadCellsA cs o n)
 | none=>none
@[go_sem] theorem cellY_some {agg:Bool} {o n:Nat} {cs:List (AVal × Bool)}:cellY agg o n (some cs)=cellZ agg cs[o]? (loadCellsA cs o n):=rfl
def cellX (agg:Bool) (n:Nat) (h:Heap) (x:Option (AVal × Bool)):Option (AVal × Bool):=match x with
 | some (.ptr b o,_)=>cellY agg o n (boxCells h b)
 | _=>none
@[go_sem] theorem cellX_ptr {agg:Bool} {n b o:Nat} {w:Bool}:cellX agg n h (some (.ptr b o,w))=cellY agg o n (boxCells h b):=rfl
@[go_sem] theorem resultOf_cell {t n:Nat} {agg:Bool}:resultOf ⟨e,h⟩ (.cell t agg n)=cellX agg n h (look t e):=by
 simp only [resultOf,cellX]
 cases look t e with
 | none=>rfl
 | some x=>
  obtain ⟨v,w⟩:=x
  cases v with
  | ptr b o=>
   simp only [cellY]
   cases boxCells h b with
   | none=>rfl
   | some cs=>
    simp only [cellZ]
    cases loadCellsA cs o n with
    | none=>rfl
    | some vs=>cases agg with
     | true=>rfl
     | false=>simp only [cond_false]; cases cs[o]? <;> rfl
  | _=>rfl
theorem callIso_of {k:Nat} {args:List AVal} {v v':AVal} {o:Bool} (hp:p.prims k=none) (hc:callFn p xc k args []=some (v,o,h)) (hz:freezeR h v=some v') (hv:below 0 v'=true):callIso p xc k args=some (v',o && v.isList):=by
 unfold callIso
 rw [hp]
 simp only [hc,hz,pureV,hv,cond_true]
end
end Go.Abs
