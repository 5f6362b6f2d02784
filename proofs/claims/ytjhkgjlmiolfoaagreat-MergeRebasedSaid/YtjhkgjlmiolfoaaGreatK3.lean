/- Joined texts, part 3: lemmas for the statement. No condition. -/
import Derived.Test.YtjhkgjlmiolfoaaGreatK2
import Derived.Test.YtjhkgjlmiolfoaaGreatProg
import Derived.KernelRfl
import Derived.Lib.Bytealg
set_option maxHeartbeats 4000000
set_option linter.unusedSimpArgs false
set_option linter.unusedVariables false
open Nat (reduceEqDiff reduceLT reduceLeDiff reduceMul reduceAdd reduceSub)
open Go.IntKind (i64)
open Go.Proofs.Tryz
open Go.Proofs.Tryz renaming prog → pw
namespace Go.cq
open Go.RowKit
variable{P:Program}{N:Nat}{own:List Nat}{ops:Array Oper}{K:Env->ay->Prop}{env:Env}{H:ay}
def ahD(P:Program)(o:Oper)(W:Env->ay->Prop)(env:Env)(H:ay):Prop:=∃x,yS P o (ev env) H x/\W (cI env o.dst (.p x)) H
def awA(P:Program)(own:List Nat)(ops:Array Oper)(o:Oper)(W:Env->ay->Prop)(env:Env)(H:ay):Prop:=∃x,yS P o (ev env) (pq own ops H) x/\W (cI env o.dst (.p x)) H
def afk(P:Program)(own:List Nat)(ops:Array Oper)(o:Oper)(W:Env->ay->Prop)(env:Env)(H:ay):Prop:=∃v H',aff P own ops o (ev env) H v H'/\W (cI env o.dst v) H'
def ahE(own:List Nat)(o:Oper)(env:Env):Prop:=match o.op with
 | .store _ (.tmp d) _=>∃off,env d = .ptr d off
 |_=>ad2 own o env
def isS:o7->Bool
 | .s=>true
 |_=>false
def afl(own:List Nat)(ops:Array Oper)(l:List (Oper×o7)):Bool:=l.all λx=>!p5 own ops x.1||isS x.2
theorem ai7{o:Oper}{env:Env}(h:p5 own ops o=true->ahE own o env):adj own ops o env:=by
 obtain⟨dst,op,t,pos,af,g⟩:=o;refine⟨?_,λha=>?_⟩
 ·cases op<;>try trivial
  case store e a x =>
   cases a<;>try trivial
   rename_i k;intro hn;have h1:p5 own ops ⟨dst,.store e (.tmp k) x,t,pos,af,g⟩=true:=by unfold p5;simp only[hn,Bool.true_or]
   exact h h1
 ·have h1:p5 own ops ⟨dst,op,t,pos,af,g⟩=true:=by unfold p5;rw[ha,Bool.or_true]
  have h2:=h h1;cases op<;>first|exact h2|skip
  case store e a x=>simp[yX,appArg] at ha
def abt(own:List Nat)(o:Oper):Bool:=match o.dst with
 |some d=>!own.contains d
 |none=>true
def fZ(P:Program)(N:Nat)(own:List Nat)(ops:Array Oper):List (Oper×o7)->(Env->ay->Prop)->Env->ay->Prop
 | [],K,env,H=>K env H
 |(o,c) :: rest,K,env,H=>wB N o.dst/\match mS ops o env with
  |some true=>(match c with
   | .p=>mV o=true/\abt own o=true/\(match gj P o (ev env) ck with
    |some (pre,v,_)=>pre/\fZ P N own ops rest K (cI env o.dst v) H
    |none=>False)
   | .q=>bO own o=true/\(match gj P o (ev env) H with
    |some (pre,v,_)=>pre/\fZ P N own ops rest K (cI env o.dst v) H
    |none=>ahD P o (fZ P N own ops rest K) env H)
   | .b=>bO own o=true/\(match gj P o (ev env) (sU H) with
    |some (pre,v,_)=>pre/\fZ P N own ops rest K (cI env o.dst v) H
    |none=>False)
   | .o=>bO own o=true/\(match gj P o (ev env) (pq own ops H) with
    |some (pre,v,_)=>pre/\fZ P N own ops rest K (cI env o.dst v) H
    |none=>awA P own ops o (fZ P N own ops rest K) env H)
   | .w=>(match fW P own o (ev env) H with
    |some (pre,v,H')=>pre/\fZ P N own ops rest K (cI env o.dst v) H'
    |none=>False)
   | .s=>ahE own o env/\(match fW P own o (ev env) H with
    |some (pre,v,H')=>pre/\fZ P N own ops rest K (cI env o.dst v) H'
    |none=>False)
   | .f=>bO own o=true/\afk P own ops o (fZ P N own ops rest K) env H
   | .t=>opK P own o (fZ P N own ops rest K) env H)
  |some false=>fZ P N own ops rest K (cI env o.dst (.dQ [])) H
  |none=>False
theorem iS:∀ (l:List (Oper×o7)) (env:Env) (H:ay),afl own ops l=true->fZ P N own ops l K env H->akX P N own ops l K env H
 | [],env,H,_,h=>h
 |(o,c) :: rest,env,H,hcl,h=>by
  obtain⟨hd,h⟩:=h;refine⟨hd,?_⟩;have rq:afl own ops rest=true:=by unfold afl at hcl ⊢;rw[List.all_cons,Bool.and_eq_true] at hcl;exact hcl.2
  have hc1:isS c=false->adj own ops o env:=λhc=>ai7 λhn=>by unfold afl at hcl;rw[List.all_cons,Bool.and_eq_true] at hcl;have:=hcl.1;simp only[hn,hc] at this;cases this
  split at h
  ·rename_i hg;cases c with
   |p =>
    simp only at h;obtain⟨h1,h2,h⟩:=h;split at h
    ·rename_i pre v H' hx;exact .inr ⟨rfl,v,H,.inr ⟨hg,hc1 rfl,pre,asr h1 hx,h.1,rfl,h2⟩,rfl,iS rest _ H rq h.2⟩
    ·exact h.elim
   |q =>
    simp only at h;obtain⟨h1,h⟩:=h;have hno:abt own o=true:=by unfold bO at h1;rw[Bool.and_eq_true] at h1;exact h1.1
    have hall:fW P own o (ev env) H=gj P o (ev env) H:=jY hno;split at h
    ·rename_i pre v H' hx;have:H'=H:=su h1 (hall.trans hx);subst this;exact .inr ⟨rfl,v,_,.inr ⟨hg,hc1 rfl,h1,rfl,.inl ⟨pre,hx,h.1⟩⟩,rfl,iS rest _ _ rq h.2⟩
    ·rename_i hx;obtain⟨x,hc,hw⟩:=h;exact .inr ⟨rfl,.p x,H,.inr ⟨hg,hc1 rfl,h1,rfl,.inr ⟨x,rfl,hc,hall.trans hx⟩⟩,rfl,iS rest _ H rq hw⟩
   |b =>
    simp only at h;obtain⟨h1,h⟩:=h;have hno:abt own o=true:=by unfold bO at h1;rw[Bool.and_eq_true] at h1;exact h1.1
    split at h
    ·rename_i pre v H' hx;have:H'=sU H:=su h1 ((jY (H:=sU H) hno).trans hx);subst this;exact .inr ⟨rfl,v,H,.inr ⟨hg,hc1 rfl,h1,rfl,pre,hx,h.1⟩,rfl,iS rest _ _ rq h.2⟩
    ·exact h.elim
   |w =>
    simp only at h;split at h
    ·rename_i pre v H' hx;exact .inr ⟨rfl,v,H',.inr ⟨hg,hc1 rfl,pre,hx,h.1⟩,trivial,iS rest _ H' rq h.2⟩
    ·exact h.elim
   |s =>
    simp only at h;obtain⟨hp,h⟩:=h;split at h
    ·rename_i pre v H' hx;exact .inr ⟨rfl,v,H',.inr ⟨hg,ai7 λ_=>hp,pre,hx,h.1⟩,trivial,iS rest _ H' rq h.2⟩
    ·exact h.elim
   |f=>simp only at h;obtain⟨h1,v,H',hc,hw⟩:=h;exact .inr ⟨rfl,v,H',.inr ⟨hg,hc1 rfl,h1,hc⟩,trivial,iS rest _ H' rq hw⟩
   |t=>exact .inl ⟨rfl,.inr ⟨hg,akT (λe G hw=>iS rest e G rq hw) h⟩⟩
   |o =>
    simp only at h;obtain⟨h1,h⟩:=h;have hno:abt own o=true:=by unfold bO at h1;rw[Bool.and_eq_true] at h1;exact h1.1
    have hall:fW P own o (ev env) (pq own ops H)=gj P o (ev env) (pq own ops H):=jY hno;split at h
    ·rename_i pre v H' hx;have:H'=pq own ops H:=su h1 (hall.trans hx);subst this;exact .inr ⟨rfl,v,H,.inr ⟨hg,hc1 rfl,h1,rfl,.inl ⟨pre,hx,h.1⟩⟩,rfl,iS rest _ _ rq h.2⟩
    ·rename_i hx;obtain⟨x,hc,hw⟩:=h;exact .inr ⟨rfl,.p x,H,.inr ⟨hg,hc1 rfl,h1,rfl,.inr ⟨x,rfl,hc,hall.trans hx⟩⟩,rfl,iS rest _ H rq hw⟩
  ·rename_i hg;cases hc:isT c with
   |true=>exact .inl ⟨rfl,.inl ⟨hg,iS rest _ H rq h⟩⟩
   |false=>exact .inr ⟨rfl,.dQ [],H,.inl ⟨hg,rfl,rfl⟩,by cases c<;>trivial,iS rest _ H rq h⟩
  ·exact h.elim
def afm(N:Nat)(ops:Array Oper):Bool:=ops.toList.all λo=>match o.dst with
 |some d=>decide (d<N)
 |none=>true
theorem y4(h:afm N ops=true):∀ (i:Nat) o,ops[i]? = some o->wB N o.dst:=λi o ho=>by
 have:=List.all_eq_true.1 h o (by
  have:=Array.mem_of_getElem? ho;simpa using this)
 cases hd:o.dst with
 |none=>trivial
 |some d=>rw[hd] at this;show d<N;exact cm this
def awB(cs:List o7):List (Nat×o7):=(List.range cs.length).zip cs
def ace(N:Nat)(own:List Nat)(ops:Array Oper)(m:List Nat)(cs:List o7):Bool:=afi own ops m (awB cs)&&afm N ops&&cs.length == ops.size&&afl own ops (ops.toList.zip cs)
theorem aep{l:List Oper}{cs:List o7}(h:cs.length=l.length):((List.range cs.length).zip cs).filterMap (λx=>l.toArray[x.1]?)=l:=by
 have:((List.range cs.length).zip cs).filterMap (λx=>l.toArray[x.1]?)=(((List.range cs.length).zip cs).map (·.1)).filterMap (λi=>l.toArray[i]?):=by rw[List.filterMap_map];rfl
 rw[this,List.map_fst_zip (by simp),h];apply List.ext_getElem?;intro j;have hf:(List.range l.length).filterMap (λi=>l.toArray[i]?)=l:=by
  have e:∀k,k<=l.length->(List.range k).filterMap (λi=>l.toArray[i]?)=l.take k:=by
   intro k
   induction k with
   |zero=>intro _;simp
   |succ k ih =>
    intro hk;rw[List.range_succ,List.filterMap_append,ih (by omega),List.take_add_one];congr 1;have:l[k]? = some (l[k]'(by omega)):=by simp
    simp[this]
  rw[e l.length (Nat.le_refl _),List.take_length]
 rw[hf]
theorem asx{l:List Oper}(m:List Nat)(cs:List o7)(hok:ace N own l.toArray m cs=true)(hw:fZ P N own l.toArray (l.zip cs) K env H):vo P N own l.toArray K env H:=by
 unfold ace at hok;simp only[Bool.and_eq_true,beq_iff_eq] at hok;obtain⟨⟨⟨h1,h2⟩,h3⟩,h4⟩:=hok;have h3:cs.length=l.length:=by simpa using h3
 refine ahC m (awB cs) (l.zip cs) h1 ?_ ?_ (y4 h2) (iS _ _ _ (by simpa using h4) hw)
 ·rw[List.map_fst_zip (by omega)];exact (aep h3).symm
 ·rw[List.map_snd_zip (by omega)];unfold awB;rw[List.map_snd_zip (by simp)]
theorem asy{l:List Oper}(m:List Nat)(pc:List (Nat×o7))(hok:(afi own l.toArray m pc&&afm N l.toArray)=true)(os:List (Oper×o7))(hcl:afl own l.toArray os=true)(h1:os.map (·.1)=pc.filterMap (λx=>l.toArray[x.1]?))(h2:os.map (·.2)=pc.map (·.2))
  (hw:fZ P N own l.toArray os K env H):vo P N own l.toArray K env H:=by
 rw[Bool.and_eq_true] at hok;exact ahC m pc os hok.1 h1 h2 (y4 hok.2) (iS _ _ _ hcl hw)
def uz(P : Program)(N : Nat)(own : List Nat)(ops : Array Oper)(c : o7)(o : Oper)(rest : List (Oper × o7))(K : Env → ay → Prop)(env : Env)(H : ay) : Prop := match c with
   | .p=>mV o=true/\abt own o=true/\(match gj P o (ev env) ck with
    |some (pre,v,_)=>pre/\fZ P N own ops rest K (cI env o.dst v) H
    |none=>False)
   | .q=>bO own o=true/\(match gj P o (ev env) H with
    |some (pre,v,_)=>pre/\fZ P N own ops rest K (cI env o.dst v) H
    |none=>ahD P o (fZ P N own ops rest K) env H)
   | .b=>bO own o=true/\(match gj P o (ev env) (sU H) with
    |some (pre,v,_)=>pre/\fZ P N own ops rest K (cI env o.dst v) H
    |none=>False)
   | .o=>bO own o=true/\(match gj P o (ev env) (pq own ops H) with
    |some (pre,v,_)=>pre/\fZ P N own ops rest K (cI env o.dst v) H
    |none=>awA P own ops o (fZ P N own ops rest K) env H)
   | .w=>(match fW P own o (ev env) H with
    |some (pre,v,H')=>pre/\fZ P N own ops rest K (cI env o.dst v) H'
    |none=>False)
   | .s=>ahE own o env/\(match fW P own o (ev env) H with
    |some (pre,v,H')=>pre/\fZ P N own ops rest K (cI env o.dst v) H'
    |none=>False)
   | .f=>bO own o=true/\afk P own ops o (fZ P N own ops rest K) env H
   | .t=>opK P own o (fZ P N own ops rest K) env H
def an2(P:Program)(N:Nat)(own:List Nat)(ops:Array Oper)(r:Option (Prop×AV×ay))(o:Oper)(rest:List (Oper×o7))(K:Env->ay->Prop)(env:Env)(H:ay):Prop:=match r with
 |some (pre,v,H')=>pre/\fZ P N own ops rest K (cI env o.dst v) H'
 |none=>jm P o (fZ P N own ops rest K) env H
def awC(P:Program)(N:Nat)(own:List Nat)(ops:Array Oper)(r:Option (Prop×AV×ay))(o:Oper)(rest:List (Oper×o7))(K:Env->ay->Prop)(env:Env)(H:ay):Prop:=match r with
 |some (pre,v,_)=>pre/\fZ P N own ops rest K (cI env o.dst v) H
 |none=>awA P own ops o (fZ P N own ops rest K) env H
def vN(P : Program)(N : Nat)(own : List Nat)(ops : Array Oper)(g : Option Bool)(c : o7)(o : Oper)(rest : List (Oper × o7))(K : Env → ay → Prop)(env : Env)(H : ay) : Prop := match g with
  |some true=>uz P N own ops c o rest K env H
  |some false=>fZ P N own ops rest K (cI env o.dst (.dQ [])) H
  |none=>False
def an3(P:Program)(N:Nat)(own:List Nat)(ops:Array Oper)(r:Option (Prop×AV×ay))(o:Oper)(rest:List (Oper×o7))(K:Env->ay->Prop)(env:Env)(H:ay):Prop:=match r with
 |some (pre,v,_)=>pre/\fZ P N own ops rest K (cI env o.dst v) H
 |none=>ahD P o (fZ P N own ops rest K) env H
def an4(P:Program)(N:Nat)(own:List Nat)(ops:Array Oper)(r:Option (Prop×AV×ay))(o:Oper)(rest:List (Oper×o7))(K:Env->ay->Prop)(env:Env):Prop:=match r with
 |some (pre,v,H')=>pre/\fZ P N own ops rest K (cI env o.dst v) H'
 |none=>False
def an5(P:Program)(N:Nat)(own:List Nat)(ops:Array Oper)(r:Option (Prop×AV×ay))(o:Oper)(rest:List (Oper×o7))(K:Env->ay->Prop)(env:Env)(H:ay):Prop:=match r with
 |some (pre,v,_)=>pre/\fZ P N own ops rest K (cI env o.dst v) H
 |none=>False
section
variable(o:Oper)(rest:List (Oper×o7))
theorem asz:fZ P N own ops [] K env H=K env H:=rfl
theorem an6(c:o7):fZ P N own ops ((o,c) :: rest) K env H=(wB N o.dst/\vN P N own ops (mS ops o env) c o rest K env H):=by rw[fZ.eq_def];unfold vN uz;rfl
theorem akY(c:o7):vN P N own ops (some true) c o rest K env H=uz P N own ops c o rest K env H:=rfl
theorem ai8(c:o7):vN P N own ops (some false) c o rest K env H=fZ P N own ops rest K (cI env o.dst (.dQ [])) H:=rfl
theorem awD:uz P N own ops .p o rest K env H=(mV o=true/\abt own o=true/\an5 P N own ops (gj P o (ev env) ck) o rest K env H):=rfl
theorem awE:uz P N own ops .q o rest K env H=(bO own o=true/\an3 P N own ops (gj P o (ev env) H) o rest K env H):=rfl
theorem awF:uz P N own ops .b o rest K env H=(bO own o=true/\an5 P N own ops (gj P o (ev env) (sU H)) o rest K env H):=rfl
theorem awG:uz P N own ops .w o rest K env H=an4 P N own ops (fW P own o (ev env) H) o rest K env:=rfl
theorem awH:uz P N own ops .o o rest K env H=(bO own o=true/\awC P N own ops (gj P o (ev env) (pq own ops H)) o rest K env H):=rfl
theorem awI:uz P N own ops .s o rest K env H=(ahE own o env/\an4 P N own ops (fW P own o (ev env) H) o rest K env):=rfl
theorem awJ:uz P N own ops .f o rest K env H=(bO own o=true/\afk P own ops o (fZ P N own ops rest K) env H):=rfl
theorem awK:uz P N own ops .t o rest K env H=an2 P N own ops (fW P own o (ev env) H) o rest K env H:=rfl
theorem akZ(pre:Prop)(v:AV)(H':ay):an2 P N own ops (some (pre,v,H')) o rest K env H=(pre/\fZ P N own ops rest K (cI env o.dst v) H'):=rfl
theorem ak0:an2 P N own ops none o rest K env H=jm P o (fZ P N own ops rest K) env H:=rfl
attribute [go_sem] awK akZ ak0
theorem ak1(pre:Prop)(v:AV)(H':ay):awC P N own ops (some (pre,v,H')) o rest K env H=(pre/\fZ P N own ops rest K (cI env o.dst v) H):=rfl
theorem ak2(pre:Prop)(v:AV)(H':ay):an5 P N own ops (some (pre,v,H')) o rest K env H=(pre/\fZ P N own ops rest K (cI env o.dst v) H):=rfl
theorem ak3(pre:Prop)(v:AV)(H':ay):an3 P N own ops (some (pre,v,H')) o rest K env H=(pre/\fZ P N own ops rest K (cI env o.dst v) H):=rfl
theorem ak4:an3 P N own ops none o rest K env H=ahD P o (fZ P N own ops rest K) env H:=rfl
theorem ak5(pre:Prop)(v:AV)(H':ay):an4 P N own ops (some (pre,v,H')) o rest K env=(pre/\fZ P N own ops rest K (cI env o.dst v) H'):=rfl
end
section
variable(d:Option Tmp)(t u:TypeId)(pos:String)(af:Array Edge)(g:Option (Nat×Bool))
def pz(own:List Nat):Option Tmp->Bool
 |some d=>!own.contains d
 |none=>true
theorem asA(k:Nat):pz own (some k) = !own.contains k:=rfl
theorem asB(o:Oper):abt own o=pz own o.dst:=rfl
theorem ak6(e:TypeId)(k:Nat)(x:Operand):ahE own ⟨d,.store e (.tmp k) x,t,pos,af,g⟩ env = ∃off,env k = .ptr k off:=rfl
theorem aAr(own:List Nat)(ops:Array Oper)(H:ay)(i:Nat):pq own ops H i=if lD own ops i=true then none else H i:=rfl
def bxC:Option Chunk->Option Chunk
 |some (.box cs)=>some (.box cs)
 |_=>none
theorem aAs(H:ay)(i:Nat):sU H i=bxC (H i):=by
 unfold sU bxC;cases H i with
 |none=>rfl
 |some c=>cases c<;>rfl
theorem aAt(cs:List AV):bxC (some (.box cs))=some (.box cs):=rfl
theorem ak7(x:Operand):mV ⟨d,.move x,t,pos,af,g⟩=true:=rfl
theorem agU(x:Operand):mV ⟨d,.assign x,t,pos,af,g⟩=true:=rfl
theorem ak8(x y z:Operand):mV ⟨d,.pick x y z,t,pos,af,g⟩=true:=rfl
theorem ak9(x:Operand):mV ⟨d,.load u x,t,pos,af,g⟩=true:=rfl
theorem adl(x:Operand)(k:Nat):mV ⟨d,.fieldAddr u x k,t,pos,af,g⟩=true:=rfl
theorem adm(x y:Operand):mV ⟨d,.indexAddr u x y,t,pos,af,g⟩=true:=rfl
theorem afn(x:Operand)(k:Nat):mV ⟨d,.extract x k,t,pos,af,g⟩=true:=rfl
theorem ai9(op:BinOp)(x y:Operand)(v:TypeId):mV ⟨d,.binOp op u x y v,t,pos,af,g⟩=true:=rfl
theorem ala(op:UnOp)(x:Operand):mV ⟨d,.unOp op u x,t,pos,af,g⟩=true:=rfl
theorem aja(x:Array (Nat×Operand)):mV ⟨d,.build u x,t,pos,af,g⟩=true:=rfl
theorem acf(n:Nat)(x:Array (Nat×Operand)):mV ⟨d,.buildSlice u n x,t,pos,af,g⟩=true:=rfl
theorem ajb(x:Operand)(l h m:Option Operand):mV ⟨d,.slice u x l h m,t,pos,af,g⟩=true:=rfl
theorem aeq(x:Operand):mV ⟨d,.nilCheck x,t,pos,af,g⟩=true:=rfl
theorem alb(c:Call):mV ⟨d,.call c,t,pos,af,g⟩=true:=rfl
theorem quiet_move(x:Operand):bO own ⟨d,.move x,t,pos,af,g⟩=pz own d:=by cases d<;>simp only[bO,pz,Bool.and_true]
theorem quiet_assign(x:Operand):bO own ⟨d,.assign x,t,pos,af,g⟩=pz own d:=by cases d<;>simp only[bO,pz,Bool.and_true]
theorem an7(x y z:Operand):bO own ⟨d,.pick x y z,t,pos,af,g⟩=pz own d:=by cases d<;>simp only[bO,pz,Bool.and_true]
theorem an8(x:Operand):bO own ⟨d,.load u x,t,pos,af,g⟩=pz own d:=by cases d<;>simp only[bO,pz,Bool.and_true]
theorem aer(x:Operand)(k:Nat):bO own ⟨d,.fieldAddr u x k,t,pos,af,g⟩=pz own d:=by cases d<;>simp only[bO,pz,Bool.and_true]
theorem aes(x y:Operand):bO own ⟨d,.indexAddr u x y,t,pos,af,g⟩=pz own d:=by cases d<;>simp only[bO,pz,Bool.and_true]
theorem agV(x:Operand)(k:Nat):bO own ⟨d,.extract x k,t,pos,af,g⟩=pz own d:=by cases d<;>simp only[bO,pz,Bool.and_true]
theorem alc(op:BinOp)(x y:Operand)(v:TypeId):bO own ⟨d,.binOp op u x y v,t,pos,af,g⟩=pz own d:=by cases d<;>simp only[bO,pz,Bool.and_true]
theorem an9(op:UnOp)(x:Operand):bO own ⟨d,.unOp op u x,t,pos,af,g⟩=pz own d:=by cases d<;>simp only[bO,pz,Bool.and_true]
theorem agW(x:Operand)(v:TypeId):bO own ⟨d,.convert u v x,t,pos,af,g⟩=pz own d:=by cases d<;>simp only[bO,pz,Bool.and_true]
theorem ald(x:Array (Nat×Operand)):bO own ⟨d,.build u x,t,pos,af,g⟩=pz own d:=by cases d<;>simp only[bO,pz,Bool.and_true]
theorem ale(x:Operand)(l h m:Option Operand):bO own ⟨d,.slice u x l h m,t,pos,af,g⟩=pz own d:=by cases d<;>simp only[bO,pz,Bool.and_true]
theorem afo(x:Operand):bO own ⟨d,.nilCheck x,t,pos,af,g⟩=pz own d:=by cases d<;>simp only[bO,pz,Bool.and_true]
theorem alf(f:Operand)(xs:Array Operand)(ts:Array TypeId):bO own ⟨d,.call ⟨.value f,xs,ts⟩,t,pos,af,g⟩=pz own d:=by cases d<;>simp only[bO,pz,Bool.and_true]
theorem asC(xs:Array Operand)(ts:Array TypeId):bO own ⟨d,.call ⟨.builtin .len,xs,ts⟩,t,pos,af,g⟩=pz own d:=by cases d<;>simp only[bO,pz,Bool.and_true]
end
def jS(o:Oper)(ρ:Operand->AV)(H:ay):Option (FuncId×List PV×Bool):=match dI o ρ with
 |some (k,eR)=>(match eu (gA H) eR with
  |some (ps,b)=>some (k,ps,b)
  |none=>none)
 |none=>none
def afp(k:FuncId)(r:Option (List PV×Bool)):Option (FuncId×List PV×Bool):=match r with
 |some (ps,b)=>some (k,ps,b)
 |none=>none
def ajc(f:AV)(eR:List AV)(H:ay):Option (FuncId×List PV×Bool):=match f with
 | .p (.ir (.func k) fs cs)=>afp k (eu (gA H) (fs.map AV.p++eR++cs.map AV.p))
 | .ir (.func k) fs cs=>afp k (eu (gA H) (fs++eR++cs))
 |_=>none
theorem ajd(d:Option Tmp)(t:TypeId)(pos:String)(af:Array Edge)(g:Option (Nat×Bool))(f:Operand)(xs:Array Operand)(ts:Array TypeId)(ρ:Operand->AV) :
  jS ⟨d,.call ⟨.value f,xs,ts⟩,t,pos,af,g⟩ ρ H=ajc (ρ f) (xs.toList.map ρ) H:=by
 unfold jS dI ajc;simp only[];cases ρ f with
 |p x=>cases x with
  |ir fn fs cs=>cases fn<;>rfl
  |_=>rfl
 |ir fn fs cs=>cases fn<;>rfl
 |_=>rfl
theorem awL(k:FuncId)(fs cs:List PV)(eR:List AV):ajc (.p (.ir (.func k) fs cs)) eR H=afp k (eu (gA H) (fs.map AV.p++eR++cs.map AV.p)):=rfl
theorem aoa(k:FuncId)(fs cs eR:List AV):ajc (.ir (.func k) fs cs) eR H=afp k (eu (gA H) (fs++eR++cs)):=rfl
theorem alg(k:FuncId)(ps:List PV)(b:Bool):afp k (some (ps,b))=some (k,ps,b):=rfl
theorem acg{o:Oper}{ρ:Operand->AV}{k:FuncId}{ps:List PV}{b:Bool}{x:PV}(c:aS P k ps λr=>r=x)(he:jS o ρ H=some (k,ps,b))(hb:b=true->x.scalar=true):yS P o ρ H x:=by
 unfold jS at he;cases ha:dI o ρ with
 |none=>rw[ha] at he;cases he
 |some r =>
  obtain⟨k',eR⟩:=r;rw[ha] at he;simp only[] at he;cases hl:eu (gA H) eR with
  |none=>rw[hl] at he;cases he
  |some q=>obtain⟨ps',b'⟩:=q;rw[hl] at he;simp only[cv,iw] at he;obtain⟨rfl,rfl,rfl⟩:=he;exact⟨_,eR,_,_,ha,hl,c,hb⟩
theorem aY{o:Oper}{W:Env->ay->Prop}{k:FuncId}{ps:List PV}{b:Bool}{x:PV}(c:aS P k ps λr=>r=x)(he:jS o (ev env) H=some (k,ps,b))(hb:b=true->x.scalar=true)
  (hW:W (cI env o.dst (.p x)) H):jm P o W env H:=.inl (.inl ⟨[],xk (acg c he hb) hW⟩)
theorem jD{o:Oper}{W:Env->ay->Prop}{k:FuncId}{ps:List PV}{b:Bool}{x:PV}(c:aS P k ps λr=>r=x)(he:jS o (ev env) H=some (k,ps,b))(hb:b=true->x.scalar=true)
  (hW:W (cI env o.dst (.p x)) H):ahD P o W env H:=⟨x,acg c he hb,hW⟩
theorem asD{o:Oper}{W:Env->ay->Prop}{k:FuncId}{ps:List PV}{b:Bool}{x:PV}(ids:List Nat)(c:aS P k ps λr=>r=x)(he:jS o (ev env) (dg ids H)=some (k,ps,b))(hb:b=true->x.scalar=true)
  (hW:W (cI env o.dst (.p x)) (dg ids H)):jm P o W env H:=.inl (.inl ⟨ids,xk (acg c he hb) hW⟩)
theorem sv{o:Oper}{W:Env->ay->Prop}{k:FuncId}{ps:List PV}{b:Bool}{Q:PV->Prop}(c:aS P k ps Q)(he:jS o (ev env) H=some (k,ps,b))
  (hW:∀r,Q r->(b=true->r.scalar=true)/\W (cI env o.dst (.p r)) H):jm P o W env H:=by
 unfold jS at he;cases ha:dI o (ev env) with
 |none=>rw[ha] at he;cases he
 |some r =>
  obtain⟨k',eR⟩:=r;rw[ha] at he;simp only[] at he;cases hl:eu (gA H) eR with
  |none=>rw[hl] at he;cases he
  |some q=>obtain⟨ps',b'⟩:=q;rw[hl] at he;simp only[cv,iw] at he;obtain⟨rfl,rfl,rfl⟩:=he;exact .inl (.inl ⟨[],_,eR,_,_,Q,ha,hl,c,hW⟩)
theorem awM{o:Oper}{W:Env->ay->Prop}{k:FuncId}{ps:List PV}{x:PV}(c:aCf P k ps x)(he:dI o (ev env)=some (k,ps.map AV.p))(hW:W (cI env o.dst (.p x)) H):jm P o W env H:=.inl (.inr (.inl ⟨k,ps,x,he,c,hW⟩))
theorem b6{b:Bool}{x:PV}(h:x.scalar=true):b=true->x.scalar=true:=λ_=>h
theorem yz{x:PV} : false=true->x.scalar=true:=λh=>by cases h
def nwH(o:Oper)(k:Nat):Bool:=o.dst == some k&&match o.op with
 | .alloc _=>true
 | .box ..=>true
 | .buildSlice ..=>true
 | .makeSlice ..=>true
 |_=>false
theorem asE(k:Nat):lD own (List.toArray []) k=own.contains (2000000+k):=rfl
theorem aob(o:Oper)(l:List Oper)(k:Nat):lD own (List.toArray (o :: l)) k=(nwH o k||lD own (List.toArray l) k):=by unfold lD;simp only[List.any_cons,Bool.or_assoc];try rfl
section
variable(d:Option Tmp)(t u:TypeId)(pos:String)(af:Array Edge)(g:Option (Nat×Bool))
theorem asF(j k:Nat):nwH ⟨some j,.alloc u,t,pos,af,g⟩ k=(j == k):=by unfold nwH;simp only[Bool.and_true];rw[Bool.eq_iff_iff];simp
theorem awN(x:Operand)(k0:Nat):nwH ⟨d,.move x,t,pos,af,g⟩ k0=false:=by unfold nwH;simp only[Bool.and_false]
theorem aoc(x:Operand)(k0:Nat):nwH ⟨d,.assign x,t,pos,af,g⟩ k0=false:=by unfold nwH;simp only[Bool.and_false]
theorem awO(x y z:Operand)(k0:Nat):nwH ⟨d,.pick x y z,t,pos,af,g⟩ k0=false:=by unfold nwH;simp only[Bool.and_false]
theorem awP(x:Operand)(k0:Nat):nwH ⟨d,.load u x,t,pos,af,g⟩ k0=false:=by unfold nwH;simp only[Bool.and_false]
theorem agX(x:Operand)(k:Nat)(k0:Nat):nwH ⟨d,.fieldAddr u x k,t,pos,af,g⟩ k0=false:=by unfold nwH;simp only[Bool.and_false]
theorem agY(x y:Operand)(k0:Nat):nwH ⟨d,.indexAddr u x y,t,pos,af,g⟩ k0=false:=by unfold nwH;simp only[Bool.and_false]
theorem alh(x:Operand)(k:Nat)(k0:Nat):nwH ⟨d,.extract x k,t,pos,af,g⟩ k0=false:=by unfold nwH;simp only[Bool.and_false]
theorem asG(op:BinOp)(x y:Operand)(v:TypeId)(k0:Nat):nwH ⟨d,.binOp op u x y v,t,pos,af,g⟩ k0=false:=by unfold nwH;simp only[Bool.and_false]
theorem asH(x:Array (Nat×Operand))(k0:Nat):nwH ⟨d,.build u x,t,pos,af,g⟩ k0=false:=by unfold nwH;simp only[Bool.and_false]
theorem afq(n:Nat)(x:Array (Nat×Operand))(j k:Nat):nwH ⟨some j,.buildSlice u n x,t,pos,af,g⟩ k=(j == k):=by unfold nwH;simp only[Bool.and_true];rw[Bool.eq_iff_iff];simp
theorem awQ(c:Call)(k0:Nat):nwH ⟨d,.call c,t,pos,af,g⟩ k0=false:=by unfold nwH;simp only[Bool.and_false]
theorem asI(x y:Operand)(k0:Nat):nwH ⟨d,.store u x y,t,pos,af,g⟩ k0=false:=by unfold nwH;simp only[Bool.and_false]
end
attribute [go_sem] asE aob asF awN aoc awO awP agX agY alh asG asH afq awQ asI Bool.false_or Bool.or_false Bool.true_or Bool.or_true awH awI awJ ak1 ak6 anY akR AV.ptr.injEq aAr ajd awL aoa alg asz an6 akY ai8 awD awE awF awG aAs aAt ak2 ak3 ak4 ak5 asB asA List.contains_cons List.contains_nil ak7 agU ak8 ak9 adl adm afn ai9 ala aja acf ajb aeq alb quiet_move quiet_assign an7 an8 aer aes agV alc an9 agW ald ale afo alf asC List.zip_cons_cons List.zip_nil_left
end Go.cq
namespace Go.cq
open Go.RowKit
variable{P:Program}{t:TypeId}
theorem awR(d:Int):bnd d none=some d:=rfl
theorem aAu(d:Int)(k:IntKind)(n:Int):bnd d (some (.p (.val (.int k n))))=some n:=rfl
def slS(a b:Option Int)(s:ByteArray):Option (Prop×AV):=match a,b with
 |some l,some h=>some (0<=l/\l<=h/\h<=s.size,.p (.val (.string (s.extract l.toNat h.toNat))))
 |_,_=>none
theorem aod{s:ByteArray}{lo hi:Option AV}(h:yI P t=true):sP P t (.p (.val (.string s))) lo hi none=slS (bnd 0 lo) (bnd s.size hi) s:=by unfold sP slS;simp only[h];all_goals(cases bnd 0 lo<;>cases bnd s.size hi<;>rfl)
theorem awS(l h:Int)(s:ByteArray):slS (some l) (some h) s=some (0<=l/\l<=h/\h<=s.size,.p (.val (.string (s.extract l.toNat h.toNat)))):=rfl
def slL(e:Option TypeId)(f:TypeId->Option Nat)(a b:Option Int)(es:List (List PV)):Option (Prop×AV):=match e,a,b with
 |some e,some l,some h=>(match f e with
  |some sz=>some ((0<=l/\l<=h/\h<=es.length)/\∀x∈es,x.length=sz,.p (.aV ((es.take h.toNat).drop l.toNat)))
  |none=>none)
 |_,_,_=>none
theorem aoe{es:List (List PV)}{lo hi:Option AV} : sP P t (.p (.aV es)) lo hi none=slL (cM P t) (bz P) (bnd 0 lo) (bnd es.length hi) es:=by unfold sP slL;simp only[];all_goals(cases cM P t<;>cases bnd 0 lo<;>cases bnd es.length hi<;>rfl)
theorem awT(e:TypeId)(f:TypeId->Option Nat)(l h:Int)(es:List (List PV)):slL (some e) f (some l) (some h) es=(match f e with
  |some sz=>some ((0<=l/\l<=h/\h<=es.length)/\∀x∈es,x.length=sz,.p (.aV ((es.take h.toNat).drop l.toNat)))
  |none=>none):=rfl
theorem awU(i:Nat):ck i=none:=rfl
attribute [go_sem] awU awR aAu aod awS aoe awT Option.map_none Option.map_some
theorem dx{N:Nat}{own:List Nat}{K:Env->ay->Prop}{env:Env}{H:ay}{l:List Oper}(cs:List o7)(hok:ace N own l.toArray (masks l.toArray) cs=true)(hw:fZ P N own l.toArray (l.zip cs) K env H):vo P N own l.toArray K env H:=asx (masks l.toArray) cs hok hw
theorem VR.aAv{I:Mem}{v:Value}(h:VR I v (.val (.slice none 0 0))):VR I v (.aV []):=by cases h;exact .aV none 0 0 [] [] 1 rfl (by simp) rfl (by simp) (by simp) (.inl rfl) (λ_=>⟨rfl,rfl⟩) (Nat.le_refl _)
theorem VR.aAw{I:Mem}{v:Value}(h:VR I v .emp):VR I v (.aV []):=by cases h;rename_i a;exact .aV a 0 0 [] [] 1 rfl (by simp) rfl (by simp) (by simp) (.inl rfl) (λ_=>⟨rfl,rfl⟩) (Nat.le_refl _)
def PLe(p' p:PV):Prop:=∀I v,VR I v p'->VR I v p
theorem PLe.refl(p:PV):PLe p p:=λ_ _ h=>h
theorem PLe.nil:PLe (.val (.slice none 0 0)) (.aV []):=λ_ _ h=>h.aAv
theorem PLe.emp:PLe .emp (.aV []):=λ_ _ h=>h.aAw
def sx:List PV->List PV->Prop
 | [],[]=>True
 |a :: r,b :: s=>PLe a b/\sx r s
 |_,_=>False
theorem sx.vrs{I:Mem} : ∀ {ps' ps:List PV},sx ps' ps->∀ {vs:List Value},VRs I vs ps'->VRs I vs ps
 | [],[],_,vs,h=>h
 | [],_ :: _,h,_,_=>h.elim
 |_ :: _,[],h,_,_=>h.elim
 |a :: r,b :: s,h,[],hv=>by have:=hv.1;simp at this
 |a :: r,b :: s,h,v :: vs,hv=>by
  have ih:=sx.vrs (I:=I) h.2 (vs:=vs) ⟨by simpa using hv.1,λj u c hu hc=>hv.2 (j+1) u c hu hc⟩;refine⟨by simpa using ih.1,λj u c hu hc=>?_⟩;cases j with
  |zero=>simp at hu hc;subst hu hc;exact h.1 _ _ (hv.2 0 v a rfl rfl)
  |succ j=>exact ih.2 j u c (by simpa using hu) (by simpa using hc)
theorem aS.args{f:FuncId}{ps ps':List PV}{Q:PV->Prop}(h:aS P f ps Q)(hp:sx ps' ps):aS P f ps' Q:=⟨h.1,λI w vs hI hv=>h.2 I w vs hI (hp.vrs hv)⟩
end Go.cq
namespace Go.cq
open Go.RowKit
variable{P:Program}{own:List Nat}{env:Env}{H:ay}
def x9(l:List Oper):List (Nat×o7)->List (Oper×o7)
 | []=>[]
 |(i,c) :: r=>(match l[i]? with
  |some o=>(o,c) :: x9 l r
  |none=>x9 l r)
theorem asJ(l:List Oper):x9 l []=[]:=rfl
theorem abu(l:List Oper)(i:Nat)(c:o7)(r:List (Nat×o7)):x9 l ((i,c) :: r)=(match l[i]? with
  |some o=>(o,c) :: x9 l r
  |none=>x9 l r):=rfl
theorem adn(l:List Oper):∀pc:List (Nat×o7),(x9 l pc).map (·.1)=pc.filterMap (λx=>l.toArray[x.1]?)
 | []=>rfl
 |(i,c) :: r=>by
  rw[abu,List.filterMap_cons];cases h:l[i]? with
  |none=>simp[h,adn l r]
  |some o=>simp[h,adn l r]
theorem ahF(l:List Oper):∀pc:List (Nat×o7),(pc.all λx=>decide (x.1<l.length))=true->(x9 l pc).map (·.2)=pc.map (·.2)
 | [],_=>rfl
 |(i,c) :: r,h=>by simp only[List.all_cons,Bool.and_eq_true,decide_eq_true_eq] at h;rw[abu,List.getElem?_eq_getElem h.1];simp[ahF l r h.2]
def aof(N:Nat)(own:List Nat)(l:List Oper)(pc:List (Nat×o7)):Bool:=afi own l.toArray (masks l.toArray) pc&&afm N l.toArray&&afl own l.toArray (x9 l pc)&&pc.all λx=>decide (x.1<l.length)
theorem aje{N:Nat}{K:Env->ay->Prop}{l:List Oper}(pc:List (Nat×o7))(hok:aof N own l pc=true)(hw:fZ P N own l.toArray (x9 l pc) K env H):vo P N own l.toArray K env H:=by unfold aof at hok;rw[Bool.and_eq_true,Bool.and_eq_true] at hok;exact asy (masks l.toArray) pc hok.1.1 (x9 l pc) hok.1.2 (adn l pc) (ahF l pc hok.2) hw
def nG(c:Option Chunk)(r:Option (Prop×AV×ay)):Option (Prop×AV×ay):=match c with
 |some _=>none
 |none=>r
theorem awV(r:Prop×AV×ay)(b:Bool)(y:Option (Prop×AV×ay)):orE (some r) b y=some r:=rfl
theorem aDw(y:Option (Prop×AV×ay)):orE none true y=y:=rfl
theorem asK(t:TypeId)(n:Nat)(ps:Array (Nat×Operand)):isApp (.buildSlice t n ps)=false:=rfl
theorem asL(xs:Array Operand)(ts:Array TypeId):isApp (.call ⟨.builtin .append,xs,ts⟩)=true:=rfl
theorem aog(f:Operand)(xs:Array Operand)(ts:Array TypeId):isApp (.call ⟨.value f,xs,ts⟩)=false:=rfl
theorem aAx(r:Option (Prop×AV×ay)):nG none r=r:=rfl
def aAy(P:Program)(r:Option (TypeId×List (List PV)))(d:Nat)(H:ay)(n:Nat)(c:Option (TypeId×List AV)):Option (Prop×AV×ay):=match r with
 |some (e,es)=>(match bz P e with
  |some sz=>some (True,.row d 0,bk H d (.row 0 e sz es))
  |none=>none)
 |none=>(match c with
  |some (_,cs)=>some (True,.bsl d n,bk H d (.box cs))
  |none=>none)
theorem asM(d n:Nat)(e:TypeId)(cs:List AV):aAy P none d H n (some (e,cs))=some (True,.bsl d n,bk H d (.box cs)):=rfl
theorem asN(e:TypeId)(es:List (List PV))(d n:Nat)(c:Option (TypeId×List AV)):aAy P (some (e,es)) d H n c=(match bz P e with
  |some sz=>some (True,.row d 0,bk H d (.row 0 e sz es))
  |none=>none):=rfl
def aIF(P:Program)(e:Option TypeId)(a b:AV)(d:Nat)(H:ay):Option (Prop×AV×ay):=match a,b,e with
 | .p (.val (.int _ n)), .p (.val (.int _ m)), some e => (match bz P e, cN P e, abU P e with
    | some sz, some zs, some qR => if zs.length = sz ∧ 0 < sz ∧ 0 < qR ∧ zs.all (·.oneCell') = true then
      some ((0<=n/\m=n)/\n * qR<=140737488355328,.row d 0,bk H d (.row 0 e sz (List.replicate n.toNat (zs.map PV.val)))) else none
    |_,_,_=>none)
 |_,_,_=>none
def aAz(a:AV)(ty:Option (TypeId×Nat×Nat))(b:Option (List (List PV)))(d:Nat)(H:ay):Option (Prop×AV×ay):=match a,ty,b with
 | .p (.val (.slice none 0 0)),some (e,sz,qR),some es=>some (es.length * qR<=140737488355328/\∀x∈es,x.length=sz,.row d 0,bk H d (.row 0 e sz es))
 |_,_,_=>none
theorem awW(i v:Nat)(ty:Option (TypeId×Nat×Nat))(b:Option (List (List PV)))(d:Nat):aAz (.row i v) ty b d H=none:=rfl
theorem asO(e:TypeId)(sz qR:Nat)(es:List (List PV))(d:Nat):aAz (.p (.val (.slice none 0 0))) (some (e,sz,qR)) (some es) d H=some (es.length * qR<=140737488355328/\∀x∈es,x.length=sz,.row d 0,bk H d (.row 0 e sz es)):=rfl
section
variable(dd:Option Tmp)(ty:TypeId)(pos:String)(af:Array Edge)(g:Option (Nat×Bool))(ρ:Operand->AV)
theorem aAA(t:TypeId)(n:Nat)(ps:Array (Nat×Operand))(d:Nat):exN P ⟨dd,.buildSlice t n ps,ty,pos,af,g⟩ ρ H d=nG (H d) (aAy P (lM P t n (ps.toList.map λx=>(x.1,ρ x.2))) d H n (vm P t n (ps.toList.map λx=>(x.1,ρ x.2)))):=by
 unfold exN nG aAy;cases H d with
 |some c=>rfl
 |none=>rfl
theorem aAB(t1 t2:TypeId)(a b:Operand)(d:Nat):exN P ⟨dd,.call ⟨.builtin .append,#[a,b],#[t1,t2]⟩,ty,pos,af,g⟩ ρ H d=nG (H d) (aAz (ρ a) (dw P t1 t2) (vn H (ρ b)) d H):=by
 unfold exN nG aAz;cases H d with
 |some c=>rfl
 |none=>rfl
end
def aBM(H:ay)(Q:RV->Prop)(a:Option AV):Prop:=match a with
 | some a => (match pR H a with
   |some (r,ids)=>ids.Nodup/\∃r',RLe r r'/\Q r'
   |none=>False)
 |none=>False
theorem awX(rs:List ResultVar)(Q:RV->Prop):aCj P rs Q .ret env H=aBM H Q (pe P env H rs):=rfl
def aBN(Q : RV → Prop)(x : Option (RV × List Nat)) : Prop := match x with
   |some (r,ids)=>ids.Nodup/\∃r',RLe r r'/\Q r'
   |none=>False
theorem aoh(a:AV)(Q:RV->Prop):aBM H Q (some a)=aBN Q (pR H a):=rfl
theorem aoi(Q:RV->Prop)(r:RV)(ids:List Nat):aBN Q (some (r,ids))=(ids.Nodup/\∃r',RLe r r'/\Q r'):=rfl
theorem aCv(x:PV):pR H (.p x)=some (.p x,[]):=by simp only[pR]
def rvR(c : Option Chunk)(id bf : Nat) : Option (RV × List Nat) := match c with
  |some (.row v e sz es)=>if v=bf then some (.row e sz es,[id]) else none
  |some (.shut v es)=>if v=bf then some (.p (.aV es),[]) else none
  |_=>none
theorem awY(id bf:Nat):pR H (.row id bf)=rvR (H id) id bf:=by unfold rvR;simp only[pR];try rfl
theorem aAC(v:Nat)(e:TypeId)(sz:Nat)(es:List (List PV))(id bf:Nat):rvR (some (.row v e sz es)) id bf=if v=bf then some (.row e sz es,[id]) else none:=rfl
theorem awZ(cs:List AV):pR H (.agg cs)=(match wD H cs with
  |some (rs,ids)=>some (.agg rs,ids)
  |none=>none):=by simp only[pR];try rfl
theorem aw0(cs:List AV):pR H (.dQ cs)=(match wD H cs with
  |some (rs,ids)=>some (.dQ rs,ids)
  |none=>none):=by simp only[pR];try rfl
theorem asP:wD H []=some ([],[]):=by simp only[wD]
theorem aoj(a:AV)(r:List AV):wD H (a :: r)=(match pR H a,wD H r with
  |some (x,i),some (xs,j)=>some (x :: xs,i++j)
  |_,_=>none):=by simp only[wD];try rfl
theorem aw1(k:Nat)(x:PV):cO k (.p x)=(.p x,k):=by simp only[cO]
theorem aok(k:Nat)(e:TypeId)(sz:Nat)(es:List (List PV)):cO k (.row e sz es)=(.row k 0,k+1):=by simp only[cO]
theorem aol(k:Nat)(rs:List RV):cO k (.agg rs)=(xZ (js k rs).1,(js k rs).2):=by simp only[cO]
theorem aom(k:Nat)(rs:List RV):cO k (.dQ rs)=(.dQ (js k rs).1,(js k rs).2):=by simp only[cO]
theorem aon(k:Nat):js k []=([],k):=by simp only[js]
theorem ali(k:Nat)(r:RV)(rs:List RV):js k (r :: rs)=((cO k r).1 :: (js (cO k r).2 rs).1,(js (cO k r).2 rs).2):=by simp only[js]
theorem aw2(k:Nat)(x:PV):gi k H (.p x)=H:=by simp only[gi]
theorem aoo(k:Nat)(e:TypeId)(sz:Nat)(es:List (List PV)):gi k H (.row e sz es)=bk H k (.row 0 e sz es):=by simp only[gi]
theorem aop(k:Nat)(rs:List RV):gi k H (.agg rs)=kU k H rs:=by simp only[gi]
theorem aoq(k:Nat)(rs:List RV):gi k H (.dQ rs)=kU k H rs:=by simp only[gi]
theorem alj(k:Nat):kU k H []=H:=by simp only[kU]
theorem ajf(k:Nat)(r:RV)(rs:List RV):kU k H (r :: rs)=kU (cO k r).2 (gi k H r) rs:=by simp only[kU]
def lV(H:ay)(id:Nat):Nat->Prop
 |0=>True
 |n+1=>H id=none/\lV H (id+1) n
theorem asQ(id:Nat):lV H id 1=(H id=none/\True):=rfl
theorem asR(id:Nat):lV H id 2=(H id=none/\H (id+1)=none/\True):=rfl
theorem alk(id:Nat):lV H id 3=(H id=none/\H (id+1)=none/\H (id+1+1)=none/\True):=rfl
theorem aor(id:Nat):lV H id 4=(H id=none/\H (id+1)=none/\H (id+1+1)=none/\H (id+1+1+1)=none/\True):=rfl
theorem abv:∀ (n id:Nat),lV H id n->∀i,id<=i->i<id+n->H i=none
 |0,id,_,i,h1,h2=>by omega
 |n+1,id,h,i,h1,h2=>by
  by_cases e:i=id
  ·rw[e];exact h.1
  ·exact abv n (id+1) h.2 i (by omega) (by omega)
section
variable{o:Oper}{W:Env->ay->Prop}{k:FuncId}{ps:List PV}{b:Bool}
theorem ajg(he:jS o (ev env) H=some (k,ps,b)):∃eR,dI o (ev env)=some (k,eR)/\eu (gA H) eR=some (ps,b):=by
 unfold jS at he;cases ha:dI o (ev env) with
 |none=>rw[ha] at he;cases he
 |some r =>
  obtain⟨k',eR⟩:=r;rw[ha] at he;simp only[] at he;cases hl:eu (gA H) eR with
  |none=>rw[hl] at he;cases he
  |some q=>obtain⟨ps',b'⟩:=q;rw[hl] at he;simp only[cv,iw] at he;obtain⟨rfl,rfl,rfl⟩:=he;exact⟨eR,rfl,hl⟩
theorem ahG(ids:List Nat)(id:Nat){Q:RV->Prop}(c:br P k ps Q)(he:jS o (ev env) (dg ids H)=some (k,ps,b))
  (hW:∀r,Q r->(b=true->r.flat=true)/\lV (dg ids H) id ((cO id r).2-id)/\W (cI env o.dst (cO id r).1) (gi id (dg ids H) r)):jm P o W env H:=by
 obtain⟨eR,h1,h2⟩:=ajg he;refine .inl (.inr (.inr ⟨ids,.inl ⟨k,eR,ps,b,Q,id,h1,h2,c,λr hr=>?_⟩⟩));obtain⟨q1,q2,q3⟩:=hW r hr;exact⟨q1,λi hi1 hi2=>abv _ id q2 i hi1 (by omega),q3⟩
theorem wF(id:Nat){r:RV}(c:br P k ps λx=>x=r)(he:jS o (ev env) H=some (k,ps,b))(hb:b=true->r.flat=true)
  (hf:lV H id ((cO id r).2-id)) (hW:W (cI env o.dst (cO id r).1) (gi id H r)):jm P o W env H :=
 ahG [] id c he λx hx=>by subst hx;exact⟨hb,hf,hW⟩
theorem aos(ids:List Nat)(id:Nat){r:RV}(c:br P k ps λx=>x=r)(he:jS o (ev env) (dg ids H)=some (k,ps,b))(hb:b=true->r.flat=true)
  (hf:lV (dg ids H) id ((cO id r).2-id)) (hW:W (cI env o.dst (cO id r).1) (gi id (dg ids H) r)):jm P o W env H :=
 ahG ids id c he λx hx=>by subst hx;exact⟨hb,hf,hW⟩
theorem ahH(ids:List Nat){id v:Nat}{e:TypeId}{sz:Nat}{es:List (List PV)}{eR:List AV}{Q:AV->Option Chunk->Prop}(c:kJ P k v e sz es ps Q)(ha:dI o (ev env)=some (k,.row id v :: eR))(hH:dg ids H id=some (.row v e sz es))
  (he:eu (gA (agM (dg ids H) id)) eR=some (ps,b))
  (hW:∀a c,Q a c->∃v' e' sz' es' a',c=some (.row v' e' sz' es')/\aqn id a=some a'/\(b=true->(es'.all λx=>x.all isVal)=true/\(match a' with | .p x=>x.scalar|_=>true)=true)/\W (cI env o.dst a') (bk (dg ids H) id (.row v' e' sz' es'))):jm P o W env H :=
 .inl (.inr (.inr ⟨ids,.inr ⟨k,id,v,e,sz,es,eR,ps,b,Q,ha,hH,he,c,hW⟩⟩))
theorem ach{id v:Nat}{e:TypeId}{sz:Nat}{es es':List (List PV)}{eR:List AV}(c:kJ P k v e sz es ps λa c=>a = .dQ []/\c=some (.row v e sz es'))(ha:dI o (ev env)=some (k,.row id v :: eR))(hH:H id=some (.row v e sz es))
  (he:eu (gA (agM H id)) eR=some (ps,b)) (hb:b=true->(es'.all λx=>x.all isVal)=true) (hW:W (cI env o.dst (.dQ [])) (bk H id (.row v e sz es'))):jm P o W env H :=
 ahH [] c ha hH he λa c ⟨h1,h2⟩=>by subst h1 h2;exact⟨v,e,sz,es',.dQ [],rfl,rfl,λh=>⟨hb h,rfl⟩,hW⟩
theorem y5{r:RV} : false=true->r.flat=true:=λh=>by cases h
theorem ahI{b:Bool}{r:RV}(h:r.flat=true):b=true->r.flat=true:=λ_=>h
end
def aot(f:AV)(eR:List AV):Option (FuncId×List AV):=match f with
 | .p (.ir (.func k) fs cs)=>some (k,fs.map AV.p++eR++cs.map AV.p)
 | .ir (.func k) fs cs=>some (k,fs++eR++cs)
 |_=>none
theorem br.toL{f:FuncId}{args:List PV}{e:TypeId}{sz:Nat}{es:List (List PV)}(h:br P f args λr=>r = .row e sz es):aS P f args λx=>x = .aV es:=h.azP.mono λx hx=>by rw[hx];simp only[RV.pv]
def aw3:Option AV->AV
 |some a=>a
 |none=>.dead
theorem aw4(eR:List AV)(t:Nat):ad1 eR t=aw3 eR[t]?:=by unfold ad1 aw3;cases eR[t]?<;>rfl
theorem aou(a:AV):aw3 (some a)=a:=rfl
def aw5(H:ay)(Q:AV->Option Chunk->Prop)(a:Option AV):Prop:=match a with
 |some a=>Q a (H 1000000)
 |none=>False
theorem alm(rs:List ResultVar)(Q:AV->Option Chunk->Prop):aCk P rs Q .normal env H=aw5 H Q (pe P env H rs):=rfl
theorem aw6(rs:List ResultVar)(Q:AV->Option Chunk->Prop):aCk P rs Q .ret env H=aw5 H Q (pe P env H rs):=rfl
theorem aov(a:AV)(Q:AV->Option Chunk->Prop):aw5 H Q (some a)=Q a (H 1000000):=rfl
theorem asS:pe P env H []=some (.dQ []):=rfl
theorem afr(d:Option Tmp)(t:TypeId)(pos:String)(af:Array Edge)(g:Option (Nat×Bool))(f:Operand)(xs:Array Operand)(ts:Array TypeId)(ρ:Operand->AV) :
  dI ⟨d,.call ⟨.value f,xs,ts⟩,t,pos,af,g⟩ ρ=aot (ρ f) (xs.toList.map ρ):=by
 unfold dI aot;simp only[];generalize ρ f=v;cases v with
 |p x=>cases x with
  |ir fn fs cs=>cases fn<;>rfl
  |_=>rfl
 |ir fn fs cs=>cases fn<;>rfl
 |_=>rfl
theorem aw7(k:FuncId)(fs cs:List PV)(eR:List AV):aot (.p (.ir (.func k) fs cs)) eR=some (k,fs.map AV.p++eR++cs.map AV.p):=rfl
theorem VR.tH{I:Mem}{v:Value}(h:VR I v (.aV [])):∃ao cap,v = .slice ao 0 cap/\VR I v (.val (.slice ao 0 cap)):=by
 cases h with
 |aV ao n cap _ us sz hn=>simp only[List.length_nil] at hn;subst hn;exact⟨ao,cap,rfl,.val _ rfl⟩
theorem br.tH{f:FuncId}{rest:List PV}{Q:RV->Prop}(hc:gZ P f=true)(h:∀ao cap,br P f (.val (.slice ao 0 cap) :: rest) Q):br P f (.aV [] :: rest) Q:=by
 refine⟨hc,λI w vs hI hv=>?_⟩;cases vs with
 |nil=>have:=hv.1;simp at this
 |cons v vs =>
  obtain⟨ao,cap,rfl,h1⟩:=(hv.2 0 v _ rfl rfl).tH;refine (h ao cap).2 I w _ hI ⟨by simpa using hv.1,λj u c hu hc=>?_⟩;cases j with
  |zero=>simp at hu hc;subst hu hc;exact h1
  |succ j=>exact hv.2 (j+1) u c hu hc
theorem aS.tH{f:FuncId}{rest:List PV}{Q:PV->Prop}(hc:gZ P f=true)(h:∀ao cap,aS P f (.val (.slice ao 0 cap) :: rest) Q):aS P f (.aV [] :: rest) Q:=by
 refine⟨hc,λI w vs hI hv=>?_⟩;cases vs with
 |nil=>have:=hv.1;simp at this
 |cons v vs =>
  obtain⟨ao,cap,rfl,h1⟩:=(hv.2 0 v _ rfl rfl).tH;refine (h ao cap).2 I w _ hI ⟨by simpa using hv.1,λj u c hu hc=>?_⟩;cases j with
  |zero=>simp at hu hc;subst hu hc;exact h1
  |succ j=>exact hv.2 (j+1) u c hu hc
theorem aln:dg [] H=H:=rfl
theorem ajh(id:Nat)(r:List Nat):dg (id :: r) H=dg r (aqo H id):=rfl
def aBO(H:ay)(id:Nat)(c:Option Chunk):ay:=match c with
 |some (.row v _ _ es)=>bk H id (.shut v es)
 |_=>H
theorem aw8(id:Nat):aqo H id=aBO H id (H id):=rfl
theorem asT(id v:Nat)(e:TypeId)(sz:Nat)(es:List (List PV)):aBO H id (some (.row v e sz es))=bk H id (.shut v es):=rfl
def aw9:List AV->Option (Prop×AV)
 | .p (.val (.int k n)) :: r=>agL k n r
 |_=>none
section
variable(d:Option Tmp)(ty:TypeId)(pos:String)(af:Array Edge)(g:Option (Nat×Bool))(ρ:Operand->AV)
theorem aAD(xs:Array Operand)(ts:Array TypeId):gj P ⟨d,.call ⟨.builtin .max,xs,ts⟩,ty,pos,af,g⟩ ρ H=up3 (aw9 (xs.toList.map ρ)) H:=by
 have e:oc P ⟨d,.call ⟨.builtin .max,xs,ts⟩,ty,pos,af,g⟩ ρ=aw9 (xs.toList.map ρ):=by simp only[oc,ur,aw9];generalize xs.toList.map ρ=l;split<;>first|rfl|(split<;>simp_all)
 simp only[gj,e,rU,mR,xe,yy,wz,xo,up3];all_goals(cases aw9 (xs.toList.map ρ)<;>rfl)
end
theorem axa(k:IntKind)(n:Int)(r:List AV):aw9 (.p (.val (.int k n)) :: r)=agL k n r:=rfl
theorem axb(k:IntKind)(n:Int):agL k n []=some (True,.p (.val (.int k n))):=rfl
theorem asU(k k':IntKind)(n m:Int)(r:List AV):agL k n (.p (.val (.int k' m)) :: r)=agL k (max n m) r:=rfl
theorem asV(xs:Array Operand)(ts:Array TypeId):isApp (.call ⟨.builtin .max,xs,ts⟩)=false:=rfl
attribute [go_sem] aAD axa axb asU asV
theorem aow:oW []=[]:=rfl
theorem aox(k id v:Nat)(r:List (Nat×AV)):oW ((k,.row id v) :: r)=id :: oW r:=rfl
theorem aoy(k:Nat)(cs:List AV)(r:List (Nat×AV)):oW ((k,.agg cs) :: r)=tF cs++oW r:=rfl
theorem alo:tF []=[]:=rfl
theorem alp(id v:Nat)(r:List AV):tF (.row id v :: r)=id :: tF r:=rfl
theorem asW(x:PV)(r:List AV):tF (.p x :: r)=tF r:=rfl
def axc(c:Option Chunk)(id bf:Nat):AV:=match c with
 |some (.shut v es)=>if v=bf then .p (.aV es) else .row id bf
 |_=>.row id bf
theorem asX(id bf:Nat):x6 H (.row id bf)=axc (H id) id bf:=rfl
theorem asY(id bf:Nat):aaT H (.row id bf)=axc (H id) id bf:=rfl
theorem aoz(v:Nat)(es:List (List PV))(id bf:Nat):axc (some (.shut v es)) id bf=if v=bf then .p (.aV es) else .row id bf:=rfl
theorem aAE(x:PV):aaT H (.p x) = .p x:=rfl
theorem asZ(cs:List AV):x6 H (.agg cs) = .agg (cs.map (aaT H)):=rfl
theorem y6(n:Int):(n<=n)=True:=eq_true (Int.le_refl n)
attribute [go_sem] aow aox aoy alo alp asW asX asY aoz aAE asZ
theorem jK{o:Oper}{W:Env->ay->Prop}(sS:Env)(H2:ay){pre:Prop}{v:AV}{H':ay}(hw:cU env H sS H2)(hx:gj P o (ev sS) H2=some (pre,v,H'))(hp:pre)(hW:W (cI sS o.dst v) H'):jm P o W env H :=
 .inr (.inl ⟨sS,H2,hw,.inl ⟨pre,v,H',hx,hp,hW⟩⟩)
theorem ahJ{env:Env}{H:ay}(id v:Nat)(e:TypeId)(sz:Nat)(es:List (List PV))(ts:List Nat)(hH:H id=some (.row v e sz es))(ht:holds env id v ts)(hn:ts.Nodup):cU env H (anl (.p (.aV es)) ts env) (bk H id (.shut v es)):=λC I L tm w hs=>⟨_,L,ac9 (es:=es) (by simp[bk]) ts _ hn (Fr.shut C I L w hH env tm hs) ht⟩
theorem tW{o:Oper}{W:Env->ay->Prop}{sS:Env}{H2:ay}(hw:cU env H sS H2)(h:ada P o W sS H2\/ahr P o W sS H2\/ab4 P o W sS H2):jm P o W env H:=.inr (.inl ⟨sS,H2,hw,.inr h⟩)
theorem aoA(t:TypeId)(i v:Nat)(lo hi mx:Option AV):sP P t (.row i v) lo hi mx=none:=by cases mx<;>rfl
attribute [go_sem] aoA avw art aru anm
theorem wG{o:Oper}{W:Env->ay->Prop}{k:FuncId}{ps:List PV}{b:Bool}{id v:Nat}{e:TypeId}{sz:Nat}{es es':List (List PV)}{eR:List AV}(c:kJ P k v e sz es ps λa c=>a = .row 1000000 (v+1)/\c=some (.row (v+1) e sz es'))
  (ha:dI o (ev env)=some (k,.row id v :: eR)) (hH:H id=some (.row v e sz es))
  (he:eu (gA (agM H id)) eR=some (ps,b)) (hb:b=true->(es'.all λx=>x.all isVal)=true) (hW:W (cI env o.dst (.row id (v+1))) (bk H id (.row (v+1) e sz es'))):jm P o W env H :=
 ahH [] c ha hH he λa c ⟨h1,h2⟩=>by subst h1 h2;exact⟨v+1,e,sz,es',.row id (v+1),rfl,rfl,λh=>⟨hb h,rfl⟩,hW⟩
attribute [go_sem] aw4 aou alm aw6 aov asS afr aw7 asJ abu ary anw awW awV aDw asK asL aog aAx asN asM asO aAA aAB awX aoh aoi aCv awY aAC awZ aw0 asP aoj aw1 aok aol aom aon ali aw2 aoo aop aoq alj ajf asQ asR alk aor aln ajh aw8 asT Nat.add_sub_cancel_left Nat.sub_self
end Go.cq
namespace Go.Proofs.YtjhkgjlmiolfoaaGreat.Ty
open Go Go.cq
theorem mixed:Tryz.prog.follows .mixedOrders=true:=by kernel_rfl
@[go_sem] theorem aIG:bz pw 3=some 1:=by kernel_rfl
@[go_sem] theorem agg3:fM pw 3=some false:=by kernel_rfl
@[go_sem] theorem aIH:cN pw 3=some [.int .i64 0]:=by kernel_rfl
@[go_sem] theorem int3:aj5 pw 3=some .i64:=by kernel_rfl
@[go_sem] theorem aII:bz pw 4=some 1:=by kernel_rfl
@[go_sem] theorem agg4:fM pw 4=some false:=by kernel_rfl
@[go_sem] theorem aIJ:bz pw 5=some 1:=by kernel_rfl
@[go_sem] theorem agg5:fM pw 5=some false:=by kernel_rfl
@[go_sem] theorem und5:(Program.underlying pw 5).isSome=true:=by kernel_rfl
@[go_sem] theorem aIK:bz pw 9=some 1:=by kernel_rfl
@[go_sem] theorem agg9:fM pw 9=some false:=by kernel_rfl
@[go_sem] theorem aIL:cN pw 9=some [.string ⟨#[]⟩]:=by kernel_rfl
@[go_sem] theorem str9:yI pw 9=true:=by kernel_rfl
@[go_sem] theorem aGQ:bz pw 22=some 1:=by kernel_rfl
@[go_sem] theorem aIM:fM pw 22=some false:=by kernel_rfl
@[go_sem] theorem aGR:cM pw 22=some 162:=by kernel_rfl
@[go_sem] theorem aGS:isSlice pw 22=true:=by kernel_rfl
@[go_sem] theorem aGT:bz pw 23=some 1:=by kernel_rfl
@[go_sem] theorem aIN:fM pw 23=some false:=by kernel_rfl
@[go_sem] theorem aGU:cM pw 23=some 159:=by kernel_rfl
@[go_sem] theorem aGV:isSlice pw 23=true:=by kernel_rfl
@[go_sem] theorem aGW:bz pw 25=some 2:=by kernel_rfl
@[go_sem] theorem aIO:fM pw 25=some true:=by kernel_rfl
@[go_sem] theorem aGX:cN pw 25=some [.slice none 0 0,.slice none 0 0]:=by kernel_rfl
@[go_sem] theorem pl25:fe pw 25=some [(0,1),(1,1)]:=by kernel_rfl
@[go_sem] theorem aFh:bR pw 25 0=some (0,1):=by kernel_rfl
@[go_sem] theorem aFi:bR pw 25 1=some (1,1):=by kernel_rfl
@[go_sem] theorem aGY:bz pw 27=some 7:=by kernel_rfl
@[go_sem] theorem aIP:fM pw 27=some true:=by kernel_rfl
@[go_sem] theorem aFj:bR pw 27 0=some (0,1):=by kernel_rfl
@[go_sem] theorem aFk:bR pw 27 1=some (1,1):=by kernel_rfl
@[go_sem] theorem aFl:bR pw 27 2=some (2,2):=by kernel_rfl
@[go_sem] theorem aFm:bR pw 27 3=some (4,1):=by kernel_rfl
@[go_sem] theorem aFn:bR pw 27 4=some (5,1):=by kernel_rfl
@[go_sem] theorem aFo:bR pw 27 5=some (6,1):=by kernel_rfl
@[go_sem] theorem aGZ:bz pw 28=some 1:=by kernel_rfl
@[go_sem] theorem aIQ:fM pw 28=some false:=by kernel_rfl
@[go_sem] theorem aG0:cM pw 28=some 165:=by kernel_rfl
@[go_sem] theorem aG1:isSlice pw 28=true:=by kernel_rfl
@[go_sem] theorem aIR:dw pw 28 28=some (165,4,56):=by kernel_rfl
@[go_sem] theorem aG2:bz pw 29=some 1:=by kernel_rfl
@[go_sem] theorem aIS:fM pw 29=some false:=by kernel_rfl
@[go_sem] theorem aG3:cM pw 29=some 170:=by kernel_rfl
@[go_sem] theorem aG4:isSlice pw 29=true:=by kernel_rfl
@[go_sem] theorem aIT:dw pw 29 29=some (170,7,64):=by kernel_rfl
@[go_sem] theorem aG5:bz pw 31=some 2:=by kernel_rfl
@[go_sem] theorem aIU:fM pw 31=some true:=by kernel_rfl
@[go_sem] theorem aG6:cN pw 31=some [.slice none 0 0,.slice none 0 0]:=by kernel_rfl
@[go_sem] theorem pl31:fe pw 31=some [(0,1),(1,1)]:=by kernel_rfl
@[go_sem] theorem aFp:bR pw 31 0=some (0,1):=by kernel_rfl
@[go_sem] theorem aFq:bR pw 31 1=some (1,1):=by kernel_rfl
@[go_sem] theorem aG7:bz pw 32=some 1:=by kernel_rfl
@[go_sem] theorem aIV:fM pw 32=some false:=by kernel_rfl
@[go_sem] theorem zero32:cN pw 32=some [.slice none 0 0]:=by kernel_rfl
@[go_sem] theorem aG8:cM pw 32=some 3:=by kernel_rfl
@[go_sem] theorem aG9:isSlice pw 32=true:=by kernel_rfl
@[go_sem] theorem aIW:dw pw 32 32=some (3,1,8):=by kernel_rfl
@[go_sem] theorem aHa:bz pw 33=some 1:=by kernel_rfl
@[go_sem] theorem aIX:fM pw 33=some false:=by kernel_rfl
@[go_sem] theorem aHb:cM pw 33=some 175:=by kernel_rfl
@[go_sem] theorem aHc:isSlice pw 33=true:=by kernel_rfl
@[go_sem] theorem aIY:dw pw 33 33=some (175,3,24):=by kernel_rfl
@[go_sem] theorem aHd:bz pw 35=some 2:=by kernel_rfl
@[go_sem] theorem aIZ:fM pw 35=some true:=by kernel_rfl
@[go_sem] theorem aHe:cN pw 35=some [.slice none 0 0,.slice none 0 0]:=by kernel_rfl
@[go_sem] theorem pl35:fe pw 35=some [(0,1),(1,1)]:=by kernel_rfl
@[go_sem] theorem aFr:bR pw 35 0=some (0,1):=by kernel_rfl
@[go_sem] theorem aFs:bR pw 35 1=some (1,1):=by kernel_rfl
@[go_sem] theorem aHf:bz pw 36=some 1:=by kernel_rfl
@[go_sem] theorem aI0:fM pw 36=some false:=by kernel_rfl
@[go_sem] theorem aHg:cM pw 36=some 32:=by kernel_rfl
@[go_sem] theorem aHh:isSlice pw 36=true:=by kernel_rfl
@[go_sem] theorem aI1:dw pw 36 36=some (32,1,24):=by kernel_rfl
@[go_sem] theorem aHi:bz pw 38=some 3:=by kernel_rfl
@[go_sem] theorem aI2:fM pw 38=some true:=by kernel_rfl
@[go_sem] theorem aHj:cN pw 38=some [.slice none 0 0,.slice none 0 0,.slice none 0 0]:=by kernel_rfl
@[go_sem] theorem pl38:fe pw 38=some [(0,2),(2,1)]:=by kernel_rfl
@[go_sem] theorem aFt:bR pw 38 0=some (0,2):=by kernel_rfl
@[go_sem] theorem aFu:bR pw 38 1=some (2,1):=by kernel_rfl
@[go_sem] theorem aHk:bz pw 40=some 6:=by kernel_rfl
@[go_sem] theorem aI3:fM pw 40=some true:=by kernel_rfl
@[go_sem] theorem aHl:cN pw 40=some [.slice none 0 0,.slice none 0 0,.slice none 0 0,.slice none 0 0,.slice none 0 0,.int .i64 0]:=by kernel_rfl
@[go_sem] theorem pl40:fe pw 40=some [(0,3),(3,1),(4,1),(5,1)]:=by kernel_rfl
@[go_sem] theorem aFv:bR pw 40 0=some (0,3):=by kernel_rfl
@[go_sem] theorem aFw:bR pw 40 1=some (3,1):=by kernel_rfl
@[go_sem] theorem aFx:bR pw 40 2=some (4,1):=by kernel_rfl
@[go_sem] theorem aFy:bR pw 40 3=some (5,1):=by kernel_rfl
@[go_sem] theorem aHm:bz pw 41=some 1:=by kernel_rfl
@[go_sem] theorem aI4:fM pw 41=some false:=by kernel_rfl
@[go_sem] theorem aHn:cM pw 41=some 75:=by kernel_rfl
@[go_sem] theorem aHo:isSlice pw 41=true:=by kernel_rfl
@[go_sem] theorem aI5:dw pw 41 41=some (75,3,40):=by kernel_rfl
@[go_sem] theorem aHp:bz pw 42=some 1:=by kernel_rfl
@[go_sem] theorem aI6:fM pw 42=some false:=by kernel_rfl
@[go_sem] theorem aHq:cM pw 42=some 102:=by kernel_rfl
@[go_sem] theorem aHr:isSlice pw 42=true:=by kernel_rfl
@[go_sem] theorem aI7:dw pw 42 42=some (102,4,32):=by kernel_rfl
@[go_sem] theorem aHs:bz pw 43=some 1:=by kernel_rfl
@[go_sem] theorem aI8:fM pw 43=some false:=by kernel_rfl
@[go_sem] theorem aHt:cM pw 43=some 105:=by kernel_rfl
@[go_sem] theorem aHu:isSlice pw 43=true:=by kernel_rfl
@[go_sem] theorem aI9:dw pw 43 43=some (105,4,32):=by kernel_rfl
@[go_sem] theorem aHv:bz pw 44=some 2:=by kernel_rfl
@[go_sem] theorem aJa:fM pw 44=some true:=by kernel_rfl
@[go_sem] theorem aHw:cN pw 44=some [.int .i64 0,.int .i64 0]:=by kernel_rfl
@[go_sem] theorem aJb:wo pw 44=some (2,3):=by kernel_rfl
@[go_sem] theorem pl44:fe pw 44=some [(0,1),(1,1)]:=by kernel_rfl
@[go_sem] theorem aHx:bz pw 46=some 7:=by kernel_rfl
@[go_sem] theorem aJc:fM pw 46=some true:=by kernel_rfl
@[go_sem] theorem aHy:cN pw 46=some [.slice none 0 0,.slice none 0 0,.slice none 0 0,.slice none 0 0,.slice none 0 0,.int .i64 0,.int .i64 0]:=by kernel_rfl
@[go_sem] theorem pl46:fe pw 46=some [(0,1),(1,1),(2,1),(3,1),(4,1),(5,2)]:=by kernel_rfl
@[go_sem] theorem aFz:bR pw 46 0=some (0,1):=by kernel_rfl
@[go_sem] theorem aFA:bR pw 46 1=some (1,1):=by kernel_rfl
@[go_sem] theorem aFB:bR pw 46 2=some (2,1):=by kernel_rfl
@[go_sem] theorem aFC:bR pw 46 3=some (3,1):=by kernel_rfl
@[go_sem] theorem aFD:bR pw 46 4=some (4,1):=by kernel_rfl
@[go_sem] theorem aFE:bR pw 46 5=some (5,2):=by kernel_rfl
@[go_sem] theorem aHz:bz pw 48=some 20:=by kernel_rfl
@[go_sem] theorem aJd:fM pw 48=some true:=by kernel_rfl
@[go_sem] theorem aHA:cN pw 48=some [.slice none 0 0,.slice none 0 0,.slice none 0 0,.slice none 0 0,.slice none 0 0,.int .i64 0,.slice none 0 0,.slice none 0 0,.slice none 0 0,.slice none 0 0,.slice none 0 0,.int .i64 0,.int .i64 0,.slice none 0 0,.slice none 0 0,.slice none 0 0,.slice none 0 0,.slice none 0 0,.int .i64 0,.int .i64 0]:=by kernel_rfl
@[go_sem] theorem pl48:fe pw 48=some [(0,6),(6,7),(13,7)]:=by kernel_rfl
@[go_sem] theorem aFF:bR pw 48 0=some (0,6):=by kernel_rfl
@[go_sem] theorem aFG:bR pw 48 1=some (6,7):=by kernel_rfl
@[go_sem] theorem aFH:bR pw 48 2=some (13,7):=by kernel_rfl
@[go_sem] theorem aHB:bz pw 52=some 1:=by kernel_rfl
@[go_sem] theorem aJe:fM pw 52=some false:=by kernel_rfl
@[go_sem] theorem aHC:cN pw 52=some [.slice none 0 0]:=by kernel_rfl
@[go_sem] theorem aHD:cM pw 52=some 57:=by kernel_rfl
@[go_sem] theorem aHE:isSlice pw 52=true:=by kernel_rfl
@[go_sem] theorem aDx:dw pw 52 52=some (57,3,24):=by kernel_rfl
@[go_sem] theorem aHF:bz pw 57=some 3:=by kernel_rfl
@[go_sem] theorem aJf:fM pw 57=some true:=by kernel_rfl
@[go_sem] theorem aHG:cN pw 57=some [.int .i64 0,.int .i64 0,.int .i64 0]:=by kernel_rfl
@[go_sem] theorem pl57:fe pw 57=some [(0,1),(1,1),(2,1)]:=by kernel_rfl
@[go_sem] theorem aHH:bz pw 75=some 3:=by kernel_rfl
@[go_sem] theorem aJg:fM pw 75=some true:=by kernel_rfl
@[go_sem] theorem aHI:cN pw 75=some [.int .i64 0,.int .i64 0,.slice none 0 0]:=by kernel_rfl
@[go_sem] theorem pl75:fe pw 75=some [(0,1),(1,1),(2,1)]:=by kernel_rfl
@[go_sem] theorem aFI:bR pw 75 0=some (0,1):=by kernel_rfl
@[go_sem] theorem aFJ:bR pw 75 1=some (1,1):=by kernel_rfl
@[go_sem] theorem aFK:bR pw 75 2=some (2,1):=by kernel_rfl
@[go_sem] theorem aFL:bz pw 102=some 4:=by kernel_rfl
@[go_sem] theorem aHJ:fM pw 102=some true:=by kernel_rfl
@[go_sem] theorem aFM:cN pw 102=some [.int .i64 0,.int .i64 0,.int .i64 0,.int .i64 0]:=by kernel_rfl
@[go_sem] theorem aJh:fe pw 102=some [(0,1),(1,1),(2,1),(3,1)]:=by kernel_rfl
@[go_sem] theorem aDy:bR pw 102 0=some (0,1):=by kernel_rfl
@[go_sem] theorem aDz:bR pw 102 1=some (1,1):=by kernel_rfl
@[go_sem] theorem aDA:bR pw 102 2=some (2,1):=by kernel_rfl
@[go_sem] theorem aDB:bR pw 102 3=some (3,1):=by kernel_rfl
@[go_sem] theorem aFN:bz pw 105=some 4:=by kernel_rfl
@[go_sem] theorem aHK:fM pw 105=some true:=by kernel_rfl
@[go_sem] theorem aFO:cN pw 105=some [.int .i64 0,.int .i64 0,.int .i64 0,.int .i64 0]:=by kernel_rfl
@[go_sem] theorem aJi:fe pw 105=some [(0,1),(1,1),(2,1),(3,1)]:=by kernel_rfl
@[go_sem] theorem aDC:bR pw 105 0=some (0,1):=by kernel_rfl
@[go_sem] theorem aDD:bR pw 105 1=some (1,1):=by kernel_rfl
@[go_sem] theorem aDE:bR pw 105 2=some (2,1):=by kernel_rfl
@[go_sem] theorem aDF:bR pw 105 3=some (3,1):=by kernel_rfl
@[go_sem] theorem aFP:bz pw 126=some 14:=by kernel_rfl
@[go_sem] theorem aHL:fM pw 126=some true:=by kernel_rfl
@[go_sem] theorem aFQ:cN pw 126=some [.slice none 0 0,.slice none 0 0,.slice none 0 0,.slice none 0 0,.slice none 0 0,.int .i64 0,.int .i64 0,.slice none 0 0,.slice none 0 0,.slice none 0 0,.slice none 0 0,.slice none 0 0,.int .i64 0,.int .i64 0]:=by kernel_rfl
@[go_sem] theorem aHM:wo pw 126=some (2,46):=by kernel_rfl
@[go_sem] theorem aJj:fe pw 126=some [(0,7),(7,7)]:=by kernel_rfl
@[go_sem] theorem aFR:bz pw 159=some 3:=by kernel_rfl
@[go_sem] theorem aHN:fM pw 159=some true:=by kernel_rfl
@[go_sem] theorem aHO:wo pw 159=some (3,5):=by kernel_rfl
@[go_sem] theorem aFS:bz pw 162=some 2:=by kernel_rfl
@[go_sem] theorem aHP:fM pw 162=some true:=by kernel_rfl
@[go_sem] theorem aFT:cN pw 162=some [.int .u8 0,.int .u8 0]:=by kernel_rfl
@[go_sem] theorem aHQ:wo pw 162=some (2,5):=by kernel_rfl
@[go_sem] theorem aJk:fe pw 162=some [(0,1),(1,1)]:=by kernel_rfl
@[go_sem] theorem aFU:bz pw 163=some 1:=by kernel_rfl
@[go_sem] theorem aHR:fM pw 163=some false:=by kernel_rfl
@[go_sem] theorem aFV:cM pw 163=some 168:=by kernel_rfl
@[go_sem] theorem aFW:isSlice pw 163=true:=by kernel_rfl
@[go_sem] theorem aHS:dw pw 163 163=some (168,4,56):=by kernel_rfl
@[go_sem] theorem aFX:bz pw 165=some 4:=by kernel_rfl
@[go_sem] theorem aHT:fM pw 165=some true:=by kernel_rfl
@[go_sem] theorem aFY:cN pw 165=some [.string ⟨#[]⟩,.int .i64 0,.bool false,.slice none 0 0]:=by kernel_rfl
@[go_sem] theorem aJl:fe pw 165=some [(0,1),(1,1),(2,1),(3,1)]:=by kernel_rfl
@[go_sem] theorem aDG:bR pw 165 0=some (0,1):=by kernel_rfl
@[go_sem] theorem aDH:bR pw 165 1=some (1,1):=by kernel_rfl
@[go_sem] theorem aDI:bR pw 165 2=some (2,1):=by kernel_rfl
@[go_sem] theorem aDJ:bR pw 165 3=some (3,1):=by kernel_rfl
@[go_sem] theorem aFZ:bz pw 166=some 1:=by kernel_rfl
@[go_sem] theorem aHU:fM pw 166=some false:=by kernel_rfl
@[go_sem] theorem aF0:cM pw 166=some 9:=by kernel_rfl
@[go_sem] theorem aF1:isSlice pw 166=true:=by kernel_rfl
@[go_sem] theorem aHV:dw pw 166 166=some (9,1,16):=by kernel_rfl
@[go_sem] theorem aF2:bz pw 168=some 4:=by kernel_rfl
@[go_sem] theorem aHW:fM pw 168=some true:=by kernel_rfl
@[go_sem] theorem aF3:cN pw 168=some [.string ⟨#[]⟩,.int .i64 0,.int .i64 0,.slice none 0 0]:=by kernel_rfl
@[go_sem] theorem aJm:fe pw 168=some [(0,1),(1,1),(2,1),(3,1)]:=by kernel_rfl
@[go_sem] theorem aDK:bR pw 168 0=some (0,1):=by kernel_rfl
@[go_sem] theorem aDL:bR pw 168 1=some (1,1):=by kernel_rfl
@[go_sem] theorem aDM:bR pw 168 2=some (2,1):=by kernel_rfl
@[go_sem] theorem aDN:bR pw 168 3=some (3,1):=by kernel_rfl
@[go_sem] theorem aF4:bz pw 170=some 7:=by kernel_rfl
@[go_sem] theorem aHX:fM pw 170=some true:=by kernel_rfl
@[go_sem] theorem aF5:cN pw 170=some [.string ⟨#[]⟩,.int .i64 0,.int .i64 0,.int .i64 0,.int .i64 0,.int .i64 0,.int .i64 0]:=by kernel_rfl
@[go_sem] theorem aJn:fe pw 170=some [(0,1),(1,1),(2,1),(3,1),(4,1),(5,1),(6,1)]:=by kernel_rfl
@[go_sem] theorem aDO:bR pw 170 0=some (0,1):=by kernel_rfl
@[go_sem] theorem aDP:bR pw 170 1=some (1,1):=by kernel_rfl
@[go_sem] theorem aDQ:bR pw 170 2=some (2,1):=by kernel_rfl
@[go_sem] theorem aDR:bR pw 170 3=some (3,1):=by kernel_rfl
@[go_sem] theorem aDS:bR pw 170 4=some (4,1):=by kernel_rfl
@[go_sem] theorem aDT:bR pw 170 5=some (5,1):=by kernel_rfl
@[go_sem] theorem aDU:bR pw 170 6=some (6,1):=by kernel_rfl
@[go_sem] theorem aF6:bz pw 175=some 3:=by kernel_rfl
@[go_sem] theorem aHY:fM pw 175=some true:=by kernel_rfl
@[go_sem] theorem aF7:cN pw 175=some [.int .i64 0,.int .i64 0,.int .i64 0]:=by kernel_rfl
@[go_sem] theorem aJo:fe pw 175=some [(0,1),(1,1),(2,1)]:=by kernel_rfl
@[go_sem] theorem aDV:bR pw 175 0=some (0,1):=by kernel_rfl
@[go_sem] theorem aDW:bR pw 175 1=some (1,1):=by kernel_rfl
@[go_sem] theorem aDX:bR pw 175 2=some (2,1):=by kernel_rfl
@[go_sem] theorem aF8:cM pw 179=some 46:=by kernel_rfl
@[go_sem] theorem aF9:isSlice pw 179=true:=by kernel_rfl
@[go_sem] theorem aGa:cM pw 180=some 126:=by kernel_rfl
@[go_sem] theorem aGb:isSlice pw 180=true:=by kernel_rfl
@[go_sem] theorem aGc:bz pw 185=some 1:=by kernel_rfl
@[go_sem] theorem aHZ:fM pw 185=some false:=by kernel_rfl
@[go_sem] theorem aGd:cN pw 185=some [.slice none 0 0]:=by kernel_rfl
@[go_sem] theorem aGe:cM pw 185=some 188:=by kernel_rfl
@[go_sem] theorem aGf:isSlice pw 185=true:=by kernel_rfl
@[go_sem] theorem aCw:dw pw 185 185=some (188,3,24):=by kernel_rfl
@[go_sem] theorem aGg:bz pw 188=some 3:=by kernel_rfl
@[go_sem] theorem aH0:fM pw 188=some true:=by kernel_rfl
@[go_sem] theorem aGh:cN pw 188=some [.int .i64 0,.int .i64 0,.bool false]:=by kernel_rfl
@[go_sem] theorem aJp:fe pw 188=some [(0,1),(1,1),(2,1)]:=by kernel_rfl
@[go_sem] theorem aDY:bR pw 188 0=some (0,1):=by kernel_rfl
@[go_sem] theorem aDZ:bR pw 188 1=some (1,1):=by kernel_rfl
@[go_sem] theorem aGi:bz pw 197=some 2:=by kernel_rfl
@[go_sem] theorem aH1:fM pw 197=some true:=by kernel_rfl
@[go_sem] theorem aGj:cN pw 197=some [.slice none 0 0,.slice none 0 0]:=by kernel_rfl
@[go_sem] theorem aJq:fe pw 197=some [(0,1),(1,1)]:=by kernel_rfl
@[go_sem] theorem aD0:bR pw 197 0=some (0,1):=by kernel_rfl
@[go_sem] theorem aD1:bR pw 197 1=some (1,1):=by kernel_rfl
@[go_sem] theorem aGk:bz pw 227=some 2:=by kernel_rfl
@[go_sem] theorem aGl:cN pw 227=some [.slice none 0 0,.slice none 0 0]:=by kernel_rfl
@[go_sem] theorem aJr:fe pw 227=some [(0,1),(1,1)]:=by kernel_rfl
@[go_sem] theorem aD2:bR pw 227 0=some (0,1):=by kernel_rfl
@[go_sem] theorem aD3:bR pw 227 1=some (1,1):=by kernel_rfl
@[go_sem] theorem aGm:cM pw 238=some 241:=by kernel_rfl
@[go_sem] theorem aGn:isSlice pw 238=true:=by kernel_rfl
@[go_sem] theorem aH2:dw pw 238 238=some (241,3,24):=by kernel_rfl
@[go_sem] theorem aGo:bz pw 241=some 3:=by kernel_rfl
@[go_sem] theorem aH3:fM pw 241=some true:=by kernel_rfl
@[go_sem] theorem aGp:cN pw 241=some [.int .i64 0,.int .i64 0,.bool false]:=by kernel_rfl
@[go_sem] theorem aJs:fe pw 241=some [(0,1),(1,1),(2,1)]:=by kernel_rfl
@[go_sem] theorem aD4:bR pw 241 0=some (0,1):=by kernel_rfl
@[go_sem] theorem aD5:bR pw 241 1=some (1,1):=by kernel_rfl
@[go_sem] theorem aGq:cM pw 247=some 52:=by kernel_rfl
@[go_sem] theorem aGr:isSlice pw 247=true:=by kernel_rfl
@[go_sem] theorem aGs:cM pw 258=some 185:=by kernel_rfl
@[go_sem] theorem aGt:isSlice pw 258=true:=by kernel_rfl
@[go_sem] theorem aGu:cM pw 260=some 264:=by kernel_rfl
@[go_sem] theorem aGv:isSlice pw 260=true:=by kernel_rfl
@[go_sem] theorem aH4:dw pw 260 260=some (264,4,32):=by kernel_rfl
@[go_sem] theorem aGw:bz pw 264=some 4:=by kernel_rfl
@[go_sem] theorem aH5:fM pw 264=some true:=by kernel_rfl
@[go_sem] theorem aGx:cN pw 264=some [.int .i64 0,.int .i64 0,.int .i64 0,.bool false]:=by kernel_rfl
@[go_sem] theorem aJt:fe pw 264=some [(0,1),(1,1),(2,1),(3,1)]:=by kernel_rfl
@[go_sem] theorem aD6:bR pw 264 0=some (0,1):=by kernel_rfl
@[go_sem] theorem aD7:bR pw 264 1=some (1,1):=by kernel_rfl
@[go_sem] theorem aD8:bR pw 264 3=some (3,1):=by kernel_rfl
@[go_sem] theorem aGy:bz pw 312=some 1:=by kernel_rfl
@[go_sem] theorem aH6:fM pw 312=some false:=by kernel_rfl
@[go_sem] theorem aGz:bz pw 362=some 3:=by kernel_rfl
@[go_sem] theorem aH7:fM pw 362=some true:=by kernel_rfl
@[go_sem] theorem aGA:cN pw 362=some [.int .i64 0,.string ⟨#[]⟩,.int .i64 0]:=by kernel_rfl
@[go_sem] theorem aJu:fe pw 362=some [(0,1),(1,1),(2,1)]:=by kernel_rfl
@[go_sem] theorem aD9:bR pw 362 0=some (0,1):=by kernel_rfl
@[go_sem] theorem aEa:bR pw 362 1=some (1,1):=by kernel_rfl
@[go_sem] theorem sk57:tC pw 57=some [.i,.i,.i]:=by kernel_rfl
@[go_sem] theorem aJv:tC pw 102=some [.i,.i,.i,.i]:=by kernel_rfl
@[go_sem] theorem aJw:tC pw 175=some [.i,.i,.i]:=by kernel_rfl
@[go_sem] theorem aJx:tC pw 188=some [.i,.i,.b]:=by kernel_rfl
@[go_sem] theorem aJy:tC pw 241=some [.i,.i,.b]:=by kernel_rfl
end Go.Proofs.YtjhkgjlmiolfoaaGreat.Ty
namespace Go.cq
theorem aEb{α β:Type}(f:α->β)(l:List α)(n:Nat):(l.map f).take n=(l.take n).map f:=(List.map_take ..).symm
theorem aEc{α β:Type}(f:α->β)(l:List α)(n:Nat):(l.map f).drop n=(l.drop n).map f:=(List.map_drop ..).symm
attribute [go_sem] Nat.reduceEqDiff Nat.reduceLT Nat.reduceLeDiff Nat.reduceMul Nat.reduceAdd Nat.reduceBEq Nat.reduceSub Int.reduceToNat reduceIte reduceCtorEq
attribute [go_sem] aEb aEc Nat.le_refl Nat.not_lt_zero Nat.zero_le Nat.zero_lt_succ decide_true decide_false Bool.not_not exists_eq'
end Go.cq
namespace Go.Proofs.YtjhkgjlmiolfoaaGreat
open Go.cq
def encI(n:Int):List PV:=[.val (.int .i64 n)]
def iF(s:ByteArray):List PV:=[.val (.string s)]
def bl(l:List Int):PV:=.aV (l.map encI)
def cQ(l:List ByteArray):PV:=.aV (l.map iF)
structure Attr where
 name:ByteArray
 low:Int
 high:Int
 names:List ByteArray
structure gB where
 name:ByteArray
 parent:Int
 abs:Bool
 attrs:List Attr
structure lW where
 name:ByteArray
 src:Int
 dst:Int
 nN:Int
 jZ:Int
 tj:Int
 og:Int
structure Types where
 nodes:List gB
 ak:List lW
structure aJz where
 nodes:List Int
 ak:List Int
structure Edge where
 type:Int
 src:Int
 dst:Int
structure eU where
 nodes:List Int
 ak:List Edge
structure Host where
 graph:eU
 values:List (List Int)
structure aEd where
 a:Int
 b:Int
instance:Inhabited ByteArray:=⟨.empty⟩
instance:Inhabited Attr:=⟨⟨.empty,0,0,[]⟩⟩
instance:Inhabited gB:=⟨⟨.empty,0,false,[]⟩⟩
instance:Inhabited lW:=⟨⟨.empty,0,0,0,0,0,0⟩⟩
instance:Inhabited Edge:=⟨⟨0,0,0⟩⟩
instance:Inhabited aEd:=⟨⟨0,0⟩⟩
def aU(a:Attr):List PV:=[.val (.string a.name),.val (.int .i64 a.low),.val (.int .i64 a.high),cQ a.names]
def aJ(n:gB):List PV:=[.val (.string n.name),.val (.int .i64 n.parent),.val (.bool n.abs),.aV (n.attrs.map aU)]
def aM(e:lW):List PV:=[.val (.string e.name),.val (.int .i64 e.src),.val (.int .i64 e.dst),.val (.int .i64 e.nN),.val (.int .i64 e.jZ),.val (.int .i64 e.tj),.val (.int .i64 e.og)]
def aZ(e:Edge):List PV:=[.val (.int .i64 e.type),.val (.int .i64 e.src),.val (.int .i64 e.dst)]
def bJ(l:List Int):List PV:=[bl l]
def aC(t:Types):PV:=.agg [.aV (t.nodes.map aJ),.aV (t.ak.map aM)]
def ff(g:eU):PV:=.agg [bl g.nodes,.aV (g.ak.map aZ)]
def cG(h:Host):PV:=.agg [bl h.graph.nodes,.aV (h.graph.ak.map aZ),.aV (h.values.map bJ)]
theorem getD_map{α:Type} [Inhabited α](f:α->List PV){l:List α}{n:Nat}(h:n<l.length):(l.map f).getD n []=f (l.getD n default):=by simp[h]
theorem oh{α:Type} [Inhabited α]{l:List α}{n:Nat}(h:n<l.length):l.take (n+1)=l.take n++[l.getD n default]:=by rw[List.take_add_one];simp[h]
theorem bA{k n:Nat}(h:k<n)(hn:n<=4611686018427387904):i64.wrap ((k:Int)+1)=((k+1:Nat):Int):=by rw[IntWalk.i64_in _ (by omega)];omega
section
variable{P:Program}{N:Nat}{own:List Nat}{ops:Array Oper}{K:Env->ay->Prop}{env:Env}{H:ay}
theorem ai1(x:PV):gA H (.p x)=some (x,false):=rfl
theorem jL(ps:List PV):eu (gA H) (ps.map AV.p)=some (ps,false):=by
 induction ps with
 |nil=>rfl
 |cons a r ih=>simp[eu,ai1,ih]
theorem jM(qs bs:List AV):eu (gA H) (qs++bs)=(match eu (gA H) qs,eu (gA H) bs with|some (xs,b),some (ys,c)=>some (xs++ys,b||c)|_,_=>none):=by
 induction qs with
 |nil =>
  simp only[List.nil_append,eu];cases eu (gA H) bs with
  |none=>rfl
  |some r=>obtain⟨ys,c⟩:=r;simp
 |cons a r ih =>
  simp only[List.cons_append,eu,ih];cases gA H a with
  |none=>rfl
  |some q =>
   cases eu (gA H) r with
   |none=>rfl
   |some r1 =>
    cases eu (gA H) bs with
    |none=>rfl
    |some r2=>simp[Bool.or_assoc]
theorem aW{b:Bool}{x y:Code}{K:qk}(h1:b=true->ab6 P N own (.p (.val (.bool false))) x y K env H)(h2:b=false->ab6 P N own (.p (.val (.bool true))) x y K env H):ab6 P N own (.p (.val (.bool !b))) x y K env H:=by
 cases b
 ·exact h2 rfl
 ·exact h1 rfl
theorem bP{b:Bool}{o:Oper}{rest:List Oper}(h1:b=true->aaU P N own ops (some true) o rest K env H)(h2:b=false->aaU P N own ops (some false) o rest K env H):aaU P N own ops (some b) o rest K env H:=by
 cases b
 ·exact h2 rfl
 ·exact h1 rfl
theorem bU{b:Bool}{o:Oper}{rest:List Oper}(h1:b=true->aaU P N own ops (some false) o rest K env H)(h2:b=false->aaU P N own ops (some true) o rest K env H):aaU P N own ops (some !b) o rest K env H:=by
 cases b
 ·exact h2 rfl
 ·exact h1 rfl
theorem pE{b:Bool}{c:o7}{o:Oper}{rest:List (Oper×o7)}(h1:b=true->vN P N own ops (some false) c o rest K env H)(h2:b=false->vN P N own ops (some true) c o rest K env H):vN P N own ops (some !b) c o rest K env H:=by
 cases b
 ·exact h2 rfl
 ·exact h1 rfl
theorem oE{b:Bool}{c:o7}{o:Oper}{rest:List (Oper×o7)}(h1:b=true->vN P N own ops (some true) c o rest K env H)(h2:b=false->vN P N own ops (some false) c o rest K env H):vN P N own ops (some b) c o rest K env H:=by
 cases b
 ·exact h2 rfl
 ·exact h1 rfl
end
end Go.Proofs.YtjhkgjlmiolfoaaGreat
namespace Go.cq
theorem aQ{P:Program}{f:FuncId}{fn:Func}{c:Code}{args:List PV}{Q:PV->Prop}(own:List Nat)(hf:P.funcs[f]? = some fn)(h:cw P fn.ntmps own c (aCi P fn.results.toList Q) (iP args) ck)(hm:P.follows .mixedOrders=true:=by exact Ty.mixed)(hb:fn.body=some c:=by rfl)(hc:gZ P f=true:=by kernel_rfl)(hn:args.length<=fn.ntmps:=by first|decide|simp):aS P f args Q:=akn own hm hf hb hc hn h
theorem bE{P:Program}{f:FuncId}{fn:Func}{c:Code}{args:List PV}{Q:RV->Prop}(own:List Nat)(hf:P.funcs[f]? = some fn)(h:cw P fn.ntmps own c (aCj P fn.results.toList Q) (iP args) ck)(hm:P.follows .mixedOrders=true:=by exact Ty.mixed)(hb:fn.body=some c:=by rfl)(hc:gZ P f=true:=by kernel_rfl)(hn:args.length<=fn.ntmps:=by first|decide|simp):br P f args Q:=ako own hm hf hb hc hn h
end Go.cq
namespace Go.Proofs.YtjhkgjlmiolfoaaGreat
open Go.cq
theorem aaX(n a b:Int):aS pw 154 [.val (.int .i64 n),.val (.int .i64 a),.val (.int .i64 b)] (λr=>r = .val (.bool (decide (a<=n)&&decide (n<=b)))):=by refine aQ [] func154 ?_;rw[ntmps154,results154];simp only[go_sem];refine bP (λh=>?_) (λh=>?_)<;>simp only[go_sem,h]
theorem aav(n m:Int):aS pw 228 [.val (.int .i64 n),.val (.int .i64 m)] (λr=>r = .val (.bool (decide (0<=n)&&decide (n<=m)))):=by refine aQ [] func228 ?_;rw[ntmps228,results228];simp only[go_sem];refine bP (λh=>?_) (λh=>?_)<;>simp only[go_sem,h]
def vO(a b:Int):Bool:=(decide (0<=a)&&decide (a<=40))&&(decide (b = -1)||(decide (a<=b)&&decide (b<=40)))
theorem afs(a b:Int):aS pw 226 [.val (.int .i64 a),.val (.int .i64 b)] (λr=>r = .val (.bool (vO a b))):=by
 unfold vO;refine aQ [] func226 ?_;rw[ntmps226,results226];simp only[go_sem]
 repeat' first|done|(refine bU (λh=>?_) (λh=>?_)<;>try simp only[go_sem,h])|(refine bP (λh=>?_) (λh=>?_)<;>try simp only[go_sem,h])|(refine aW (λh=>?_) (λh=>?_)<;>try simp only[go_sem,h])|(refine aL (λh=>?_) (λh=>?_)<;>try simp only[go_sem,h])
theorem alq(a b:Int):aS pw 237 [.val (.int .i64 a),.val (.int .i64 b)] (λr=>r = .val (.bool (vO a b))):=by
 unfold vO;refine aQ [] func237 ?_;rw[ntmps237,results237];simp only[go_sem];refine aY (aaX a 0 40) (by simp only[go_sem]<;>rfl) (b6 rfl) ?_;simp only[go_sem]
 repeat' first|done|(refine bU (λh=>?_) (λh=>?_)<;>try simp only[go_sem,h])|(refine bP (λh=>?_) (λh=>?_)<;>try simp only[go_sem,h])|(refine aW (λh=>?_) (λh=>?_)<;>try simp only[go_sem,h])|(refine aL (λh=>?_) (λh=>?_)<;>try simp only[go_sem,h])
 all_goals
  refine aY (aaX b a 40) (by simp only[go_sem]<;>rfl) (b6 rfl) ?_;simp only[go_sem, *]
def qq(n:Int):Bool:=(decide (97<=n)&&decide (n<=122))||(decide (65<=n)&&decide (n<=90))
def vP(n:Int):Bool:=decide (48<=n)&&decide (n<=57)
def aaY(n:Int):Bool:=(qq n||vP n)||decide (n=95)
theorem ahK(n:Int):aS pw 396 [.val (.int .u8 n)] (λr=>r = .val (.bool (qq n))):=by
 unfold qq;refine aQ [] func396 ?_;rw[ntmps396,results396];simp only[go_sem]
 repeat' first|done|(refine bU (λh=>?_) (λh=>?_)<;>try simp only[go_sem,h])|(refine bP (λh=>?_) (λh=>?_)<;>try simp only[go_sem,h])|(refine aW (λh=>?_) (λh=>?_)<;>try simp only[go_sem,h])|(refine aL (λh=>?_) (λh=>?_)<;>try simp only[go_sem,h])
end Go.Proofs.YtjhkgjlmiolfoaaGreat
namespace Go.cq
theorem bX{e e':Env}{H H':ay}(h1:afa e' e:=by repeat (first|exact aws _|refine aAf ?_ (by first|rfl|simp[cE])))(h2:HSub H' H:=by repeat (first|exact aDs _|refine ash ?_ (by first|rfl|simp[bk])))(h3:adf e' H':=by repeat (first|exact awt _|refine aAg ?_ (by simp[pg,mU,bk])))(h4:ql H' H':=by repeat (first|exact aAh _|refine anV ?_|refine akM ?_|refine alr ?_|refine alu ?_|refine anU ?_ (by simp[pg,mU,bk])))(h5:lU H H':=by repeat (first|exact aBL _|refine akN (by decide) ?_|refine asi (by simp[bk]) ?_)):cU e H e' H':=aAi h1 h2 h3 h4 h5
end Go.cq
namespace Go.Proofs.YtjhkgjlmiolfoaaGreat
open Go.cq
def idxOf{α:Type}(p:α->Bool)(l:List α):Int:=match l.findIdx? p with
 |some i=>i
 |none=>-1
theorem pF{α:Type} [Inhabited α]{p:α->Bool}{l:List α}{k:Nat}(hk:k<l.length)(h1:∀j,j<k->p (l.getD j default)=false)(h2:p (l.getD k default)=true):idxOf p l=k:=by
 have:l.findIdx? p=some k:=by
  rw[List.findIdx?_eq_some_iff_getElem];refine⟨hk,by simpa[hk] using h2,λj hj=>?_⟩;have:=h1 j hj;have hjl:j<l.length:=by omega
  simpa[hjl] using this
 simp[idxOf,this]
theorem lp{α:Type} [Inhabited α]{p:α->Bool}{l:List α}(h1:∀j,j<l.length->p (l.getD j default)=false):idxOf p l = -1:=by
 have:l.findIdx? p=none:=by rw[List.findIdx?_eq_none_iff];intro x hx;obtain⟨j,hj,rfl⟩:=List.getElem_of_mem hx;have:=h1 j hj;simpa[hj] using this
 simp[idxOf,this]
theorem kN{α:Type}{p:α->Bool}{l:List α} : decide (0<=idxOf p l)=l.any p:=by
 unfold idxOf;cases h:l.findIdx? p with
 |none =>
  rw[List.findIdx?_eq_none_iff] at h;have:l.any p=false:=by simpa using h
  simp[this]
 |some i=>rw[List.findIdx?_eq_some_iff_getElem] at h;obtain⟨hi,h,_⟩:=h;have:l.any p=true:=List.any_eq_true.2 ⟨_,nR hi,h⟩;simp[this]
def pA(cs:List PV):PV:=.agg cs
def pV(cs:List PV):PV:=cs.getD 0 .emp
theorem aoB(p:Attr->Bool)(l:List Attr)(hl:l.length<=1000000)(k:FuncId)(fs cs:List PV)(hp:∀x∈l,aS pw k (fs++[pA (aU x)]++cs) (λr=>r = .val (.bool (p x)))) :
  aS pw 345 [.aV (l.map aU),.ir (.func k) fs cs] (λr=>r = .val (.int .i64 (idxOf p l))):=by
 refine aQ [] func345 ?_;rw[ntmps345,results345];simp only[go_sem];refine bM (σ:=Nat) (λx=>(cE (cE (cE (cE fT 0 (.p (.aV (l.map aU)))) 1 (.p (.ir (.func k) fs cs))) 7 (.p (.val (.int .i64 l.length)))) 8 (.p (.val (.int .i64 x))))) (λx=>ck)
  (λx=>x<=l.length/\∀j,j<x->p (l.getD j default)=false) (λx=>l.length-x) 0 ⟨Nat.zero_le _,λj hj=>absurd hj (Nat.not_lt_zero j)⟩ bX ?_
 rintro x ⟨hx,hq⟩;simp only[go_sem];refine aL (λhc=>?_) (λhc=>?_)
 ·have hlt:x<l.length:=by simpa using hc
  simp only[go_sem,getD_map aU hlt,hlt,aU];refine aY (hp (l.getD x default) (by simp[hlt])) (by simp only[go_sem,jM,jL,aU,pA,Bool.or_false,Bool.false_or]<;>rfl) (b6 rfl) ?_;simp only[go_sem];refine aL (λhb=>?_) (λhb=>?_)<;>simp only[go_sem]
  ·exact (pF hlt hq hb).symm
  ·refine bN (x+1) ⟨hlt,λj hj=>?_⟩ (by omega) ?_
   ·rcases Nat.lt_succ_iff_lt_or_eq.1 hj with h|h
    ·exact hq j h
    ·rw[h];exact hb
   ·rw[bA hlt (by omega)];exact bX
 ·have hge:l.length<=x:=by simpa using hc
  simp only[go_sem,hc];rw[lp λj hj=>hq j (by omega)]
theorem agZ(p:Attr->Bool)(l:List Attr)(hl:l.length<=1000000)(k:FuncId)(fs cs:List PV)(hp:∀x∈l,aS pw k (fs++[pA (aU x)]++cs) (λr=>r = .val (.bool (p x)))) :
  aS pw 288 [.aV (l.map aU),.ir (.func k) fs cs] (λr=>r = .val (.bool (l.any p))):=by
 refine aQ [] func288 ?_;rw[ntmps288,results288];simp only[go_sem];refine aY (aoB p l hl k fs cs hp) (by simp only[go_sem]<;>rfl) (b6 rfl) ?_;simp only[go_sem];exact kN
theorem aoC(p:gB->Bool)(l:List gB)(hl:l.length<=1000000)(k:FuncId)(fs cs:List PV)(hp:∀x∈l,aS pw k (fs++[pA (aJ x)]++cs) (λr=>r = .val (.bool (p x)))) :
  aS pw 287 [.aV (l.map aJ),.ir (.func k) fs cs] (λr=>r = .val (.int .i64 (idxOf p l))):=by
 refine aQ [] func287 ?_;rw[ntmps287,results287];simp only[go_sem];refine bM (σ:=Nat) (λx=>(cE (cE (cE (cE fT 0 (.p (.aV (l.map aJ)))) 1 (.p (.ir (.func k) fs cs))) 7 (.p (.val (.int .i64 l.length)))) 8 (.p (.val (.int .i64 x))))) (λx=>ck)
  (λx=>x<=l.length/\∀j,j<x->p (l.getD j default)=false) (λx=>l.length-x) 0 ⟨Nat.zero_le _,λj hj=>absurd hj (Nat.not_lt_zero j)⟩ bX ?_
 rintro x ⟨hx,hq⟩;simp only[go_sem];refine aL (λhc=>?_) (λhc=>?_)
 ·have hlt:x<l.length:=by simpa using hc
  simp only[go_sem,getD_map aJ hlt,hlt,aJ];refine aY (hp (l.getD x default) (by simp[hlt])) (by simp only[go_sem,jM,jL,aJ,pA,Bool.or_false,Bool.false_or]<;>rfl) (b6 rfl) ?_;simp only[go_sem];refine aL (λhb=>?_) (λhb=>?_)<;>simp only[go_sem]
  ·exact (pF hlt hq hb).symm
  ·refine bN (x+1) ⟨hlt,λj hj=>?_⟩ (by omega) ?_
   ·rcases Nat.lt_succ_iff_lt_or_eq.1 hj with h|h
    ·exact hq j h
    ·rw[h];exact hb
   ·rw[bA hlt (by omega)];exact bX
 ·have hge:l.length<=x:=by simpa using hc
  simp only[go_sem,hc];rw[lp λj hj=>hq j (by omega)]
theorem ag0(p:gB->Bool)(l:List gB)(hl:l.length<=1000000)(k:FuncId)(fs cs:List PV)(hp:∀x∈l,aS pw k (fs++[pA (aJ x)]++cs) (λr=>r = .val (.bool (p x)))) :
  aS pw 219 [.aV (l.map aJ),.ir (.func k) fs cs] (λr=>r = .val (.bool (l.any p))):=by
 refine aQ [] func219 ?_;rw[ntmps219,results219];simp only[go_sem];refine aY (aoC p l hl k fs cs hp) (by simp only[go_sem]<;>rfl) (b6 rfl) ?_;simp only[go_sem];exact kN
theorem alv(p:lW->Bool)(l:List lW)(hl:l.length<=1000000)(k:FuncId)(fs cs:List PV)(hp:∀x∈l,aS pw k (fs++[pA (aM x)]++cs) (λr=>r = .val (.bool (p x)))) :
  aS pw 291 [.aV (l.map aM),.ir (.func k) fs cs] (λr=>r = .val (.int .i64 (idxOf p l))):=by
 refine aQ [] func291 ?_;rw[ntmps291,results291];simp only[go_sem];refine bM (σ:=Nat) (λx=>(cE (cE (cE (cE fT 0 (.p (.aV (l.map aM)))) 1 (.p (.ir (.func k) fs cs))) 7 (.p (.val (.int .i64 l.length)))) 8 (.p (.val (.int .i64 x))))) (λx=>ck)
  (λx=>x<=l.length/\∀j,j<x->p (l.getD j default)=false) (λx=>l.length-x) 0 ⟨Nat.zero_le _,λj hj=>absurd hj (Nat.not_lt_zero j)⟩ bX ?_
 rintro x ⟨hx,hq⟩;simp only[go_sem];refine aL (λhc=>?_) (λhc=>?_)
 ·have hlt:x<l.length:=by simpa using hc
  simp only[go_sem,getD_map aM hlt,hlt,aM];refine aY (hp (l.getD x default) (by simp[hlt])) (by simp only[go_sem,jM,jL,aM,pA,Bool.or_false,Bool.false_or]<;>rfl) (b6 rfl) ?_;simp only[go_sem];refine aL (λhb=>?_) (λhb=>?_)<;>simp only[go_sem]
  ·exact (pF hlt hq hb).symm
  ·refine bN (x+1) ⟨hlt,λj hj=>?_⟩ (by omega) ?_
   ·rcases Nat.lt_succ_iff_lt_or_eq.1 hj with h|h
    ·exact hq j h
    ·rw[h];exact hb
   ·rw[bA hlt (by omega)];exact bX
 ·have hge:l.length<=x:=by simpa using hc
  simp only[go_sem,hc];rw[lp λj hj=>hq j (by omega)]
theorem aft(p:lW->Bool)(l:List lW)(hl:l.length<=1000000)(k:FuncId)(fs cs:List PV)(hp:∀x∈l,aS pw k (fs++[pA (aM x)]++cs) (λr=>r = .val (.bool (p x)))) :
  aS pw 224 [.aV (l.map aM),.ir (.func k) fs cs] (λr=>r = .val (.bool (l.any p))):=by
 refine aQ [] func224 ?_;rw[ntmps224,results224];simp only[go_sem];refine aY (alv p l hl k fs cs hp) (by simp only[go_sem]<;>rfl) (b6 rfl) ?_;simp only[go_sem];exact kN
theorem aoD(p:Edge->Bool)(l:List Edge)(hl:l.length<=1000000)(k:FuncId)(fs cs:List PV)(hp:∀x∈l,aS pw k (fs++[pA (aZ x)]++cs) (λr=>r = .val (.bool (p x)))) :
  aS pw 292 [.aV (l.map aZ),.ir (.func k) fs cs] (λr=>r = .val (.int .i64 (idxOf p l))):=by
 refine aQ [] func292 ?_;rw[ntmps292,results292];simp only[go_sem];refine bM (σ:=Nat) (λx=>(cE (cE (cE (cE fT 0 (.p (.aV (l.map aZ)))) 1 (.p (.ir (.func k) fs cs))) 7 (.p (.val (.int .i64 l.length)))) 8 (.p (.val (.int .i64 x))))) (λx=>ck)
  (λx=>x<=l.length/\∀j,j<x->p (l.getD j default)=false) (λx=>l.length-x) 0 ⟨Nat.zero_le _,λj hj=>absurd hj (Nat.not_lt_zero j)⟩ bX ?_
 rintro x ⟨hx,hq⟩;simp only[go_sem];refine aL (λhc=>?_) (λhc=>?_)
 ·have hlt:x<l.length:=by simpa using hc
  simp only[go_sem,getD_map aZ hlt,hlt,aZ];refine aY (hp (l.getD x default) (by simp[hlt])) (by simp only[go_sem,jM,jL,aZ,pA,Bool.or_false,Bool.false_or]<;>rfl) (b6 rfl) ?_;simp only[go_sem];refine aL (λhb=>?_) (λhb=>?_)<;>simp only[go_sem]
  ·exact (pF hlt hq hb).symm
  ·refine bN (x+1) ⟨hlt,λj hj=>?_⟩ (by omega) ?_
   ·rcases Nat.lt_succ_iff_lt_or_eq.1 hj with h|h
    ·exact hq j h
    ·rw[h];exact hb
   ·rw[bA hlt (by omega)];exact bX
 ·have hge:l.length<=x:=by simpa using hc
  simp only[go_sem,hc];rw[lp λj hj=>hq j (by omega)]
theorem ag1(p:Edge->Bool)(l:List Edge)(hl:l.length<=1000000)(k:FuncId)(fs cs:List PV)(hp:∀x∈l,aS pw k (fs++[pA (aZ x)]++cs) (λr=>r = .val (.bool (p x)))) :
  aS pw 229 [.aV (l.map aZ),.ir (.func k) fs cs] (λr=>r = .val (.bool (l.any p))):=by
 refine aQ [] func229 ?_;rw[ntmps229,results229];simp only[go_sem];refine aY (aoD p l hl k fs cs hp) (by simp only[go_sem]<;>rfl) (b6 rfl) ?_;simp only[go_sem];exact kN
theorem as0(p:Int->Bool)(l:List Int)(hl:l.length<=1000000)(k:FuncId)(fs cs:List PV)(hp:∀x∈l,aS pw k (fs++[pV (encI x)]++cs) (λr=>r = .val (.bool (p x)))) :
  aS pw 123 [.aV (l.map encI),.ir (.func k) fs cs] (λr=>r = .val (.int .i64 (idxOf p l))):=by
 refine aQ [] func123 ?_;rw[ntmps123,results123];simp only[go_sem];refine bM (σ:=Nat) (λx=>(cE (cE (cE (cE fT 0 (.p (.aV (l.map encI)))) 1 (.p (.ir (.func k) fs cs))) 7 (.p (.val (.int .i64 l.length)))) 8 (.p (.val (.int .i64 x))))) (λx=>ck)
  (λx=>x<=l.length/\∀j,j<x->p (l.getD j default)=false) (λx=>l.length-x) 0 ⟨Nat.zero_le _,λj hj=>absurd hj (Nat.not_lt_zero j)⟩ bX ?_
 rintro x ⟨hx,hq⟩;simp only[go_sem];refine aL (λhc=>?_) (λhc=>?_)
 ·have hlt:x<l.length:=by simpa using hc
  simp only[go_sem,getD_map encI hlt,hlt,encI];refine aY (hp (l.getD x default) (by simp[hlt])) (by simp only[go_sem,jM,jL,encI,pV,Bool.or_false,Bool.false_or]<;>rfl) (b6 rfl) ?_;simp only[go_sem];refine aL (λhb=>?_) (λhb=>?_)<;>simp only[go_sem]
  ·exact (pF hlt hq hb).symm
  ·refine bN (x+1) ⟨hlt,λj hj=>?_⟩ (by omega) ?_
   ·rcases Nat.lt_succ_iff_lt_or_eq.1 hj with h|h
    ·exact hq j h
    ·rw[h];exact hb
   ·rw[bA hlt (by omega)];exact bX
 ·have hge:l.length<=x:=by simpa using hc
  simp only[go_sem,hc];rw[lp λj hj=>hq j (by omega)]
theorem aci(p:Int->Bool)(l:List Int)(hl:l.length<=1000000)(k:FuncId)(fs cs:List PV)(hp:∀x∈l,aS pw k (fs++[pV (encI x)]++cs) (λr=>r = .val (.bool (p x)))) :
  aS pw 65 [.aV (l.map encI),.ir (.func k) fs cs] (λr=>r = .val (.bool (l.any p))):=by
 refine aQ [] func65 ?_;rw[ntmps65,results65];simp only[go_sem];refine aY (as0 p l hl k fs cs hp) (by simp only[go_sem]<;>rfl) (b6 rfl) ?_;simp only[go_sem];exact kN
theorem aCx(l:List Int)(y:Int)(hl:l.length<=1000000) :
  aS pw 63 [.aV (l.map encI),.val (.int .i64 y)] (λr=>r = .val (.int .i64 (idxOf (λx=>decide (y=x)) l))):=by
 refine aQ [] func63 ?_;rw[ntmps63,results63];simp only[go_sem];refine bM (σ:=Nat) (λx=>(cE (cE (cE (cE fT 0 (.p (.aV (l.map encI)))) 1 (.p (.val (.int .i64 y)))) 7 (.p (.val (.int .i64 l.length)))) 8 (.p (.val (.int .i64 x))))) (λx=>ck)
  (λx=>x<=l.length/\∀j,j<x->decide (y=l.getD j default)=false) (λx=>l.length-x) 0 ⟨Nat.zero_le _,λj hj=>absurd hj (Nat.not_lt_zero j)⟩ bX ?_
 rintro x ⟨hx,hq⟩;simp only[go_sem];refine aL (λhc=>?_) (λhc=>?_)
 ·have hlt:x<l.length:=by simpa using hc
  simp only[go_sem,getD_map encI hlt,hlt,encI];refine aL (λhb=>?_) (λhb=>?_)<;>simp only[go_sem]
  ·exact (pF (p:=λx=>decide (y=x)) hlt hq hb).symm
  ·refine bN (x+1) ⟨hlt,λj hj=>?_⟩ (by omega) ?_
   ·rcases Nat.lt_succ_iff_lt_or_eq.1 hj with h|h
    ·exact hq j h
    ·rw[h];exact hb
   ·rw[bA hlt (by omega)];exact bX
 ·have hge:l.length<=x:=by simpa using hc
  simp only[go_sem,hc];rw[lp λj hj=>hq j (by omega)]
theorem aAF(l:List Int)(y:Int)(hl:l.length<=1000000) :
  aS pw 25 [.aV (l.map encI),.val (.int .i64 y)] (λr=>r = .val (.bool (l.any λx=>decide (y=x)))):=by
 refine aQ [] func25 ?_;rw[ntmps25,results25];simp only[go_sem];refine aY (aCx l y hl) (by simp only[go_sem]<;>rfl) (b6 rfl) ?_;simp only[go_sem];exact kN
theorem aCy(l:List ByteArray)(y:ByteArray)(hl:l.length<=1000000) :
  aS pw 403 [.aV (l.map iF),.val (.string y)] (λr=>r = .val (.int .i64 (idxOf (λx=>decide (y=x)) l))):=by
 refine aQ [] func403 ?_;rw[ntmps403,results403];simp only[go_sem];refine bM (σ:=Nat) (λx=>(cE (cE (cE (cE fT 0 (.p (.aV (l.map iF)))) 1 (.p (.val (.string y)))) 7 (.p (.val (.int .i64 l.length)))) 8 (.p (.val (.int .i64 x))))) (λx=>ck)
  (λx=>x<=l.length/\∀j,j<x->decide (y=l.getD j default)=false) (λx=>l.length-x) 0 ⟨Nat.zero_le _,λj hj=>absurd hj (Nat.not_lt_zero j)⟩ bX ?_
 rintro x ⟨hx,hq⟩;simp only[go_sem];refine aL (λhc=>?_) (λhc=>?_)
 ·have hlt:x<l.length:=by simpa using hc
  simp only[go_sem,getD_map iF hlt,hlt,iF];refine aL (λhb=>?_) (λhb=>?_)<;>simp only[go_sem]
  ·exact (pF (p:=λx=>decide (y=x)) hlt hq hb).symm
  ·refine bN (x+1) ⟨hlt,λj hj=>?_⟩ (by omega) ?_
   ·rcases Nat.lt_succ_iff_lt_or_eq.1 hj with h|h
    ·exact hq j h
    ·rw[h];exact hb
   ·rw[bA hlt (by omega)];exact bX
 ·have hge:l.length<=x:=by simpa using hc
  simp only[go_sem,hc];rw[lp λj hj=>hq j (by omega)]
theorem aqv(l:List ByteArray)(y:ByteArray)(hl:l.length<=1000000) :
  aS pw 346 [.aV (l.map iF),.val (.string y)] (λr=>r = .val (.bool (l.any λx=>decide (y=x)))):=by
 refine aQ [] func346 ?_;rw[ntmps346,results346];simp only[go_sem];refine aY (aCy l y hl) (by simp only[go_sem]<;>rfl) (b6 rfl) ?_;simp only[go_sem];exact kN
theorem afu(n:Int):aS pw 399 [.val (.int .u8 n)] (λr=>r = .val (.bool (vP n))):=by
 unfold vP;refine aQ [] func399 ?_;rw[ntmps399,results399];simp only[go_sem]
 repeat' first|done|(refine bU (λh=>?_) (λh=>?_)<;>try simp only[go_sem,h])|(refine bP (λh=>?_) (λh=>?_)<;>try simp only[go_sem,h])|(refine aW (λh=>?_) (λh=>?_)<;>try simp only[go_sem,h])|(refine aL (λh=>?_) (λh=>?_)<;>try simp only[go_sem,h])
theorem aAG(n:Int):aS pw 398 [.val (.int .u8 n)] (λr=>r = .val (.bool (aaY n))):=by
 unfold aaY;refine aQ [] func398 ?_;rw[ntmps398,results398];simp only[go_sem];refine aY (ahK n) (by simp only[go_sem]<;>rfl) (b6 rfl) ?_;simp only[go_sem];refine bU (λh=>?_) (λh=>?_)<;>simp only[go_sem,h]
 refine aY (afu n) (by simp only[go_sem]<;>rfl) (b6 rfl) ?_;simp only[go_sem];refine bU (λh=>?_) (λh=>?_)<;>simp only[go_sem,h]
def alw(n:Int):Bool:=(decide (32<=n)&&decide (n<=126)) && !decide (n=34)
theorem axd(n:Int):aS pw 431 [.val (.int .u8 n)] (λr=>r = .val (.bool (alw n))):=by
 unfold alw;refine aQ [] func431 ?_;rw[ntmps431,results431];simp only[go_sem]
 repeat' first|done|(refine bU (λh=>?_) (λh=>?_)<;>try simp only[go_sem,h])|(refine bP (λh=>?_) (λh=>?_)<;>try simp only[go_sem,h])|(refine aW (λh=>?_) (λh=>?_)<;>try simp only[go_sem,h])|(refine aL (λh=>?_) (λh=>?_)<;>try simp only[go_sem,h])
def aet(p:Int->Bool)(s:ByteArray)(a:Nat):Nat:=((List.range (s.size-a)).takeWhile λj=>p (lB s (a+j))).length
theorem aeu(q:Nat->Bool):∀ (m n:Nat),n<=m->(∀j,j<n->q j=true)->(n=m\/q n=false)->((List.range m).takeWhile q).length=n:=by
 intro m n hn h1 h2;have e:List.range m=List.range n++(List.range (m-n)).map (n + ·):=by rw[<-List.range_add];congr 1;omega
 rw[e,List.takeWhile_append_of_pos (by intro j hj;exact h1 j (List.mem_range.1 hj))];rcases h2 with rfl|h2
 ·simp
 ·cases hm:m-n with
  |zero=>simp
  |succ r=>simp[List.range_succ_eq_map,h2]
theorem aeG{p:Int->Bool}{s:ByteArray}{a n:Nat}(hn:a+n<=s.size)(h1:∀j,j<n->p (lB s (a+j))=true)(h2:a+n=s.size\/p (lB s (a+n))=false):aet p s a=n:=aeu _ _ _ (by omega) h1 (by rcases h2 with h|h;exact .inl (by omega);exact .inr h)
theorem aji(p:Int->Bool)(s:ByteArray)(a:Nat):aet p s a<=s.size-a:=by unfold aet;exact Nat.le_trans (List.takeWhile_sublist _).length_le (by simp)
theorem aoE(p:Int->Bool)(s:ByteArray)(hl:s.size<=1000000)(k:FuncId)(fs cs:List PV)(hp:∀n,aS pw k (fs++[.val (.int .u8 n)]++cs) (λr=>r = .val (.bool (p n)))) :
  aS pw 397 [.val (.string s),.ir (.func k) fs cs] (λr=>r = .val (.int .i64 (aet p s 0))):=by
 refine aQ [] func397 ?_;rw[ntmps397,results397];simp only[go_sem];refine bM (σ:=Nat) (λx=>(cE (cE (cE fT 0 (.p (.val (.string s)))) 1 (.p (.ir (.func k) fs cs))) 5 (.p (.val (.int .i64 x))))) (λx=>ck)
  (λx=>x<=s.size/\∀j,j<x->p (lB s (0+j))=true) (λx=>s.size-x) 0 ⟨Nat.zero_le _,λj hj=>absurd hj (Nat.not_lt_zero j)⟩ bX ?_
 rintro x ⟨hx,hq⟩;simp only[go_sem];refine bP (λhc=>?_) (λhc=>?_)
 ·have hlt:x<s.size:=by simpa using hc
  simp only[go_sem,hlt,hc];refine aY (hp (lB s x)) (by simp only[go_sem,jM,jL,Bool.or_false,Bool.false_or]<;>rfl) (b6 rfl) ?_;simp only[go_sem,hc];refine aL (λhb=>?_) (λhb=>?_)<;>simp only[go_sem]
  ·refine bN (x+1) ⟨hlt,λj hj=>?_⟩ (by omega) ?_
   ·rcases Nat.lt_succ_iff_lt_or_eq.1 hj with h|h
    ·simpa using hq j h
    ·rw[h];exact hb
   ·rw[bA hlt (by omega)];exact bX
  ·rw[aeG (by omega) hq (.inr (by rw[Nat.zero_add];exact hb))]
 ·have hge:s.size<=x:=by simpa using hc
  simp only[go_sem,hc];rw[aeG (by omega) hq (.inl (by omega))]
theorem as1(s:ByteArray)(hl:s.size<=1000000)(h0:0<s.size):aS pw 400 [.val (.string s)] (λr=>∃n e:Int,r = .dQ [.val (.int .i64 n),.val (.int .i64 e)]):=by
 have h1:((s.extract 1 s.size).size:Int)=s.size-1:=by simp;omega
 have h2:=aji alw (s.extract 1 s.size) 0;generalize hm:aet alw (s.extract 1 s.size) 0=m at h2;have h3:i64.wrap (1+(m:Int))=((m+1:Nat):Int):=by rw[IntWalk.i64_in _ (by omega)];omega
 refine aQ [] func400 ?_;rw[ntmps400,results400];simp only[go_sem];refine⟨⟨by omega,by omega,by omega⟩,?_⟩;refine aY (aoE alw (s.extract 1 s.size) (by simp;omega) _ [] [] axd) (by simp only[go_sem]<;>rfl) (b6 rfl) ?_;simp only[go_sem,hm,h3];refine bU (λh=>?_) (λh=>?_)
 ·simp only[go_sem,h];exact⟨_,_,rfl,rfl⟩
 ·have hne:m+1≠s.size:=by intro e;rw[e] at h;simp at h
  have hlt:m+1<s.size:=by simp at h2;omega
  simp only[go_sem,h,h3,hlt];refine aL (λhb=>?_) (λhb=>?_)<;>simp only[go_sem]
  ·exact⟨_,_,rfl,rfl⟩
  ·refine aL (λhb=>?_) (λhb=>?_)<;>simp only[go_sem]
   ·exact⟨_,_,rfl,rfl⟩
   ·exact⟨_,_,rfl,rfl⟩
def aEe:List ByteArray:=[⟨#[45,62]⟩,⟨#[60,61]⟩,⟨#[62,61]⟩,⟨#[61,61]⟩,⟨#[33,61]⟩]
theorem aAH(s:ByteArray):aS pw 401 [.val (.string s)] (λr=>∃b:Bool,r = .val (.bool b)):=by
 refine aQ [] func401 ?_;rw[ntmps401,results401];simp only[go_sem];refine bP (λh=>?_) (λh=>?_)
 ·have h2:(2:Int)<=s.size:=cm h;simp only[go_sem,h];refine⟨⟨by decide,by decide,h2⟩,?_⟩;refine aY (aqv aEe (s.extract 0 2) (by decide)) (by simp only[go_sem]<;>rfl) (b6 rfl) ?_;simp only[go_sem,h];all_goals exact⟨_,rfl⟩
 ·simp only[go_sem,h];all_goals exact⟨_,rfl⟩
theorem aAI(s:ByteArray)(n:Int):aCf pw 443 [.val (.string s),.val (.int .u8 n)] (.val (.int .i64 (Lib.indexByte s.data.toList n.toNat.toUInt8))):=by
 intro I w us hu;obtain⟨hl,hv⟩:=hu
 match us,hl,hv with
 | [a,b],_,hv=>have ha:=hv 0 a _ rfl rfl;have hb:=hv 1 b _ rfl rfl;cases ha;cases hb;refine⟨_,?_,.val _ rfl⟩;rw[run_callFunc_extern func443 (by kernel_rfl) (by kernel_rfl) (by kernel_rfl) (e:=Extern.BytealgIndexByte.indexByte) (by kernel_rfl)];rw[Lib.run_indexByteString];try rfl
theorem aAJ(s:ByteArray)(n:Int):aS pw 432 [.val (.string s),.val (.int .u8 n)] (λr=>∃m:Int,r = .val (.int .i64 m)):=by refine aQ [] func432 ?_;rw[ntmps432,results432];simp only[go_sem];refine awM (aAI s n) rfl ?_;simp only[go_sem];all_goals exact⟨_,rfl⟩
theorem aAK(s:ByteArray)(n:Int):aS pw 402 [.val (.string s),.val (.int .u8 n)] (λr=>∃m:Int,r = .val (.int .i64 m)):=by refine aQ [] func402 ?_;rw[ntmps402,results402];simp only[go_sem];refine sv (aAJ s n) (by simp only[go_sem]<;>rfl) ?_;rintro r ⟨m,rfl⟩;refine⟨b6 rfl,?_⟩;simp only[go_sem];all_goals exact⟨_,rfl⟩
def lE(s:ByteArray):Bool:=decide (s.size≠0)&&qq (lB s 0)&&decide (aet aaY s 0=s.size)&&decide (s.size<=20)
theorem aaw(s:ByteArray):lE s=true↔s.size≠0/\qq (lB s 0)=true/\aet aaY s 0=s.size/\s.size<=20:=by unfold lE;simp only[Bool.and_eq_true,decide_eq_true_eq,and_assoc]
theorem aAL(s:ByteArray)(hl:s.size<=1000000)(h0:0<s.size):aS pw 344 [.val (.string s)] (λr =>
  ∃k n e:Int,r = .dQ [.val (.int .i64 k),.val (.int .i64 n),.val (.int .i64 e)]/\((e=0/\k=1/\n=s.size)↔lE s=true)):=by
 have h0':(0:Int)<s.size:=by omega
 refine aQ [] func344 ?_;rw[ntmps344,results344];simp only[go_sem];refine⟨⟨by decide,h0'⟩,?_⟩;refine aY (ahK (lB s 0)) (by simp only[go_sem]<;>rfl) (b6 rfl) ?_;simp only[go_sem];refine aL (λhc=>?_) (λhc=>?_)<;>simp only[go_sem]
 ·refine aY (aoE aaY s hl _ [] [] aAG) (by simp only[go_sem]<;>rfl) (b6 rfl) ?_;simp only[go_sem];refine aL (λhd=>?_) (λhd=>?_)<;>simp only[go_sem]
  ·have hd':=cm hd;refine⟨_,_,_,⟨rfl,rfl,rfl⟩,?_⟩;rw[aaw];constructor
   ·rintro⟨h,_⟩;omega
   ·rintro⟨_,_,h1,h2⟩;omega
  ·have hd':=ew hd;refine⟨_,_,_,⟨rfl,rfl,rfl⟩,?_⟩;rw[aaw];constructor
   ·rintro⟨_,_,h⟩;exact⟨by omega,hc,by omega,by omega⟩
   ·rintro⟨_,_,h1,h2⟩;exact⟨rfl,rfl,by omega⟩
 ·have hn:lE s=false:=by simp[lE,hc]
  refine aY (afu (lB s 0)) (by simp only[go_sem]<;>rfl) (b6 rfl) ?_;simp only[go_sem];refine aL (λhd=>?_) (λhd=>?_)<;>simp only[go_sem]
  ·refine aY (aoE vP s hl _ [] [] afu) (by simp only[go_sem]<;>rfl) (b6 rfl) ?_;simp only[go_sem];refine aL (λhd=>?_) (λhd=>?_)<;>simp only[go_sem]
   ·exact⟨_,_,_,⟨rfl,rfl,rfl⟩,by simp[hn]⟩
   ·exact⟨_,_,_,⟨rfl,rfl,rfl⟩,by simp[hn]⟩
  ·refine aL (λhq=>?_) (λhq=>?_)<;>simp only[go_sem]
   ·refine sv (as1 s hl h0) (by simp only[go_sem]<;>rfl) ?_;rintro r ⟨n,e,rfl⟩;refine⟨b6 rfl,?_⟩;simp only[go_sem];exact⟨_,_,_,⟨rfl,rfl,rfl⟩,by simp[hn]⟩
   ·refine sv (aAH s) (by simp only[go_sem]<;>rfl) ?_;rintro r ⟨b,rfl⟩;refine⟨b6 rfl,?_⟩;simp only[go_sem];refine aL (λhp=>?_) (λhp=>?_)<;>simp only[go_sem]
    ·exact⟨_,_,_,⟨rfl,rfl,rfl⟩,by simp[hn]⟩
    ·refine sv (aAK _ _) (by simp only[go_sem]<;>rfl) ?_;rintro r ⟨b,rfl⟩;refine⟨b6 rfl,?_⟩;simp only[go_sem];refine aL (λhp=>?_) (λhp=>?_)<;>simp only[go_sem]
     ·exact⟨_,_,_,⟨rfl,rfl,rfl⟩,by simp[hn]⟩
     ·exact⟨_,_,_,⟨rfl,rfl,rfl⟩,by simp[hn]⟩
def okT(b:Bool):PV:=.val (.bool b)
theorem axe(s:ByteArray)(hl:s.size<=1000000):aS pw 286 [.agg [.val (.int .i64 1),.val (.string s),.val (.int .i64 0)]] (λr=>∃u:ByteArray,r = .dQ [.val (.string u),.val (.bool (lE s))]):=by
 refine aQ [] func286 ?_;rw[ntmps286,results286];simp only[go_sem,Int.reduceEq];refine aL (λhc=>?_) (λhc=>?_)<;>simp only[go_sem]
 ·have he:s=⟨#[]⟩:=cm hc;have:lE s=false:=by rw[he];try rfl
  rw[this];exact⟨_,rfl,rfl⟩
 ·have he:s≠⟨#[]⟩:=ew hc;have h0:0<s.size:=by
   rcases Nat.eq_zero_or_pos s.size with h|h
   ·exact absurd (ByteArray.ext (Array.eq_empty_of_size_eq_zero h)) he
   ·exact h
  refine sv (aAL s hl h0) (by simp only[go_sem]<;>rfl) ?_;rintro r ⟨k,n,e,rfl,hiff⟩;refine⟨b6 rfl,?_⟩;have hn:lE s=((decide (e=0)&&decide (k=1))&&decide (n=s.size)):=by rw[Bool.eq_iff_iff,<-hiff];simp only[Bool.and_eq_true,decide_eq_true_eq,and_assoc]
  rw[hn];simp only[go_sem];refine bP (λh=>?_) (λh=>?_)<;>simp only[go_sem,h,exists_eq',exists_and_right,and_true,true_and]
  refine bP (λh'=>?_) (λh'=>?_)<;>simp only[go_sem,h,h',exists_eq',exists_and_right,and_true,true_and]
theorem aax(s:ByteArray)(hl:s.size<=1000000):aS pw 218 [.val (.string s)] (λr=>r = .val (.bool (lE s))):=by refine aQ [] func218 ?_;rw[ntmps218,results218];simp only[go_sem];refine sv (axe s hl) (by simp only[go_sem]<;>rfl) ?_;rintro r ⟨u,rfl⟩;refine⟨b6 rfl,?_⟩;simp only[go_sem]
theorem afv(n:Int):aS pw 404 [.val (.int .u8 n)] (λr=>r = .val (.bool (qq n))):=by
 unfold qq;refine aQ [] func404 ?_;rw[ntmps404,results404];simp only[go_sem]
 repeat' first|done|(refine bU (λh=>?_) (λh=>?_)<;>try simp only[go_sem,h])|(refine bP (λh=>?_) (λh=>?_)<;>try simp only[go_sem,h])|(refine aW (λh=>?_) (λh=>?_)<;>try simp only[go_sem,h])|(refine aL (λh=>?_) (λh=>?_)<;>try simp only[go_sem,h])
theorem tX(n:Int):aS pw 405 [.val (.int .u8 n)] (λr=>r = .val (.bool (vP n))):=by
 unfold vP;refine aQ [] func405 ?_;rw[ntmps405,results405];simp only[go_sem]
 repeat' first|done|(refine bU (λh=>?_) (λh=>?_)<;>try simp only[go_sem,h])|(refine bP (λh=>?_) (λh=>?_)<;>try simp only[go_sem,h])|(refine aW (λh=>?_) (λh=>?_)<;>try simp only[go_sem,h])|(refine aL (λh=>?_) (λh=>?_)<;>try simp only[go_sem,h])
def ry(digits:Bool)(n:Int):Bool:=vP n||(!digits&&(qq n||decide (n=95)))
theorem ajj:ry false=aaY:=by funext n;unfold ry aaY;cases vP n<;>cases qq n<;>simp
theorem aqw(s:ByteArray)(hl:s.size<=1000000)(b:Bool) :
  aS pw 406 [.val (.string s),.val (.int .i64 0),.val (.bool b)] (λr=>r = .val (.int .i64 (aet (ry b) s 0))):=by
 refine aQ [] func406 ?_;rw[ntmps406,results406];simp only[go_sem];refine bM (σ:=Nat) (λx=>(cE (cE (cE (cE fT 0 (.p (.val (.string s)))) 1 (.p (.val (.int .i64 0)))) 2 (.p (.val (.bool b)))) 7 (.p (.val (.int .i64 x))))) (λx=>ck)
  (λx=>x<=s.size/\∀j,j<x->ry b (lB s (0+j))=true) (λx=>s.size-x) 0 ⟨Nat.zero_le _,λj hj=>absurd hj (Nat.not_lt_zero j)⟩ bX ?_
 rintro x ⟨hx,hq⟩;have hw:i64.wrap (0+(x:Int))=x:=by rw[IntWalk.i64_in _ (by omega)];omega
 simp only[go_sem,hw];refine bP (λhc=>?_) (λhc=>?_)
 ·have hlt:x<s.size:=by simpa using hc
  have fin (h:ry b (lB s x)=false):((x:Nat):Int)=(aet (ry b) s 0:Nat):=by rw[aeG (by omega) hq (.inr (by rw[Nat.zero_add];exact h))]
  simp only[go_sem,hlt,hc,hw];refine aY (tX (lB s x)) (by simp only[go_sem]<;>rfl) (b6 rfl) ?_;simp only[go_sem,hc,hw];refine bU (λh1=>?_) (λh1=>?_)<;>simp only[go_sem,h1,hc,hw]
  ·refine bN (x+1) ⟨hlt,λj hj=>?_⟩ (by omega) ?_
   ·rcases Nat.lt_succ_iff_lt_or_eq.1 hj with h|h
    ·simpa using hq j h
    ·rw[h];simp[ry,h1]
   ·rw[bA hlt (by omega)];exact bX
  ·refine bU (λh2=>?_) (λh2=>?_)<;>simp only[go_sem,h1,h2,hc,hw]
   ·subst h2;exact fin (by simp[ry,h1])
   ·subst h2;refine⟨hlt,?_⟩;refine aY (afv (lB s x)) (by simp only[go_sem]<;>rfl) (b6 rfl) ?_;simp only[go_sem,hc,hw];refine bU (λh3=>?_) (λh3=>?_)<;>simp only[go_sem,h1,h3,hc,hw,hlt]
    ·refine bN (x+1) ⟨hlt,λj hj=>?_⟩ (by omega) ?_
     ·rcases Nat.lt_succ_iff_lt_or_eq.1 hj with h|h
      ·simpa using hq j h
      ·rw[h];simp[ry,h3]
     ·rw[bA hlt (by omega)];exact bX
    ·refine aL (λh4=>?_) (λh4=>?_)<;>simp only[go_sem]
     ·refine bN (x+1) ⟨hlt,λj hj=>?_⟩ (by omega) ?_
      ·rcases Nat.lt_succ_iff_lt_or_eq.1 hj with h|h
       ·simpa using hq j h
       ·rw[h];simp[ry,h4]
      ·rw[bA hlt (by omega)];exact bX
     ·exact fin (by simp[ry,h1,h3,h4])
 ·have hge:s.size<=x:=by simpa using hc
  simp only[go_sem,hc];rw[aeG (by omega) hq (.inl (by omega))]
theorem aoF(s:ByteArray)(hl:s.size<=1000000):aS pw 407 [.val (.string s),.val (.int .i64 0)] (λr=>∃n:Nat,r = .val (.int .i64 n)/\(n=0\/(2<=n/\n<=s.size))):=by
 refine aQ [] func407 ?_;rw[ntmps407,results407];simp only[go_sem];refine bM (σ:=Nat) (λx=>(cE (cE (cE fT 0 (.p (.val (.string s)))) 1 (.p (.val (.int .i64 0)))) 5 (.p (.val (.int .i64 x))))) (λx=>ck)
  (λx=>1<=x/\x<=s.size+1) (λx=>s.size+1-x) 1 ⟨Nat.le_refl _,by omega⟩ bX ?_
 rintro x ⟨hx1,hx⟩;have hw:i64.wrap (0+(x:Int))=x:=by rw[IntWalk.i64_in _ (by omega)];omega
 simp only[go_sem,hw];refine aL (λhc=>?_) (λhc=>?_)
 ·have hlt:x<s.size:=by simpa using hc
  simp only[go_sem,hlt,hw];refine aL (λh1=>?_) (λh1=>?_)<;>simp only[go_sem]
  ·rw[bA hlt (by omega)];exact⟨x+1,rfl,.inr ⟨by omega,by omega⟩⟩
  ·refine bU (λh2=>?_) (λh2=>?_)<;>simp only[go_sem,h2]
   ·exact⟨0,rfl,.inl rfl⟩
   ·refine aL (λh3=>?_) (λh3=>?_)<;>simp only[go_sem]
    ·exact⟨0,rfl,.inl rfl⟩
    ·refine bN (x+1) ⟨by omega,by omega⟩ (by omega) ?_;rw[bA hlt (by omega)];exact bX
 ·simp only[go_sem];exact⟨0,rfl,.inl rfl⟩
def acj:List ByteArray:=[⟨#[45,62]⟩,⟨#[60,61]⟩,⟨#[62,61]⟩,⟨#[61,61]⟩,⟨#[33,61]⟩,⟨#[123]⟩,⟨#[125]⟩,⟨#[40]⟩,⟨#[41]⟩,⟨#[91]⟩,⟨#[93]⟩,⟨#[44]⟩,⟨#[59]⟩,⟨#[58]⟩,⟨#[61]⟩,⟨#[43]⟩,⟨#[45]⟩,⟨#[42]⟩,⟨#[60]⟩,⟨#[62]⟩,⟨#[33]⟩,⟨#[38]⟩,⟨#[124]⟩,⟨#[46]⟩,⟨#[63]⟩]
theorem axf:aS pw 408 [] (λr=>r = .aV (acj.map iF)):=by refine aQ [] func408 ?_;rw[ntmps408,results408];simp only[go_sem];try rfl
theorem ajk{n:Int}(h:qq n=true):vP n=false:=by unfold qq vP at *;simp at *;omega
theorem aCz(s:ByteArray)(hl:s.size<=1000000)(h0:0<s.size):aS pw 349 [.val (.string s),.val (.int .i64 0)] (λr =>
  ∃ (k n e:Int) (u:ByteArray),r = .dQ [.agg [.val (.int .i64 k),.val (.string u),.val (.int .i64 0)],.val (.int .i64 n),.val (.int .i64 e)]/\((e=0/\k=1/\n=s.size)↔lE s=true)):=by
 have h0':(0:Int)<s.size:=by omega
 refine aQ [] func349 ?_;rw[ntmps349,results349];simp only[go_sem];refine⟨⟨by decide,h0'⟩,?_⟩;refine aY (afv (lB s 0)) (by simp only[go_sem]<;>rfl) (b6 rfl) ?_;simp only[go_sem];refine bU (λh1=>?_) (λh1=>?_)<;>simp only[go_sem,h1]
 ·have hd:=ajk h1;refine aY (tX (lB s 0)) (by simp only[go_sem]<;>rfl) (b6 rfl) ?_;simp only[go_sem,hd];refine aY (aqw s hl false) (by simp only[go_sem]<;>rfl) (b6 rfl) ?_;simp only[go_sem,ajj];refine aY (tX (lB s 0)) (by simp only[go_sem]<;>rfl) (b6 rfl) ?_;simp only[go_sem,hd];refine aL (λh2=>?_) (λh2=>?_)<;>simp only[go_sem]
  ·have hd':=cm h2;refine⟨_,_,_,_,⟨⟨rfl,rfl⟩,rfl,rfl⟩,?_⟩;rw[aaw];constructor
   ·rintro⟨h,_⟩;omega
   ·rintro⟨_,_,h3,h4⟩;omega
  ·have hd':=ew h2;have hr:=aji aaY s 0;have hw:i64.wrap (0+(aet aaY s 0:Int))=aet aaY s 0:=by rw[IntWalk.i64_in _ (by omega)];omega
   rw[hw];refine⟨⟨by omega,by omega,by omega⟩,_,_,_,_,⟨⟨rfl,rfl⟩,rfl,rfl⟩,?_⟩;rw[aaw];constructor
   ·rintro⟨_,_,h⟩;exact⟨by omega,h1,by omega,by omega⟩
   ·rintro⟨_,_,h3,h4⟩;exact⟨rfl,rfl,by omega⟩
 ·have hn:lE s=false:=by simp[lE,h1]
  rw[hn];refine aY (tX (lB s 0)) (by simp only[go_sem]<;>rfl) (b6 rfl) ?_;simp only[go_sem];refine aL (λh2=>?_) (λh2=>?_)<;>simp only[go_sem]
  ·refine aY (tX (lB s 0)) (by simp only[go_sem]<;>rfl) (b6 rfl) ?_;simp only[go_sem,h2];refine aY (aqw s hl true) (by simp only[go_sem]<;>rfl) (b6 rfl) ?_;simp only[go_sem];refine aY (tX (lB s 0)) (by simp only[go_sem]<;>rfl) (b6 rfl) ?_;simp only[go_sem,h2];have hr:=aji (ry true) s 0;generalize aet (ry true) s 0=m at hr;have hw:i64.wrap (0+(m:Int))=m:=by rw[IntWalk.i64_in _ (by omega)];omega
   refine aL (λh2=>?_) (λh2=>?_)<;>simp only[go_sem,hw]
   ·exact⟨_,_,_,_,⟨⟨rfl,rfl⟩,rfl,rfl⟩,by simp⟩
   ·exact⟨by omega,_,_,_,_,⟨⟨rfl,rfl⟩,rfl,rfl⟩,by simp⟩
  ·refine aL (λh3=>?_) (λh3=>?_)<;>simp only[go_sem]
   ·refine sv (aoF s hl) (by simp only[go_sem]<;>rfl) ?_;rintro r ⟨n,rfl,hr⟩;refine⟨b6 rfl,?_⟩;simp only[go_sem];refine aL (λh4=>?_) (λh4=>?_)<;>simp only[go_sem]
    ·exact⟨_,_,_,_,⟨⟨rfl,rfl⟩,rfl,rfl⟩,by simp⟩
    ·have h5:2<=n/\n<=s.size:=by have:=ew h4;omega
     refine aL (λh6=>?_) (λh6=>?_)<;>simp only[go_sem]
     ·exact⟨_,_,_,_,⟨⟨rfl,rfl⟩,rfl,rfl⟩,by simp⟩
     ·have w1:i64.wrap (0+1)=1:=by rfl
      have w2:i64.wrap (0+(n:Int))=n:=by rw[IntWalk.i64_in _ (by omega)];omega
      have w3:i64.wrap ((n:Int)-1)=n-1:=by rw[IntWalk.i64_in _ (by omega)]
      simp only[w1,w2,w3];exact⟨by omega,_,_,_,_,⟨⟨rfl,rfl⟩,rfl,rfl⟩,by simp⟩
   ·refine aY (axf) (by simp only[go_sem]<;>rfl) (yz) ?_;simp only[go_sem];refine bM (σ:=Nat) (λx=>(cE (cE (cE (cE (cE fT 0 (.p (.val (.string s)))) 1 (.p (.val (.int .i64 0)))) 4 (.ptr 4 0)) 12 (.p (.aV (acj.map iF)))) 13 (.p (.val (.int .i64 x)))))
     (λx=>(bk ck 4 (.box [.p (.val (.int .i64 0)),.p (.val (.string ⟨#[]⟩)),.p (.val (.int .i64 0))]))) (λx=>x<=acj.length) (λx=>acj.length-x) 0 (Nat.zero_le _) bX ?_
    rintro x hx;simp only[go_sem];refine aL (λhc=>?_) (λhc=>?_)
    ·have hlt:x<acj.length:=by simpa using hc
     simp only[go_sem];refine dx [.q,.q,.q,.q,.q,.q,.q,.q,.q,.q,.q,.q,.q,.q,.q,.q,.q,.q,.q,.q,.q,.q,.q,.q,.q,.q,.q] (by kernel_rfl) ?_;simp only[go_sem,getD_map iF hlt,iF,hlt,List.length_map];have hu:(acj.getD x default).size<=2:=by
      have:∀u∈acj,u.size<=2:=by decide
      exact this _ (by simp[hlt])
     have hw:i64.wrap (0+((acj.getD x default).size:Int))=(acj.getD x default).size:=by rw[IntWalk.i64_in _ (by omega)];omega
     refine oE (λh4=>?_) (λh4=>?_)
     ·rw[hw] at h4;have h5:=cm h4;simp only[go_sem,hw,h4,h5,getD_map iF hlt,iF,hlt,List.length_map];refine⟨by omega,?_⟩;refine aL (λh6=>?_) (λh6=>?_)<;>simp only[go_sem]
      ·refine dx [.p,.p,.p,.p,.p,.p,.p,.p,.p,.p,.w,.q,.q] (by kernel_rfl) ?_;simp only[go_sem,getD_map iF hlt,iF,hlt,List.length_map];exact⟨_,_,_,_,⟨⟨rfl,rfl⟩,rfl,rfl⟩,by simp⟩
      ·rw[bA hlt (by decide)];exact bN (x+1) hlt (by omega) bX
     ·rw[hw] at h4;simp only[go_sem,h4,hw];rw[bA hlt (by decide)];exact bN (x+1) hlt (by omega) bX
    ·simp only[go_sem];exact⟨_,_,_,_,⟨⟨rfl,rfl⟩,rfl,rfl⟩,by simp⟩
theorem aAM(s:ByteArray):aS pw 348 [.agg [.val (.int .i64 1),.val (.string s),.val (.int .i64 0)]] (λr=>r = .val (.string s)):=by refine aQ [] func348 ?_;rw[ntmps348,results348];simp only[go_sem,Int.reduceEq]
theorem axg(s:ByteArray)(hl:s.size<=1000000):aS pw 296 [.agg [.val (.int .i64 1),.val (.string s),.val (.int .i64 0)]] (λr=>r = .val (.bool (lE s))):=by
 refine aQ [] func296 ?_;rw[ntmps296,results296];simp only[go_sem];refine aY (aAM s) (by simp only[go_sem]<;>rfl) (b6 rfl) ?_;simp only[go_sem,Int.reduceEq];refine aL (λhc=>?_) (λhc=>?_)<;>simp only[go_sem]
 ·have he:s=⟨#[]⟩:=cm hc;rw[he];try rfl
 ·have he:s≠⟨#[]⟩:=ew hc;have h0:0<s.size:=by
   rcases Nat.eq_zero_or_pos s.size with h|h
   ·exact absurd (ByteArray.ext (Array.eq_empty_of_size_eq_zero h)) he
   ·exact h
  refine sv (aCz s hl h0) (by simp only[go_sem]<;>rfl) ?_;rintro r ⟨k,n,e,u,rfl,hiff⟩;refine⟨b6 rfl,?_⟩;have hn:lE s=((decide (e=0)&&decide (n=s.size))&&decide (k=1)):=by
   rw[Bool.eq_iff_iff,<-hiff];simp only[Bool.and_eq_true,decide_eq_true_eq,and_assoc];constructor
   ·rintro⟨h1,h2,h3⟩;exact⟨h1,h3,h2⟩
   ·rintro⟨h1,h2,h3⟩;exact⟨h1,h3,h2⟩
  rw[hn];simp only[go_sem];refine bP (λh=>?_) (λh=>?_)<;>simp only[go_sem,h]
  refine bP (λh'=>?_) (λh'=>?_)<;>simp only[go_sem,h,h']
theorem xu(s:ByteArray)(hl:s.size<=1000000):aS pw 235 [.val (.string s)] (λr=>r = .val (.bool (lE s))):=by refine aQ [] func235 ?_;rw[ntmps235,results235];simp only[go_sem];refine aY (axg s hl) (by simp only[go_sem]<;>rfl) (b6 rfl) ?_;simp only[go_sem]
structure fC(t:Types):Prop where
 nodes:t.nodes.length<=20
 ak:t.ak.length<=30
 attrs:∀n∈t.nodes,n.attrs.length<=30
 name:∀n∈t.nodes,n.name.size<=40
 aBP:∀n∈t.nodes,∀a∈n.attrs,a.name.size<=40
 names:∀n∈t.nodes,∀a∈n.attrs,a.names.length<=25
 word:∀n∈t.nodes,∀a∈n.attrs,∀s∈a.names,s.size<=40
 axh:∀e∈t.ak,e.name.size<=40
def qt(t:Types)(n:Nat):Prop:=∀j,j<n->-1<=(t.nodes.getD j default).parent/\(t.nodes.getD j default).parent<j
def o4(t:Types):Nat->Nat->List Attr
 |0,_=>[]
 |k+1,a=>(if 0<=(t.nodes.getD a default).parent then o4 t k (t.nodes.getD a default).parent.toNat else [])++(t.nodes.getD a default).attrs
def bg(t:Types)(a:Nat):List Attr:=o4 t (a+1) a
theorem ad4{t:Types} : ∀ (k k' a:Nat),qt t (a+1)->a<k->a<k'->o4 t k a=o4 t k' a
 |0,_,_,_,h,_=>by omega
 |_+1,0,_,_,_,h=>by omega
 |k+1,k'+1,a,hp,h,h'=>by
  unfold o4;split
  ·rename_i h0;have hq:=hp a (by omega);rw[ad4 k k' (t.nodes.getD a default).parent.toNat (λj hj=>hp j (by omega)) (by omega) (by omega)]
  ·rfl
theorem rz{t:Types}{a:Nat}(hp:qt t (a+1)):bg t a=(if 0<=(t.nodes.getD a default).parent then bg t (t.nodes.getD a default).parent.toNat else [])++(t.nodes.getD a default).attrs:=by
 conv=>lhs;unfold bg o4
 split
 ·rename_i h0;have hq:=hp a (by omega);unfold bg;rw[ad4 a ((t.nodes.getD a default).parent.toNat+1) _ (λj hj=>hp j (by omega)) (by omega) (by omega)]
 ·rfl
theorem hU{α:Type} [Inhabited α]{l:List α}{a:Nat}(ha:a<l.length):l.getD a default∈l:=by
 have:l.getD a default=l[a]:=by simp[ha]
 rw[this];exact nR _
theorem afw{t:Types}(hf:fC t):∀ (k a:Nat),a<t.nodes.length->qt t (a+1)->(o4 t k a).length<=k * 30
 |0,_,_,_=>by simp[o4]
 |k+1,a,ha,hp=>by
  unfold o4;have h1:(t.nodes.getD a default).attrs.length<=30:=hf.attrs _ (hU ha);have hq:=hp a (by omega);rw[List.length_append];generalize hlx:(t.nodes.getD a default).attrs.length=lx at h1 ⊢;split
  ·have:=afw hf k (t.nodes.getD a default).parent.toNat (by omega) (λj hj=>hp j (by omega));omega
  ·simp;omega
theorem mH{t:Types}(hf:fC t){a:Nat}(ha:a<t.nodes.length)(hp:qt t (a+1)):(bg t a).length<=600:=by have:=afw hf (a+1) a ha hp;have:=hf.nodes;unfold bg;omega
theorem afx{t:Types}(hf:fC t):∀ (k a:Nat),a<t.nodes.length->qt t (a+1)->∀x∈o4 t k a,∃n∈t.nodes,x∈n.attrs
 |0,_,_,_,x,hx=>by simp[o4] at hx
 |k+1,a,ha,hp,x,hx=>by
  unfold o4 at hx;have hq:=hp a (by omega);rcases List.mem_append.1 hx with h|h
  ·split at h
   ·exact afx hf k (t.nodes.getD a default).parent.toNat (by omega) (λj hj=>hp j (by omega)) x h
   ·cases h
  ·exact⟨_,hU ha,h⟩
theorem y7(l:List Attr):∀x∈l.map aU,x.length=4:=by intro x hx;obtain⟨a,_,rfl⟩:=List.mem_map.1 hx;rfl
theorem alx(t:Types)(hf:fC t):∀ (a:Nat),a<t.nodes.length->qt t (a+1)->br pw 221 [aC t,.val (.int .i64 a)] (λr=>r = .row 168 4 ((bg t a).map aU)):=by
 intro a
 induction a using Nat.strongRecOn with
 |_ a ih =>
  intro ha hp;have hq:=hp a (by omega);have h1:=hf.attrs _ (hU ha);have hlen:=mH hf ha hp;refine bE [25] func221 ?_;rw[ntmps221,results221];simp only[go_sem,aC,getD_map aJ ha,ha,aJ];refine aL (λh0=>?_) (λh0=>?_)<;>simp only[go_sem,getD_map aJ ha,ha,aJ]
  ·have h0':=cm h0;obtain⟨q,hqq⟩:∃q:Nat,(t.nodes.getD a default).parent=q:=⟨_,(Int.toNat_of_nonneg h0').symm⟩;have hqa:q<a:=by have:=hq.2;rw[hqq] at this;omega
   rw[hqq];refine wF 17 (ih q hqa (by omega) (λj hj=>hp j (by omega))) (by simp only[go_sem,getD_map aJ ha,ha,aJ]<;>rfl) (y5) (by simp only[go_sem,getD_map aJ ha,ha,aJ]) ?_;simp only[go_sem,getD_map aJ ha,ha,aJ];have e:bg t a=bg t q++(t.nodes.getD a default).attrs:=by rw[rz hp,if_pos h0',hqq];try rfl
   rw[e,List.length_append] at hlen;exact⟨⟨by omega,y7 _⟩,by decide,_,.refl _,by rw[e,List.map_append]⟩
  ·have h0':=ew h0;have e:bg t a=(t.nodes.getD a default).attrs:=by rw[rz hp,if_neg h0'];try rfl
   exact⟨⟨by omega,y7 _⟩,by decide,_,.refl _,by rw[e]⟩
def kz(f:Nat->Int)(s n:Nat):Option Nat:=(List.range' s (n-s)).find? λi=>decide (f i≠0)
def pT(f:Nat->Int)(s n:Nat):Int:=match kz f s n with
 |some k=>f k
 |none=>0
theorem lX{f:Nat->Int}{s n k:Nat}(hs:s<=k)(hk:k<n)(h0:∀j,s<=j->j<k->f j=0)(h1:f k≠0):kz f s n=some k:=by unfold kz;rw[List.find?_range'_eq_some];refine⟨by simpa using h1,by simp[List.mem_range'_1];omega,λj hj1 hj2=>by simpa using h0 j hj1 hj2⟩
theorem gl{f:Nat->Int}{s n:Nat}(h0:∀j,s<=j->j<n->f j=0):kz f s n=none:=by unfold kz;rw[List.find?_eq_none];intro j hj;rw[List.mem_range'_1] at hj;have:=h0 j hj.1 (by omega);simpa using this
theorem wH{f:Nat->Int}{s n k:Nat}(hs:s<=k)(hk:k<n)(h0:∀j,s<=j->j<k->f j=0)(h1:f k≠0):pT f s n=f k:=by unfold pT;rw[lX hs hk h0 h1]
theorem sA{f:Nat->Int}{s n:Nat}(h0:∀j,s<=j->j<n->f j=0):pT f s n=0:=by unfold pT;rw[gl h0]
theorem rA{f:Nat->Int}{n k:Nat}(hk:k<n)(h0:∀j,j<k->f j=0)(h1:f k≠0):pT f 0 n=f k:=wH (Nat.zero_le _) hk (λj _=>h0 j) h1
theorem tI{f:Nat->Int}{n:Nat}(h0:∀j,j<n->f j=0):pT f 0 n=0:=sA λj _=>h0 j
theorem all_succ{f:Nat->Int}{x:Nat}(h:∀j,j<x->f j=0)(hx:f x=0):∀j,j<x+1->f j=0:=λj hj=>by
 rcases Nat.lt_succ_iff_lt_or_eq.1 hj with h'|h'
 ·exact h j h'
 ·rw[h'];exact hx
def uA(l:List ByteArray)(i:Nat):Int:=if lE (l.getD i default)=false then 2 else if (l.take i).any (λx=>decide (l.getD i default=x))=true then 5 else 0
def y8(l:List ByteArray):Int:=if 20<l.length then 3 else pT (uA l) 0 l.length
theorem axi(l:List ByteArray)(hl:l.length<=25)(hw:∀s∈l,s.size<=40):aS pw 290 [.aV (l.map iF)] (λr=>r = .val (.int .i64 (y8 l))):=by
 unfold y8;refine aQ [] func290 ?_;rw[ntmps290,results290];simp only[go_sem];refine aL (λh0=>?_) (λh0=>?_)<;>simp only[go_sem]
 ·have h0':20<l.length:=by have:=cm h0;omega
  rw[if_pos h0']
 ·have h0':¬ 20<l.length:=by have:=ew h0;omega
  rw[if_neg h0'];refine bM (σ:=Nat) (λx=>(cE (cE (cE (cE fT 0 (.p (.aV (l.map iF)))) 8 (.p (.aV (l.map iF)))) 9 (.p (.val (.int .i64 l.length)))) 10 (.p (.val (.int .i64 x))))) (λx=>ck)
   (λx=>x<=l.length/\∀j,j<x->uA l j=0) (λx=>l.length-x) 0 ⟨Nat.zero_le _,λj hj=>absurd hj (Nat.not_lt_zero j)⟩ bX ?_
  rintro x ⟨hx,hq⟩;simp only[go_sem];refine aL (λhc=>?_) (λhc=>?_)
  ·have hlt:x<l.length:=by simpa using hc
   simp only[go_sem,getD_map iF hlt,hlt,iF];refine aY (aax (l.getD x default) (Nat.le_trans (hw _ (hU hlt)) (by decide))) (by simp only[go_sem,getD_map iF hlt,hlt,iF]<;>rfl) (b6 rfl) ?_;simp only[go_sem,getD_map iF hlt,hlt,iF];refine aW (λh1=>?_) (λh1=>?_)<;>simp only[go_sem,getD_map iF hlt,hlt,iF]
   ·refine⟨⟨⟨by omega,by omega⟩,λx hx=>by obtain⟨a,_,rfl⟩:=List.mem_map.1 hx;rfl⟩,?_⟩;refine aY (aqv (l.take x) (l.getD x default) (by simp;omega)) (by simp only[go_sem,getD_map iF hlt,hlt,iF]<;>rfl) (b6 rfl) ?_;simp only[go_sem,getD_map iF hlt,hlt,iF];refine aL (λh2=>?_) (λh2=>?_)<;>simp only[go_sem,getD_map iF hlt,hlt,iF]
    ·have:uA l x=5:=by unfold uA;rw[if_neg (by rw[h1];decide),if_pos h2]
     rw[rA hlt hq (by rw[this];decide),this]
    ·have:uA l x=0:=by unfold uA;rw[if_neg (by rw[h1];decide),if_neg (by rw[h2];decide)]
     exact bN (x+1) ⟨hlt,all_succ hq this⟩ (by omega) (by rw[bA hlt (by omega)];exact bX)
   ·have:uA l x=2:=by unfold uA;rw[if_pos h1]
    rw[rA hlt hq (by rw[this];decide),this]
  ·have hge:l.length<=x:=by simpa using hc
   simp only[go_sem];rw[tI λj hj=>hq j (by omega)]
theorem ag2(x y:Attr):aS pw 289 [.agg (aU y),.dW (aU x) 0] (λr=>r = .val (.bool (decide (y.name=x.name)))):=by refine aQ [] func289 ?_;rw[ntmps289,results289];simp only[go_sem,aU,cQ]
theorem axj(x y:gB):aS pw 220 [.agg (aJ y),.dW (aJ x) 0] (λr=>r = .val (.bool (decide (y.name=x.name)))):=by refine aQ [] func220 ?_;rw[ntmps220,results220];simp only[go_sem,aJ,cQ]
theorem axk(x y:lW):aS pw 225 [.agg (aM y),.dW (aM x) 0] (λr=>r = .val (.bool (decide (y.name=x.name)))):=by refine aQ [] func225 ?_;rw[ntmps225,results225];simp only[go_sem,aM,cQ]
structure aCA(x:Attr):Prop where
 name:x.name.size<=40
 names:x.names.length<=25
 word:∀s∈x.names,s.size<=40
def abw(x:Attr):Bool:=if 0<x.names.length then decide (x.low=0)&&decide (x.high=(x.names.length:Int)-1) else (decide (-1000000<=x.low)&&decide (x.low<=x.high))&&decide (x.high<=1000000)
theorem uB(x:Attr):abw x=true↔(0<x.names.length/\x.low=0/\x.high=(x.names.length:Int)-1)\/(x.names.length=0/\-1000000<=x.low/\x.low<=x.high/\x.high<=1000000):=by
 unfold abw;split
 ·simp only[Bool.and_eq_true,decide_eq_true_eq];omega
 ·simp only[Bool.and_eq_true,decide_eq_true_eq];omega
def vt(x:Attr):Int:=if y8 x.names≠0 then y8 x.names else if abw x=true then 0 else 6
def tq(before:List Attr)(x:Attr):Int:=if lE x.name=false then 2 else if before.any (λy=>decide (y.name=x.name))=true then 5 else vt x
theorem ajl(x:Attr)(before:List Attr)(hx:aCA x)(hb:before.length<=10000):aS pw 222 [.agg (aU x),.aV (before.map aU)] (λr=>r = .val (.int .i64 (tq before x))):=by
 have hn:=hx.names;refine aQ [] func222 ?_;rw[ntmps222,results222];simp only[go_sem,aU,cQ];refine aY (aax x.name (Nat.le_trans hx.name (by decide))) (by simp only[go_sem,aU,cQ]<;>rfl) (b6 rfl) ?_;simp only[go_sem,aU,cQ];refine aW (λh1=>?_) (λh1=>?_)<;>simp only[go_sem,aU,cQ]
 ·refine aY (agZ (λy=>decide (y.name=x.name)) before (by omega) _ [] [.dW (aU x) 0] (λy _=>ag2 x y)) (by simp only[go_sem,aU,cQ]<;>rfl) (b6 rfl) ?_;simp only[go_sem,aU,cQ];refine aL (λh2=>?_) (λh2=>?_)<;>simp only[go_sem,aU,cQ]
  ·unfold tq;rw[if_neg (by rw[h1];decide),if_pos h2]
  ·have e:tq before x=vt x:=by unfold tq;rw[if_neg (by rw[h1];decide),if_neg (by rw[h2];decide)]
   rw[e];refine aY (axi x.names hx.names hx.word) (by simp only[go_sem,aU,cQ]<;>rfl) (b6 rfl) ?_;simp only[go_sem,aU,cQ];refine aW (λh3=>?_) (λh3=>?_)<;>simp only[go_sem,aU,cQ]
   ·have h3':=cm h3;have e2:vt x=if abw x=true then 0 else 6:=by unfold vt;rw[if_neg (by rw[h3'];decide)]
    rw[e2];have hw:i64.wrap ((x.names.length:Int)-1)=(x.names.length:Int)-1:=IntWalk.i64_in _ (by omega)
    repeat' first|done|(refine bU (λh=>?_) (λh=>?_)<;>try simp only[go_sem,h,hw,aU,cQ])|(refine bP (λh=>?_) (λh=>?_)<;>try simp only[go_sem,h,hw,aU,cQ])|(refine aW (λh=>?_) (λh=>?_)<;>try simp only[go_sem,h,hw,aU,cQ])|(refine aL (λh=>?_) (λh=>?_)<;>try simp only[go_sem,h,hw,aU,cQ])
    all_goals
     simp only[Bool.not_eq_true',Bool.not_eq_false',decide_eq_true_eq,decide_eq_false_iff_not,Decidable.not_not] at *;split<;>rename_i hr<;>rw[uB] at hr<;>omega
   ·have h3':=ew h3;unfold vt;rw[if_pos h3']
 ·unfold tq;rw[if_pos h1]
theorem fC.aAN{t:Types}(hf:fC t){a:Nat}(ha:a<t.nodes.length)(hp:qt t (a+1)){x:Attr}(hx:x∈bg t a):aCA x:=by obtain⟨n,hn,h⟩:=afx hf _ a ha hp x hx;exact⟨hf.aBP n hn x h,hf.names n hn x h,hf.word n hn x h⟩
def kK(t:Types)(i:Nat):Int :=
 if lE (t.nodes.getD i default).name=false then 2
 else if (t.nodes.take i).any (λy=>decide (y.name=(t.nodes.getD i default).name))=true then 5
 else if ¬ (-1<=(t.nodes.getD i default).parent/\(t.nodes.getD i default).parent<i) then 6
 else if 4<(t.nodes.getD i default).attrs.length then 3
 else if 8<(bg t i).length then 3
 else pT (λk=>tq ((bg t i).take k) ((bg t i).getD k default)) ((bg t i).length-(t.nodes.getD i default).attrs.length) (bg t i).length
theorem as2{t:Types}{i:Nat}(h:kK t i=0) : -1<=(t.nodes.getD i default).parent/\(t.nodes.getD i default).parent<i:=by
 unfold kK at h;split at h
 ·cases h
 ·split at h
  ·cases h
  ·split at h
   ·cases h
   ·rename_i h1;exact Decidable.of_not_not h1
theorem aAO(t:Types)(hf:fC t)(i:Nat)(hi:i<t.nodes.length)(hp:qt t i):aS pw 132 [aC t,.val (.int .i64 i)] (λr=>r = .val (.int .i64 (kK t i))):=by
 have hn:=hf.nodes;have mD:=hf.attrs _ (hU hi);refine aQ [] func132 ?_;rw[ntmps132,results132];simp only[go_sem,aC,getD_map aJ hi,hi,aJ];refine aY (aax (t.nodes.getD i default).name (Nat.le_trans (hf.name _ (hU hi)) (by decide))) (by simp only[go_sem,aC,getD_map aJ hi,hi,aJ]<;>rfl) (b6 rfl) ?_;simp only[go_sem,aC,getD_map aJ hi,hi,aJ];refine aW (λh1=>?_) (λh1=>?_)<;>simp only[go_sem,aC,getD_map aJ hi,hi,aJ]
 ·refine⟨⟨⟨by omega,by omega⟩,λx hx=>by obtain⟨a,_,rfl⟩:=List.mem_map.1 hx;rfl⟩,?_⟩;refine aY (ag0 (λy=>decide (y.name=(t.nodes.getD i default).name)) (t.nodes.take i) (by simp;omega) _ [] [.dW (aJ (t.nodes.getD i default)) 0] (λy _=>axj _ y)) (by simp only[go_sem,aC,getD_map aJ hi,hi,aJ]<;>rfl) (b6 rfl) ?_;simp only[go_sem,aC,getD_map aJ hi,hi,aJ];refine aL (λh2=>?_) (λh2=>?_)<;>simp only[go_sem,aC,getD_map aJ hi,hi,aJ]
  ·unfold kK;rw[if_neg (by rw[h1];decide),if_pos h2]
  ·have e1 : kK t i = if ¬ (-1 ≤ (t.nodes.getD i default).parent ∧ (t.nodes.getD i default).parent < i) then 6
     else if 4<(t.nodes.getD i default).attrs.length then 3 else if 8<(bg t i).length then 3
     else pT (λk=>tq ((bg t i).take k) ((bg t i).getD k default)) ((bg t i).length-(t.nodes.getD i default).attrs.length) (bg t i).length:=by
    unfold kK;rw[if_neg (by rw[h1];decide),if_neg (by rw[h2];decide)]
   rw[e1];clear e1;refine bU (λh3=>?_) (λh3=>?_)<;>simp only[go_sem,h3,aC,getD_map aJ hi,hi,aJ]
   ·have h3':=cm h3;rw[if_pos (by omega)]
   ·have h3':=ew h3;refine aL (λh4=>?_) (λh4=>?_)<;>simp only[go_sem,aC,getD_map aJ hi,hi,aJ]
    ·have y9:=cm h4;rw[if_pos (by omega)]
    ·have y9:=ew h4;rw[if_neg (by omega)];refine aL (λh5=>?_) (λh5=>?_)<;>simp only[go_sem,aC,getD_map aJ hi,hi,aJ]
     ·have h5':=cm h5;rw[if_pos (by omega)]
     ·have h5':=ew h5;rw[if_neg (by omega)];have hp':qt t (i+1):=λj hj=>by
       rcases Nat.lt_succ_iff_lt_or_eq.1 hj with h|h
       ·exact hp j h
       ·subst h;omega
      have hlen:=mH hf hi hp';have hat:(t.nodes.getD i default).attrs.length<=(bg t i).length:=by rw[rz hp',List.length_append];omega
      generalize hs:(bg t i).length-(t.nodes.getD i default).attrs.length=s;have hw:i64.wrap (((bg t i).length:Int)-((t.nodes.getD i default).attrs.length:Int))=s:=by rw[IntWalk.i64_in _ (by omega)];omega
      refine aY ((alx t hf i hi hp').toL) (by simp only[go_sem,aC,getD_map aJ hi,hi,aJ]<;>rfl) (yz) ?_;simp only[go_sem,aC,getD_map aJ hi,hi,aJ];refine aL (λh6=>?_) (λh6=>?_)<;>simp only[go_sem,aC,getD_map aJ hi,hi,aJ]
      ·have h6':=cm h6;rw[if_pos (by omega)]
      ·have h6':=ew h6;rw[if_neg (by omega),hw];generalize hf':(λk=>tq ((bg t i).take k) ((bg t i).getD k default))=f;refine bM (σ:=Nat) (λx=>(cE (cE (cE (cE (cE fT 1 (.p (.val (.int .i64 i)))) 2 (.ptr 2 0)) 5 (.ptr 5 0)) 6 (.p (.aV ((bg t i).map aU)))) 7 (.p (.val (.int .i64 x)))))
        (λx=>(bk (bk ck 2 (.box [.p (.aV (t.nodes.map aJ)),.p (.aV (t.ak.map aM))])) 5 (.box [.p (.val (.string (t.nodes.getD i default).name)),.p (.val (.int .i64 (t.nodes.getD i default).parent)),.p (.val (.bool (t.nodes.getD i default).abs)),.p (.aV ((t.nodes.getD i default).attrs.map aU))])))
        (λx=>(s<=x/\x<=(bg t i).length)/\∀j,s<=j->j<x->f j=0) (λx=>(bg t i).length-x) s ⟨⟨Nat.le_refl _,by omega⟩,λj hj hj'=>absurd hj' (by omega)⟩ bX ?_
       rintro x ⟨⟨hsx,hx⟩,hq⟩;simp only[go_sem,aC,getD_map aJ hi,hi,aJ];refine aL (λhc=>?_) (λhc=>?_)
       ·have hlt:x<(bg t i).length:=by have:=cm hc;omega
        simp only[go_sem,aC,getD_map aJ hi,hi,aJ,getD_map aU hlt,hlt,aU];refine dx [.q,.q,.q,.q,.q,.q,.q,.q,.q] (by kernel_rfl) ?_;simp only[go_sem,aC,getD_map aJ hi,hi,aJ,getD_map aU hlt,hlt,aU];refine⟨⟨⟨by omega,by omega⟩,y7 _⟩,?_⟩;refine jD (ajl ((bg t i).getD x default) ((bg t i).take x) (hf.aAN hi hp' (hU hlt)) (by simp;omega)) (by simp only[go_sem,aC,getD_map aJ hi,hi,aJ,getD_map aU hlt,hlt,aU]<;>rfl) (b6 rfl) ?_;simp only[go_sem,aC,getD_map aJ hi,hi,aJ,getD_map aU hlt,hlt,aU];have e:f x=tq ((bg t i).take x) ((bg t i).getD x default):=by rw[<-hf']
        rw[<-e];refine aW (λh7=>?_) (λh7=>?_)<;>simp only[go_sem,aC,getD_map aJ hi,hi,aJ,getD_map aU hlt,hlt,aU]
        ·have h7':=cm h7;exact bN (x+1) ⟨⟨by omega,hlt⟩,λj hj hj'=>by
          rcases Nat.lt_succ_iff_lt_or_eq.1 hj' with h|h
          ·exact hq j hj h
          ·rw[h];exact h7'⟩ (by omega) (by rw[bA hlt (by omega)];exact bX)
        ·have h7':=ew h7;rw[wH hsx hlt hq h7']
       ·have hge:(bg t i).length<=x:=by have:=ew hc;omega
        simp only[go_sem,aC,getD_map aJ hi,hi,aJ];rw[sA λj hj hj'=>hq j hj (by omega)]
 ·unfold kK;rw[if_pos h1]
def inB(t:Types)(n:Int):Bool:=decide (0<=n)&&decide (n<t.nodes.length)
theorem ahL(t:Types)(n:Int):aS pw 223 [.val (.int .i64 n),.dW [.aV (t.nodes.map aJ),.aV (t.ak.map aM)] 0] (λr=>r = .val (.bool (inB t n))):=by
 unfold inB;refine aQ [] func223 ?_;rw[ntmps223,results223];simp only[go_sem]
 repeat' first|done|(refine bU (λh=>?_) (λh=>?_)<;>try simp only[go_sem,h])|(refine bP (λh=>?_) (λh=>?_)<;>try simp only[go_sem,h])|(refine aW (λh=>?_) (λh=>?_)<;>try simp only[go_sem,h])|(refine aL (λh=>?_) (λh=>?_)<;>try simp only[go_sem,h])
def nS(t:Types)(i:Nat):Int :=
 if lE (t.ak.getD i default).name=false then 2
 else if (t.ak.take i).any (λy=>decide (y.name=(t.ak.getD i default).name))=true then 5
 else if ((inB t (t.ak.getD i default).src&&inB t (t.ak.getD i default).dst)&&(vO (t.ak.getD i default).nN (t.ak.getD i default).jZ&&vO (t.ak.getD i default).tj (t.ak.getD i default).og))=true then 0 else 6
theorem aAP(t:Types)(hf:fC t)(i:Nat)(hi:i<t.ak.length):aS pw 133 [aC t,.val (.int .i64 i)] (λr=>r = .val (.int .i64 (nS t i))):=by
 have hn:=hf.ak;refine aQ [] func133 ?_;rw[ntmps133,results133];simp only[go_sem,aC,getD_map aM hi,hi,aM];refine aY (aax (t.ak.getD i default).name (Nat.le_trans (hf.axh _ (hU hi)) (by decide))) (by simp only[go_sem,aC,getD_map aM hi,hi,aM]<;>rfl) (b6 rfl) ?_;simp only[go_sem,aC,getD_map aM hi,hi,aM];refine aW (λh1=>?_) (λh1=>?_)<;>simp only[go_sem,aC,getD_map aM hi,hi,aM]
 ·refine⟨⟨⟨by omega,by omega⟩,λx hx=>by obtain⟨a,_,rfl⟩:=List.mem_map.1 hx;rfl⟩,?_⟩;refine aY (aft (λy=>decide (y.name=(t.ak.getD i default).name)) (t.ak.take i) (by simp;omega) _ [] [.dW (aM (t.ak.getD i default)) 0] (λy _=>axk _ y)) (by simp only[go_sem,aC,getD_map aM hi,hi,aM]<;>rfl) (b6 rfl) ?_;simp only[go_sem,aC,getD_map aM hi,hi,aM];refine aL (λh2=>?_) (λh2=>?_)<;>simp only[go_sem,aC,getD_map aM hi,hi,aM]
  ·unfold nS;rw[if_neg (by rw[h1];decide),if_pos h2]
  ·have e1:nS t i=if ((inB t (t.ak.getD i default).src&&inB t (t.ak.getD i default).dst)&&(vO (t.ak.getD i default).nN (t.ak.getD i default).jZ&&vO (t.ak.getD i default).tj (t.ak.getD i default).og))=true then 0 else 6:=by unfold nS;rw[if_neg (by rw[h1];decide),if_neg (by rw[h2];decide)]
   rw[e1];clear e1;refine aY (ahL t (t.ak.getD i default).src) (by simp only[go_sem,aC,getD_map aM hi,hi,aM]<;>rfl) (b6 rfl) ?_;simp only[go_sem,aC,getD_map aM hi,hi,aM];refine bP (λh3=>?_) (λh3=>?_)<;>simp only[go_sem,h3,aC,getD_map aM hi,hi,aM]
   refine aY (ahL t (t.ak.getD i default).dst) (by simp only[go_sem,aC,getD_map aM hi,hi,aM]<;>rfl) (b6 rfl) ?_;simp only[go_sem,h3,aC,getD_map aM hi,hi,aM];refine aW (λh4=>?_) (λh4=>?_)<;>simp only[go_sem,h4,aC,getD_map aM hi,hi,aM]
   refine aY (afs (t.ak.getD i default).nN (t.ak.getD i default).jZ) (by simp only[go_sem,aC,getD_map aM hi,hi,aM]<;>rfl) (b6 rfl) ?_;simp only[go_sem,aC,getD_map aM hi,hi,aM];refine bP (λh5=>?_) (λh5=>?_)<;>simp only[go_sem,h5,aC,getD_map aM hi,hi,aM]
   refine aY (afs (t.ak.getD i default).tj (t.ak.getD i default).og) (by simp only[go_sem,aC,getD_map aM hi,hi,aM]<;>rfl) (b6 rfl) ?_;simp only[go_sem,aC,getD_map aM hi,hi,aM];refine aW (λh6=>?_) (λh6=>?_)<;>simp only[go_sem,h6,aC,getD_map aM hi,hi,aM]
 ·unfold nS;rw[if_pos h1]
def gC(t:Types):ByteArray×Int :=
 if t.nodes.length=0 then (⟨#[]⟩,7)
 else if 12<t.nodes.length\/20<t.ak.length then (⟨#[]⟩,3)
 else match kz (kK t) 0 t.nodes.length with
  |some k=>((t.nodes.getD k default).name,kK t k)
  |none=>match kz (nS t) 0 t.ak.length with
   |some k=>((t.ak.getD k default).name,nS t k)
   |none=>(⟨#[]⟩,0)
theorem afy{t:Types}{n:Nat}(h:∀j,j<n->kK t j=0):qt t n:=λj hj=>as2 (h j hj)
theorem aly(t:Types)(hf:fC t):aS pw 73 [aC t] (λr=>r = .dQ [.val (.string (gC t).1),.val (.int .i64 (gC t).2)]):=by
 have hn:=hf.nodes;have hm:=hf.ak;refine aQ [] func73 ?_;rw[ntmps73,results73];simp only[go_sem,aC];refine aL (λh1=>?_) (λh1=>?_)<;>simp only[go_sem,aC]
 ·have tG:=cm h1;unfold gC;rw[if_pos (by omega)];exact⟨rfl,rfl⟩
 ·have tG:=ew h1;have hN:t.nodes.length≠0:=by omega
  have za:12<t.nodes.length\/20<t.ak.length->gC t=(⟨#[]⟩,3):=λh=>by unfold gC;rw[if_neg hN,if_pos h]
  refine bU (λh2=>?_) (λh2=>?_)<;>simp only[go_sem,h2,aC]
  ·have h2':=cm h2;rw[za (by omega)];exact⟨rfl,rfl⟩
  ·have h2':=ew h2;refine aL (λh3=>?_) (λh3=>?_)<;>simp only[go_sem,aC]
   ·have h3':=cm h3;rw[za (by omega)];exact⟨rfl,rfl⟩
   ·have h3':=ew h3
    have hV : gC t = match kz (kK t) 0 t.nodes.length with
      |some k=>((t.nodes.getD k default).name,kK t k)
      |none=>match kz (nS t) 0 t.ak.length with
       |some k=>((t.ak.getD k default).name,nS t k)
       |none=>(⟨#[]⟩,0):=by unfold gC;rw[if_neg hN,if_neg (by omega)]
    clear za;refine bM (σ:=Nat) (λx=>(cE (cE (cE (cE fT 1 (.ptr 1 0)) 27 (.p (.aV (t.nodes.map aJ)))) 28 (.p (.val (.int .i64 t.nodes.length)))) 29 (.p (.val (.int .i64 x)))))
     (λx=>(bk ck 1 (.box [.p (.aV (t.nodes.map aJ)),.p (.aV (t.ak.map aM))])))
     (λx=>x<=t.nodes.length/\∀j,j<x->kK t j=0) (λx=>t.nodes.length-x) 0 ⟨Nat.zero_le _,λj hj=>absurd hj (Nat.not_lt_zero j)⟩ bX ?_
    rintro x ⟨hx,hq⟩;simp only[go_sem,aC];refine aL (λhc=>?_) (λhc=>?_)
    ·have hlt:x<t.nodes.length:=by simpa using hc
     simp only[go_sem,aC,getD_map aJ hlt,hlt,aJ];refine aY (aAO t hf x hlt (afy hq)) (by simp only[go_sem,aC,getD_map aJ hlt,hlt,aJ]<;>rfl) (b6 rfl) ?_;simp only[go_sem,aC,getD_map aJ hlt,hlt,aJ];refine aW (λh4=>?_) (λh4=>?_)<;>simp only[go_sem,aC,getD_map aJ hlt,hlt,aJ]
     ·have y9:=cm h4;exact bN (x+1) ⟨hlt,all_succ hq y9⟩ (by omega) (by rw[bA hlt (by omega)];exact bX)
     ·have y9:=ew h4;rw[hV,lX (Nat.zero_le _) hlt (λj _=>hq j) y9];exact⟨rfl,rfl⟩
    ·have hge:t.nodes.length<=x:=by simpa using hc
     have hN0:kz (kK t) 0 t.nodes.length=none:=gl λj _ hj=>hq j (by omega)
     rw[hN0] at hV;simp only[] at hV;simp only[go_sem,aC];refine bM (σ:=Nat) (λx=>(cE (cE (cE (cE fT 1 (.ptr 1 0)) 44 (.p (.aV (t.ak.map aM)))) 45 (.p (.val (.int .i64 t.ak.length)))) 46 (.p (.val (.int .i64 x)))))
      (λx=>(bk ck 1 (.box [.p (.aV (t.nodes.map aJ)),.p (.aV (t.ak.map aM))])))
      (λx=>x<=t.ak.length/\∀j,j<x->nS t j=0) (λx=>t.ak.length-x) 0 ⟨Nat.zero_le _,λj hj=>absurd hj (Nat.not_lt_zero j)⟩ bX ?_
     rintro y ⟨hy,hq'⟩;simp only[go_sem,aC];refine aL (λqo=>?_) (λqo=>?_)
     ·have hlt:y<t.ak.length:=by simpa using qo
      simp only[go_sem,aC,getD_map aM hlt,hlt,aM];refine aY (aAP t hf y hlt) (by simp only[go_sem,aC,getD_map aM hlt,hlt,aM]<;>rfl) (b6 rfl) ?_;simp only[go_sem,aC,getD_map aM hlt,hlt,aM];refine aW (λh4=>?_) (λh4=>?_)<;>simp only[go_sem,aC,getD_map aM hlt,hlt,aM]
      ·have y9:=cm h4;exact bN (y+1) ⟨hlt,all_succ hq' y9⟩ (by omega) (by rw[bA hlt (by omega)];exact bX)
      ·have y9:=ew h4;rw[hV,lX (Nat.zero_le _) hlt (λj _=>hq' j) y9];exact⟨rfl,rfl⟩
     ·have hge:t.ak.length<=y:=by simpa using qo
      simp only[go_sem,aC];rw[hV,gl λj _ hj=>hq' j (by omega)];exact⟨rfl,rfl⟩
theorem rX{α:Type} [Inhabited α]{p:α->Bool}{l:List α}{x j:Nat}(hj:j<x)(hx:x<=l.length)(h:p (l.getD j default)=true):(l.take x).any p=true:=by
 have hjl:j<l.length:=by omega
 refine List.any_eq_true.2 ⟨l[j],List.mem_iff_getElem.2 ⟨j,by simp;omega,by simp⟩,?_⟩;simpa[hjl] using h
theorem om{α:Type} [Inhabited α]{p:α->Bool}{l:List α}{x:Nat}(hx:x<=l.length)(h:∀j,j<x->p (l.getD j default)=false):(l.take x).any p=false:=by
 rw[List.any_eq_false];intro a ha;obtain⟨j,hj,rfl⟩:=List.mem_iff_getElem.1 ha;simp only[List.length_take] at hj;have:=h j (by omega);have hjl:j<l.length:=by omega
 simpa[hjl] using this
theorem alz{α:Type} [DecidableEq α]{a b:α}{c:Bool}(h:decide (a=b)=c):decide (b=a)=c:=by rw[<-h];simp[eq_comm]
theorem tY{p:Nat->Bool}{x:Nat}(h:∀j,j<x->p j=false)(hx:p x=false):∀j,j<x+1->p j=false:=λj hj=>by
 rcases Nat.lt_succ_iff_lt_or_eq.1 hj with h'|h'
 ·exact h j h'
 ·rw[h'];exact hx
theorem as3(l:List ByteArray)(hl:l.length<=25)(hw:∀s∈l,s.size<=40):aS pw 297 [.aV (l.map iF)] (λr=>r = .val (.int .i64 (y8 l))):=by
 unfold y8;refine aQ [] func297 ?_;rw[ntmps297,results297];simp only[go_sem];refine aL (λh0=>?_) (λh0=>?_)<;>simp only[go_sem]
 ·have h0':20<l.length:=by have:=cm h0;omega
  rw[if_pos h0']
 ·have h0':¬ 20<l.length:=by have:=ew h0;omega
  rw[if_neg h0'];refine bM (σ:=Nat) (λx=>(cE (cE fT 0 (.p (.aV (l.map iF)))) 3 (.p (.val (.int .i64 x))))) (λx=>ck)
   (λx=>x<=l.length/\∀j,j<x->uA l j=0) (λx=>l.length-x) 0 ⟨Nat.zero_le _,λj hj=>absurd hj (Nat.not_lt_zero j)⟩ bX ?_
  rintro x ⟨hx,hq⟩;simp only[go_sem];refine aL (λhc=>?_) (λhc=>?_)
  ·have hlt:x<l.length:=by simpa using hc
   simp only[go_sem,getD_map iF hlt,hlt,iF];refine aY (xu (l.getD x default) (Nat.le_trans (hw _ (hU hlt)) (by decide))) (by simp only[go_sem,getD_map iF hlt,hlt,iF]<;>rfl) (b6 rfl) ?_;simp only[go_sem,getD_map iF hlt,hlt,iF];refine aW (λh1=>?_) (λh1=>?_)<;>simp only[go_sem,getD_map iF hlt,hlt,iF]
   ·refine bM (σ:=Nat) (λy=>(cE (cE (cE fT 0 (.p (.aV (l.map iF)))) 3 (.p (.val (.int .i64 x)))) 4 (.p (.val (.int .i64 y))))) (λ_=>ck)
     (λy=>y<=x/\∀j,j<y->decide (l.getD x default=l.getD j default)=false) (λy=>x-y) 0 ⟨Nat.zero_le _,λj hj=>absurd hj (Nat.not_lt_zero j)⟩ bX ?_
    rintro y ⟨hy,hqy⟩;simp only[go_sem,getD_map iF hlt,hlt,iF];refine aL (λqo=>?_) (λqo=>?_)
    ·have hlty:y<x:=by simpa using qo
     have ado:y<l.length:=by omega
     simp only[go_sem,getD_map iF hlt,hlt,iF,getD_map iF ado,ado];refine dx [.q,.q,.q,.q,.q,.q,.q,.q,.q] (by kernel_rfl) ?_;simp only[go_sem,getD_map iF hlt,hlt,iF,getD_map iF ado,ado];refine aL (λh2=>?_) (λh2=>?_)<;>simp only[go_sem,getD_map iF hlt,hlt,iF,getD_map iF ado,ado]
     ·have:uA l x=5:=by unfold uA;rw[if_neg (by rw[h1];decide),if_pos (rX hlty hx (alz h2))]
      rw[rA hlt hq (by rw[this];decide),this]
     ·exact bN (y+1) ⟨hlty,tY hqy (alz h2)⟩ (by omega) (by rw[bA hlty (by omega)];exact bX)
    ·have hge:x<=y:=by simpa using qo
     simp only[go_sem,getD_map iF hlt,hlt,iF];have:uA l x=0:=by unfold uA;rw[if_neg (by rw[h1];decide),if_neg (by rw[om (p:=λz=>decide (l.getD x default=z)) hx λj hj=>hqy j (by omega)];decide)]
     exact bN (x+1) ⟨hlt,all_succ hq this⟩ (by omega) (by rw[bA hlt (by omega)];exact bX)
   ·have:uA l x=2:=by unfold uA;rw[if_pos h1]
    rw[rA hlt hq (by rw[this];decide),this]
  ·have hge:l.length<=x:=by simpa using hc
   simp only[go_sem];rw[tI λj hj=>hq j (by omega)]
theorem ag3(x:Attr)(hx:aCA x):aS pw 236 [.agg (aU x)] (λr=>r = .val (.int .i64 (vt x))):=by
 have hn:=hx.names;refine aQ [] func236 ?_;rw[ntmps236,results236];simp only[go_sem,aU,cQ];have hw:i64.wrap ((x.names.length:Int)-1)=(x.names.length:Int)-1:=IntWalk.i64_in _ (by omega);have hnil:x.names.length=0->y8 x.names=0:=λh=>by have:x.names=[]:=List.length_eq_zero_iff.1 h;rw[this];try rfl
 refine aL (λh1=>?_) (λh1=>?_)<;>simp only[go_sem,aU,cQ]
 ·have tG:=cm h1;have e:vt x=if abw x=true then 0 else 6:=by unfold vt;rw[if_neg (by rw[hnil (by omega)];decide)]
  rw[e];refine aY (aaX x.low (-1000000) 1000000) (by simp only[go_sem,aU,cQ]<;>rfl) (b6 rfl) ?_;simp only[go_sem,aU,cQ];refine bP (λh2=>?_) (λh2=>?_)<;>simp only[go_sem,h2,aU,cQ]
  ·refine aY (aaX x.high x.low 1000000) (by simp only[go_sem,aU,cQ]<;>rfl) (b6 rfl) ?_;simp only[go_sem,aU,cQ];refine aW (λh3=>?_) (λh3=>?_)<;>simp only[go_sem,aU,cQ]
   all_goals
    simp only[Bool.and_eq_true,Bool.and_eq_false_iff] at *;simp only[Bool.not_eq_true',Bool.not_eq_false',decide_eq_true_eq,decide_eq_false_iff_not,Decidable.not_not] at *;split<;>rename_i hr<;>rw[uB] at hr<;>omega
  ·simp only[Bool.and_eq_true,Bool.and_eq_false_iff] at *;simp only[Bool.not_eq_true',Bool.not_eq_false',decide_eq_true_eq,decide_eq_false_iff_not,Decidable.not_not] at *;split<;>rename_i hr<;>rw[uB] at hr<;>omega
 ·have tG:=ew h1;refine aY (as3 x.names hx.names hx.word) (by simp only[go_sem,aU,cQ]<;>rfl) (b6 rfl) ?_;simp only[go_sem,aU,cQ];refine aW (λh3=>?_) (λh3=>?_)<;>simp only[go_sem,aU,cQ]
  ·have h3':=cm h3;have e2:vt x=if abw x=true then 0 else 6:=by unfold vt;rw[if_neg (by rw[h3'];decide)]
   rw[e2]
   repeat' first|done|(refine bU (λh=>?_) (λh=>?_)<;>try simp only[go_sem,h,hw,aU,cQ])|(refine bP (λh=>?_) (λh=>?_)<;>try simp only[go_sem,h,hw,aU,cQ])|(refine aW (λh=>?_) (λh=>?_)<;>try simp only[go_sem,h,hw,aU,cQ])|(refine aL (λh=>?_) (λh=>?_)<;>try simp only[go_sem,h,hw,aU,cQ])
   all_goals
    simp only[Bool.not_eq_true',Bool.not_eq_false',decide_eq_true_eq,decide_eq_false_iff_not,Decidable.not_not] at *;split<;>rename_i hr<;>rw[uB] at hr<;>omega
  ·have h3':=ew h3;unfold vt;rw[if_pos h3']
def afz(t:Types)(a:Int):List Attr:=if a<0 then [] else bg t a.toNat
theorem aoG(t:Types)(a:Int)(ha:a<0):br pw 153 [aC t,.val (.int .i64 a)] (λr=>r = .row 168 4 []):=by
 refine bE [7] func153 ?_;rw[ntmps153,results153];simp only[go_sem,aC];refine aL (λh0=>?_) (λh0=>?_)<;>simp only[go_sem]
 ·exact⟨by decide,_,.nil _ _ (by decide),rfl⟩
 ·have:=ew h0;omega
theorem ahM(t:Types)(hf:fC t):∀ (a:Nat),a<t.nodes.length->qt t (a+1)->br pw 153 [aC t,.val (.int .i64 a)] (λr=>r = .row 168 4 ((bg t a).map aU)):=by
 intro a
 induction a using Nat.strongRecOn with
 |_ a ih =>
  intro ha hp;have hq:=hp a (by omega);have h1:=hf.attrs _ (hU ha);have hlen:=mH hf ha hp;have axl:br pw 153 [aC t,.val (.int .i64 (t.nodes.getD a default).parent)] (λr=>r = .row 168 4 ((afz t (t.nodes.getD a default).parent).map aU)):=by
   by_cases h0:(t.nodes.getD a default).parent<0
   ·have:=aoG t _ h0;unfold afz;rw[if_pos h0];exact this
   ·obtain⟨q,hqq⟩:∃q:Nat,(t.nodes.getD a default).parent=q:=⟨_,(Int.toNat_of_nonneg (by omega)).symm⟩;unfold afz;rw[if_neg h0,hqq,Int.toNat_natCast];have hqa:q<a:=by have:=hq.2;rw[hqq] at this;omega
    exact ih q hqa (by omega) (λj hj=>hp j (by omega))
  have e:bg t a=afz t (t.nodes.getD a default).parent++(t.nodes.getD a default).attrs:=by
   rw[rz hp];unfold afz;by_cases h0:(t.nodes.getD a default).parent<0
   ·rw[if_pos h0,if_neg (by omega)]
   ·rw[if_neg h0,if_pos (by omega)]
  rw[e,List.length_append] at hlen;rw[e];refine bE [7] func153 ?_;rw[ntmps153,results153];simp only[go_sem,aC,getD_map aJ ha,ha,aJ];refine aL (λh0=>?_) (λh0=>?_)<;>simp only[go_sem,getD_map aJ ha,ha,aJ]
  ·have:=cm h0;omega
  ·refine aje [(1,.q),(2,.q),(3,.q),(4,.q),(5,.q),(6,.q),(7,.q),(8,.q),(10,.b),(11,.b),(12,.b),(13,.b),(14,.b),(15,.b),(0,.w),(9,.s),(16,.w),(17,.q)] (by kernel_rfl) ?_;simp only[go_sem,getD_map aJ ha,ha,aJ];refine jD (axl.toL) (by simp only[go_sem,getD_map aJ ha,ha,aJ]<;>rfl) (yz) ?_;simp only[go_sem,getD_map aJ ha,ha,aJ];exact⟨⟨⟨_,rfl⟩,_,rfl⟩,⟨by omega,y7 _⟩,⟨by omega,y7 _⟩,by decide,_,.refl _,by rw[List.map_append]⟩
theorem axm(t:Types)(hf:fC t)(i:Nat)(hi:i<t.nodes.length)(hp:qt t i):aS pw 138 [aC t,.val (.int .i64 i)] (λr=>r = .val (.int .i64 (kK t i))):=by
 have hn:=hf.nodes;have mD:=hf.attrs _ (hU hi);refine aQ [] func138 ?_;rw[ntmps138,results138];simp only[go_sem,aC,getD_map aJ hi,hi,aJ];refine aY (xu (t.nodes.getD i default).name (Nat.le_trans (hf.name _ (hU hi)) (by decide))) (by simp only[go_sem,aC,getD_map aJ hi,hi,aJ]<;>rfl) (b6 rfl) ?_;simp only[go_sem,aC,getD_map aJ hi,hi,aJ];refine aW (λh1=>?_) (λh1=>?_)<;>simp only[go_sem,aC,getD_map aJ hi,hi,aJ]
 ·refine bM (σ:=Nat) (λx=>(cE (cE (cE (cE fT 1 (.p (.val (.int .i64 i)))) 2 (.ptr 2 0)) 5 (.ptr 5 0)) 6 (.p (.val (.int .i64 x)))))
   (λx=>(bk (bk ck 2 (.box [.p (.aV (t.nodes.map aJ)),.p (.aV (t.ak.map aM))])) 5 (.box [.p (.val (.string (t.nodes.getD i default).name)),.p (.val (.int .i64 (t.nodes.getD i default).parent)),.p (.val (.bool (t.nodes.getD i default).abs)),.p (.aV ((t.nodes.getD i default).attrs.map aU))])))
   (λx=>x<=i/\∀j,j<x->decide ((t.nodes.getD j default).name=(t.nodes.getD i default).name)=false) (λx=>i-x) 0 ⟨Nat.zero_le _,λj hj=>absurd hj (Nat.not_lt_zero j)⟩ bX ?_
  rintro x ⟨hx,hqx⟩;simp only[go_sem,aC,getD_map aJ hi,hi,aJ];refine aL (λhc=>?_) (λhc=>?_)
  ·have aoH:x<i:=by simpa using hc
   have hxl:x<t.nodes.length:=by omega
   simp only[go_sem,aC,getD_map aJ hi,hi,aJ,getD_map aJ hxl,hxl];refine dx [.q,.q,.q,.q,.q,.q,.q,.q,.q] (by kernel_rfl) ?_;simp only[go_sem,aC,getD_map aJ hi,hi,aJ,getD_map aJ hxl,hxl];refine aL (λh2=>?_) (λh2=>?_)<;>simp only[go_sem,aC,getD_map aJ hi,hi,aJ,getD_map aJ hxl,hxl]
   ·have:kK t i=5:=by unfold kK;rw[if_neg (by rw[h1];decide),if_pos (rX (p:=λy:gB=>decide (y.name=(t.nodes.getD i default).name)) aoH (by omega) h2)]
    rw[this]
   ·exact bN (x+1) ⟨aoH,tY hqx h2⟩ (by omega) (by rw[bA aoH (by omega)];exact bX)
  ·have hge:i<=x:=by simpa using hc
   have afj:=om (p:=λy:gB=>decide (y.name=(t.nodes.getD i default).name)) (Nat.le_of_lt hi) λj hj=>hqx j (by omega)
   have e1 : kK t i = if ¬ (-1 ≤ (t.nodes.getD i default).parent ∧ (t.nodes.getD i default).parent < i) then 6
     else if 4<(t.nodes.getD i default).attrs.length then 3 else if 8<(bg t i).length then 3
     else pT (λk=>tq ((bg t i).take k) ((bg t i).getD k default)) ((bg t i).length-(t.nodes.getD i default).attrs.length) (bg t i).length:=by
    unfold kK;rw[if_neg (by rw[h1];decide),if_neg (by rw[afj];decide)]
   rw[e1];clear e1;have hwi:i64.wrap ((i:Int)-1)=(i:Int)-1:=IntWalk.i64_in _ (by omega);simp only[go_sem,hwi,aC,getD_map aJ hi,hi,aJ];refine aY (aaX (t.nodes.getD i default).parent (-1) (i-1)) (by simp only[go_sem,aC,getD_map aJ hi,hi,aJ]<;>rfl) (b6 rfl) ?_;simp only[go_sem,aC,getD_map aJ hi,hi,aJ];refine aW (λh3=>?_) (λh3=>?_)<;>simp only[go_sem,aC,getD_map aJ hi,hi,aJ]
   ·simp only[Bool.and_eq_true,decide_eq_true_eq] at h3;rw[if_neg (by omega)];have hp':qt t (i+1):=λj hj=>by
     rcases Nat.lt_succ_iff_lt_or_eq.1 hj with h|h
     ·exact hp j h
     ·subst h;omega
    have hlen:=mH hf hi hp';have hat:(t.nodes.getD i default).attrs.length<=(bg t i).length:=by rw[rz hp',List.length_append];omega
    generalize hs:(bg t i).length-(t.nodes.getD i default).attrs.length=s;have hw:i64.wrap (((bg t i).length:Int)-((t.nodes.getD i default).attrs.length:Int))=s:=by rw[IntWalk.i64_in _ (by omega)];omega
    refine aY ((ahM t hf i hi hp').toL) (by simp only[go_sem,aC,getD_map aJ hi,hi,aJ]<;>rfl) (yz) ?_;simp only[go_sem,aC,getD_map aJ hi,hi,aJ];refine bU (λh5=>?_) (λh5=>?_)<;>simp only[go_sem,h5,aC,getD_map aJ hi,hi,aJ]
    ·have h5':=cm h5;rw[if_pos (by omega)]
    ·have h5':=ew h5;rw[if_neg (by omega)];refine aL (λh6=>?_) (λh6=>?_)<;>simp only[go_sem,aC,getD_map aJ hi,hi,aJ]
     ·have h6':=cm h6;rw[if_pos (by omega)]
     ·have h6':=ew h6;rw[if_neg (by omega),hw];generalize hf':(λk=>tq ((bg t i).take k) ((bg t i).getD k default))=f;refine bM (σ:=Nat) (λx=>(cE (cE (cE (cE (cE fT 1 (.p (.val (.int .i64 i)))) 2 (.ptr 2 0)) 5 (.ptr 5 0)) 7 (.p (.aV ((bg t i).map aU)))) 8 (.p (.val (.int .i64 x)))))
       (λx=>(bk (bk ck 2 (.box [.p (.aV (t.nodes.map aJ)),.p (.aV (t.ak.map aM))])) 5 (.box [.p (.val (.string (t.nodes.getD i default).name)),.p (.val (.int .i64 (t.nodes.getD i default).parent)),.p (.val (.bool (t.nodes.getD i default).abs)),.p (.aV ((t.nodes.getD i default).attrs.map aU))])))
       (λx=>(s<=x/\x<=(bg t i).length)/\∀j,s<=j->j<x->f j=0) (λx=>(bg t i).length-x) s ⟨⟨Nat.le_refl _,by omega⟩,λj hj hj'=>absurd hj' (by omega)⟩ bX ?_
      rintro x ⟨⟨hsx,hx⟩,hq⟩;simp only[go_sem,aC,getD_map aJ hi,hi,aJ];refine aL (λhc=>?_) (λhc=>?_)
      ·have hlt:x<(bg t i).length:=by have:=cm hc;omega
       have hA:=hf.aAN hi hp' (hU hlt);have e:f x=tq ((bg t i).take x) ((bg t i).getD x default):=by rw[<-hf']
       simp only[go_sem,aC,getD_map aJ hi,hi,aJ,getD_map aU hlt,hlt,aU];refine aY (xu ((bg t i).getD x default).name (Nat.le_trans hA.name (by decide))) (by simp only[go_sem,aC,getD_map aJ hi,hi,aJ,getD_map aU hlt,hlt,aU]<;>rfl) (b6 rfl) ?_;simp only[go_sem,aC,getD_map aJ hi,hi,aJ,getD_map aU hlt,hlt,aU];refine aW (λh7=>?_) (λh7=>?_)<;>simp only[go_sem,aC,getD_map aJ hi,hi,aJ,getD_map aU hlt,hlt,aU]
       ·refine bM (σ:=Nat) (λy=>(cE (cE (cE (cE (cE (cE fT 1 (.p (.val (.int .i64 i)))) 2 (.ptr 2 0)) 5 (.ptr 5 0)) 7 (.p (.aV ((bg t i).map aU)))) 8 (.p (.val (.int .i64 x)))) 9 (.p (.val (.int .i64 y)))))
         (λx=>(bk (bk ck 2 (.box [.p (.aV (t.nodes.map aJ)),.p (.aV (t.ak.map aM))])) 5 (.box [.p (.val (.string (t.nodes.getD i default).name)),.p (.val (.int .i64 (t.nodes.getD i default).parent)),.p (.val (.bool (t.nodes.getD i default).abs)),.p (.aV ((t.nodes.getD i default).attrs.map aU))])))
         (λy=>y<=x/\∀j,j<y->decide (((bg t i).getD j default).name=((bg t i).getD x default).name)=false) (λy=>x-y) 0 ⟨Nat.zero_le _,λj hj=>absurd hj (Nat.not_lt_zero j)⟩ bX ?_
        rintro y ⟨hy,hqy⟩;simp only[go_sem,aC,getD_map aJ hi,hi,aJ,getD_map aU hlt,hlt,aU];refine aL (λqo=>?_) (λqo=>?_)
        ·have hlty:y<x:=by simpa using qo
         have ado:y<(bg t i).length:=by omega
         simp only[go_sem,aC,getD_map aJ hi,hi,aJ,getD_map aU hlt,hlt,aU,getD_map aU ado,ado];refine dx [.q,.q,.q,.q,.q,.q,.q,.q,.q,.q,.q] (by kernel_rfl) ?_;simp only[go_sem,aC,getD_map aJ hi,hi,aJ,getD_map aU hlt,hlt,aU,getD_map aU ado,ado];refine aL (λh8=>?_) (λh8=>?_)<;>simp only[go_sem,aC,getD_map aJ hi,hi,aJ,getD_map aU hlt,hlt,aU,getD_map aU ado,ado]
         ·have e5:f x=5:=by rw[e];unfold tq;rw[if_neg (by rw[h7];decide),if_pos (rX (p:=λz:Attr=>decide (z.name=((bg t i).getD x default).name)) hlty hx h8)]
          rw[wH hsx hlt hq (by rw[e5];decide),e5]
         ·exact bN (y+1) ⟨hlty,tY hqy h8⟩ (by omega) (by rw[bA hlty (by omega)];exact bX)
        ·have aCB:x<=y:=by simpa using qo
         have e6:f x=vt ((bg t i).getD x default):=by rw[e];unfold tq;rw[if_neg (by rw[h7];decide),if_neg (by rw[om (p:=λz:Attr=>decide (z.name=((bg t i).getD x default).name)) hx λj hj=>hqy j (by omega)];decide)]
         simp only[go_sem,aC,getD_map aJ hi,hi,aJ,getD_map aU hlt,hlt,aU];refine aY (ag3 ((bg t i).getD x default) hA) (by simp only[go_sem,aC,getD_map aJ hi,hi,aJ,getD_map aU hlt,hlt,aU]<;>rfl) (b6 rfl) ?_;simp only[go_sem,aC,getD_map aJ hi,hi,aJ,getD_map aU hlt,hlt,aU];rw[<-e6];refine aW (λh9=>?_) (λh9=>?_)<;>simp only[go_sem,aC,getD_map aJ hi,hi,aJ,getD_map aU hlt,hlt,aU]
         ·have h9':=cm h9;exact bN (x+1) ⟨⟨by omega,hlt⟩,λj hj hj'=>by
           rcases Nat.lt_succ_iff_lt_or_eq.1 hj' with h|h
           ·exact hq j hj h
           ·rw[h];exact h9'⟩ (by omega) (by rw[bA hlt (by omega)];exact bX)
         ·have h9':=ew h9;rw[wH hsx hlt hq h9']
       ·have e2:f x=2:=by rw[e];unfold tq;rw[if_pos h7]
        rw[wH hsx hlt hq (by rw[e2];decide),e2]
      ·have hge:(bg t i).length<=x:=by have:=ew hc;omega
       simp only[go_sem,aC,getD_map aJ hi,hi,aJ];rw[sA λj hj hj'=>hq j hj (by omega)]
   ·simp only[Bool.and_eq_false_iff,decide_eq_false_iff_not] at h3;rw[if_pos (by omega)]
 ·unfold kK;rw[if_pos h1]
def vQ(l:List Int)(i:Nat):List Int:=(List.range l.length).map λk=>if k<i\/l.length-1-i<k then l.getD (l.length-1-k) default else l.getD k default
theorem ack(l:List Int)(i:Nat):(vQ l i).length=l.length:=by simp[vQ]
theorem as4(l:List Int):vQ l 0=l:=by
 apply List.ext_getElem
 ·simp[vQ]
 ·intro k h1 h2;simp only[vQ,List.getElem_map,List.getElem_range,Nat.not_lt_zero,false_or,Nat.sub_zero];rw[if_neg (by omega)];simp[h2]
theorem axn(l:List Int)(i:Nat)(h:l.length<=2 * i+1):vQ l i=l.reverse:=by
 apply List.ext_getElem
 ·simp[vQ]
 ·intro k h1 h2;have hk:k<l.length:=by simpa using h2
  simp only[vQ,List.getElem_map,List.getElem_range,List.getElem_reverse];have h3:l.length-1-k<l.length:=by omega
  split
  ·simp[h3]
  ·have e:k=l.length-1-k:=by omega
   have:l[l.length-1-k]=l[k]:=by congr 1;omega
   rw[this];simp[hk]
theorem aqx(l:List Int)(i k:Nat)(hk:k<l.length):(vQ l i).getD k default=if k<i\/l.length-1-i<k then l.getD (l.length-1-k) default else l.getD k default:=by simp only[vQ,List.getD_eq_getElem?_getD,List.getElem?_map,List.getElem?_range hk,Option.map_some,Option.getD_some]
theorem as5(l:List Int)(i:Nat)(h:2 * i+1<l.length):((vQ l i).set i (l.getD (l.length-1-i) default)).set (l.length-1-i) (l.getD i default)=vQ l (i+1):=by
 apply List.ext_getElem
 ·simp[vQ]
 ·intro k h1 h2;have hk:k<l.length:=by simpa[vQ] using h2
  simp only[List.getElem_set,vQ,List.getElem_map,List.getElem_range];split
  ·rename_i e;rw[if_pos (by omega)];congr 1;omega
  ·split
   ·rename_i e;rw[if_pos (by omega),e]
   ·by_cases h3:k<i\/l.length-1-i<k
    ·rw[if_pos h3,if_pos (by omega)]
    ·rw[if_neg h3,if_neg (by omega)]
theorem acm(l:List Int)(k:Nat)(y:Int):(l.map encI).set k [PV.val (.int .i64 y)]=(l.set k y).map encI:=by rw[List.map_set];try rfl
theorem aoI(l:List Int)(hl:l.length<=1000000)(v:Nat):kJ pw 347 v 3 1 (l.map encI) [] (λa c=>a = .dQ []/\c=some (.row v 3 1 (l.reverse.map encI))):=by
 refine mG [] Ty.mixed func347 rfl (by kernel_rfl) (by simp[ntmps347]) ?_;rw[ntmps347,results347];simp only[go_sem];have hw:i64.wrap ((l.length:Int)-1)=(l.length:Int)-1:=IntWalk.i64_in _ (by omega);rw[hw];refine bM (σ:=Nat) (λx=>(cE (cE (cE fT 0 (.row 1000000 v)) 2 (.p (.val (.int .i64 x)))) 3 (.p (.val (.int .i64 ((l.length:Int)-1-x)))))) (λx=>(bk ck 1000000 (.row v 3 1 ((vQ l x).map encI))))
  (λx=>2 * x<=l.length+1) (λx=>l.length-2 * x) 0 (by omega) ?_ ?_
 ·rw[as4];exact bX
 rintro x hx;simp only[go_sem];refine aL (λhc=>?_) (λhc=>?_)
 ·have qo:=cm hc;have hx1:x<l.length:=by omega
  have hj1:((l.length:Int)-1-x).toNat=l.length-1-x:=by omega
  have hj2:l.length-1-x<l.length:=by omega
  have hlx:x<(vQ l x).length:=by rw[ack];exact hx1
  have hlj:l.length-1-x<(vQ l x).length:=by rw[ack];exact hj2
  have hv1:(vQ l x).getD (l.length-1-x) default=l.getD (l.length-1-x) default:=by rw[aqx l x _ hj2,if_neg (by omega)]
  have hv2:(vQ l x).getD x default=l.getD x default:=by rw[aqx l x _ hx1,if_neg (by omega)]
  have aEf:l.length-1-x<((vQ l x).set x (l.getD (l.length-1-x) default)).length:=by rw[List.length_set];exact hlj
  simp only[go_sem,hv1,hv2,acm,getD_map encI aEf,hj1,getD_map encI hlx,getD_map encI hlj,encI,ack,List.length_set];refine dx [.q,.q,.p,.p,.q,.q,.q,.q,.q,.q,.q,.q,.q,.w,.q,.w] (by kernel_rfl) ?_;simp only[go_sem,hv1,hv2,acm,getD_map encI aEf,hj1,getD_map encI hlx,getD_map encI hlj,encI,ack,List.length_set];refine⟨by omega,hj2,hx1,hx1,hx1,hx1,by omega,hj2,?_⟩;rw[as5 l x (by omega),bA (show x<l.length from hx1) (by omega)];have hw2:i64.wrap ((l.length:Int)-1-x-1)=(l.length:Int)-1-((x+1:Nat):Int):=by rw[IntWalk.i64_in _ (by omega)];omega
  rw[hw2];exact bN (x+1) (by omega) (by omega) bX
 ·have qo:=ew hc;simp only[go_sem];rw[axn l x (by omega)]
theorem axo(l:List Int):∀x∈l.map encI,x.length=1:=by intro x hx;obtain⟨a,_,rfl⟩:=List.mem_map.1 hx;rfl
theorem ahN(l:List Int)(hl:l.length<=1000000):br pw 90 [.aV (l.map encI)] (λr=>r = .row 3 1 (l.map encI)):=by
 by_cases h0:l=[]
 ·subst h0;refine br.tH (by kernel_rfl) λao cap=>?_
  refine bE [5] func90 ?_;rw[ntmps90,results90];simp only[go_sem];cases ao with
  |none=>simp only[go_sem];exact⟨by decide,_,.nil _ _ (by decide),rfl⟩
  |some a=>simp only[go_sem];exact⟨λ_ h=>h.elim,by decide,_,.refl _,rfl⟩
 ·have hne:l.map encI≠[]:=by simpa using h0
  refine bE [5] func90 ?_;rw[ntmps90,results90];simp only[go_sem,hne];exact⟨⟨by omega,axo l⟩,by decide,_,.refl _,rfl⟩
theorem alA(l:List ByteArray):∀x∈l.map iF,x.length=1:=by intro x hx;obtain⟨a,_,rfl⟩:=List.mem_map.1 hx;rfl
theorem as6(l:List ByteArray)(hl:l.length<=1000000):br pw 293 [.aV (l.map iF)] (λr=>r = .row 9 1 (l.map iF)):=by
 by_cases h0:l=[]
 ·subst h0;refine br.tH (by kernel_rfl) λao cap=>?_
  refine bE [5] func293 ?_;rw[ntmps293,results293];simp only[go_sem];cases ao with
  |none=>simp only[go_sem];exact⟨by decide,_,.nil _ _ (by decide),rfl⟩
  |some a=>simp only[go_sem];exact⟨λ_ h=>h.elim,by decide,_,.refl _,rfl⟩
 ·have hne:l.map iF≠[]:=by simpa using h0
  refine bE [5] func293 ?_;rw[ntmps293,results293];simp only[go_sem,hne];exact⟨⟨by omega,alA l⟩,by decide,_,.refl _,rfl⟩
theorem axp(t:Types)(hf:fC t)(i:Nat)(hi:i<t.ak.length):aS pw 139 [aC t,.val (.int .i64 i)] (λr=>r = .val (.int .i64 (nS t i))):=by
 have hn:=hf.ak;have hn':=hf.nodes;refine aQ [] func139 ?_;rw[ntmps139,results139];simp only[go_sem,aC,getD_map aM hi,hi,aM];refine aY (xu (t.ak.getD i default).name (Nat.le_trans (hf.axh _ (hU hi)) (by decide))) (by simp only[go_sem,aC,getD_map aM hi,hi,aM]<;>rfl) (b6 rfl) ?_;simp only[go_sem,aC,getD_map aM hi,hi,aM];refine aW (λh1=>?_) (λh1=>?_)<;>simp only[go_sem,aC,getD_map aM hi,hi,aM]
 ·refine bM (σ:=Nat) (λx=>(cE (cE (cE (cE fT 1 (.p (.val (.int .i64 i)))) 2 (.ptr 2 0)) 5 (.ptr 5 0)) 6 (.p (.val (.int .i64 x)))))
   (λx=>(bk (bk ck 2 (.box [.p (.aV (t.nodes.map aJ)),.p (.aV (t.ak.map aM))])) 5 (.box [.p (.val (.string (t.ak.getD i default).name)),.p (.val (.int .i64 (t.ak.getD i default).src)),.p (.val (.int .i64 (t.ak.getD i default).dst)),.p (.val (.int .i64 (t.ak.getD i default).nN)),.p (.val (.int .i64 (t.ak.getD i default).jZ)),.p (.val (.int .i64 (t.ak.getD i default).tj)),.p (.val (.int .i64 (t.ak.getD i default).og))])))
   (λx=>x<=i/\∀j,j<x->decide ((t.ak.getD j default).name=(t.ak.getD i default).name)=false) (λx=>i-x) 0 ⟨Nat.zero_le _,λj hj=>absurd hj (Nat.not_lt_zero j)⟩ bX ?_
  rintro x ⟨hx,hqx⟩;simp only[go_sem,aC,getD_map aM hi,hi,aM];refine aL (λhc=>?_) (λhc=>?_)
  ·have aoH:x<i:=by simpa using hc
   have hxl:x<t.ak.length:=by omega
   simp only[go_sem,aC,getD_map aM hi,hi,aM,getD_map aM hxl,hxl];refine dx [.q,.q,.q,.q,.q,.q,.q,.q,.q] (by kernel_rfl) ?_;simp only[go_sem,aC,getD_map aM hi,hi,aM,getD_map aM hxl,hxl];refine aL (λh2=>?_) (λh2=>?_)<;>simp only[go_sem,aC,getD_map aM hi,hi,aM,getD_map aM hxl,hxl]
   ·have:nS t i=5:=by unfold nS;rw[if_neg (by rw[h1];decide),if_pos (rX (p:=λy:lW=>decide (y.name=(t.ak.getD i default).name)) aoH (by omega) h2)]
    rw[this]
   ·exact bN (x+1) ⟨aoH,tY hqx h2⟩ (by omega) (by rw[bA aoH (by omega)];exact bX)
  ·have hge:i<=x:=by simpa using hc
   have afj:=om (p:=λy:lW=>decide (y.name=(t.ak.getD i default).name)) (Nat.le_of_lt hi) λj hj=>hqx j (by omega)
   have e1:nS t i=if ((inB t (t.ak.getD i default).src&&inB t (t.ak.getD i default).dst)&&(vO (t.ak.getD i default).nN (t.ak.getD i default).jZ&&vO (t.ak.getD i default).tj (t.ak.getD i default).og))=true then 0 else 6:=by unfold nS;rw[if_neg (by rw[h1];decide),if_neg (by rw[afj];decide)]
   rw[e1];clear e1;have hw:i64.wrap ((t.nodes.length:Int)-1)=(t.nodes.length:Int)-1:=IntWalk.i64_in _ (by omega);have hin:∀n:Int,(decide (0<=n)&&decide (n<=(t.nodes.length:Int)-1))=inB t n:=λn=>by unfold inB;congr 1;rw[decide_eq_decide];omega
   simp only[go_sem,aC,getD_map aM hi,hi,aM,hw];refine aY (aaX (t.ak.getD i default).src 0 ((t.nodes.length:Int)-1)) (by simp only[go_sem,aC,getD_map aM hi,hi,aM,hw]<;>rfl) (b6 rfl) ?_;simp only[go_sem,hin,aC,getD_map aM hi,hi,aM,hw];refine bP (λh3=>?_) (λh3=>?_)<;>simp only[go_sem,h3,aC,getD_map aM hi,hi,aM,hw]
   refine aY (aaX (t.ak.getD i default).dst 0 ((t.nodes.length:Int)-1)) (by simp only[go_sem,aC,getD_map aM hi,hi,aM,hw]<;>rfl) (b6 rfl) ?_;simp only[go_sem,hin,h3,aC,getD_map aM hi,hi,aM,hw];refine bP (λh4=>?_) (λh4=>?_)<;>simp only[go_sem,h4,aC,getD_map aM hi,hi,aM,hw]
   refine aY (alq (t.ak.getD i default).nN (t.ak.getD i default).jZ) (by simp only[go_sem,aC,getD_map aM hi,hi,aM,hw]<;>rfl) (b6 rfl) ?_;simp only[go_sem,aC,getD_map aM hi,hi,aM,hw];refine bP (λh5=>?_) (λh5=>?_)<;>simp only[go_sem,h5,aC,getD_map aM hi,hi,aM,hw]
   refine aY (alq (t.ak.getD i default).tj (t.ak.getD i default).og) (by simp only[go_sem,aC,getD_map aM hi,hi,aM,hw]<;>rfl) (b6 rfl) ?_;simp only[go_sem,aC,getD_map aM hi,hi,aM,hw];refine aW (λh6=>?_) (λh6=>?_)<;>simp only[go_sem,h6,aC,getD_map aM hi,hi,aM,hw]
 ·unfold nS;rw[if_pos h1]
theorem adp(t:Types)(hf:fC t):aS pw 78 [aC t] (λr=>r = .dQ [.val (.string (gC t).1),.val (.int .i64 (gC t).2)]):=by
 have hn:=hf.nodes;have hm:=hf.ak;refine aQ [] func78 ?_;rw[ntmps78,results78];simp only[go_sem,aC];refine aL (λh1=>?_) (λh1=>?_)<;>simp only[go_sem,aC]
 ·have tG:=cm h1;unfold gC;rw[if_pos (by omega)];exact⟨rfl,rfl⟩
 ·have tG:=ew h1;have hN:t.nodes.length≠0:=by omega
  have za:12<t.nodes.length\/20<t.ak.length->gC t=(⟨#[]⟩,3):=λh=>by unfold gC;rw[if_neg hN,if_pos h]
  refine bU (λh2=>?_) (λh2=>?_)<;>simp only[go_sem,h2,aC]
  ·have h2':=cm h2;rw[za (by omega)];exact⟨rfl,rfl⟩
  ·have h2':=ew h2;refine aL (λh3=>?_) (λh3=>?_)<;>simp only[go_sem,aC]
   ·have h3':=cm h3;rw[za (by omega)];exact⟨rfl,rfl⟩
   ·have h3':=ew h3
    have hV : gC t = match kz (kK t) 0 t.nodes.length with
      |some k=>((t.nodes.getD k default).name,kK t k)
      |none=>match kz (nS t) 0 t.ak.length with
       |some k=>((t.ak.getD k default).name,nS t k)
       |none=>(⟨#[]⟩,0):=by unfold gC;rw[if_neg hN,if_neg (by omega)];try rfl
    clear za;refine bM (σ:=Nat) (λx=>(cE (cE fT 1 (.ptr 1 0)) 4 (.p (.val (.int .i64 x)))))
     (λx=>(bk ck 1 (.box [.p (.aV (t.nodes.map aJ)),.p (.aV (t.ak.map aM))])))
     (λx=>x<=t.nodes.length/\∀j,j<x->kK t j=0) (λx=>t.nodes.length-x) 0 ⟨Nat.zero_le _,λj hj=>absurd hj (Nat.not_lt_zero j)⟩ bX ?_
    rintro x ⟨hx,hq⟩;simp only[go_sem,aC];refine aL (λhc=>?_) (λhc=>?_)
    ·have hlt:x<t.nodes.length:=by simpa using hc
     simp only[go_sem,aC,getD_map aJ hlt,hlt,aJ];refine aY (axm t hf x hlt (afy hq)) (by simp only[go_sem,aC,getD_map aJ hlt,hlt,aJ]<;>rfl) (b6 rfl) ?_;simp only[go_sem,aC,getD_map aJ hlt,hlt,aJ];refine aW (λh4=>?_) (λh4=>?_)<;>simp only[go_sem,aC,getD_map aJ hlt,hlt,aJ]
     ·have y9:=cm h4;exact bN (x+1) ⟨hlt,all_succ hq y9⟩ (by omega) (by rw[bA hlt (by omega)];exact bX)
     ·have y9:=ew h4;rw[hV,lX (Nat.zero_le _) hlt (λj _=>hq j) y9];exact⟨rfl,rfl⟩
    ·have hge:t.nodes.length<=x:=by simpa using hc
     have hN0:kz (kK t) 0 t.nodes.length=none:=gl λj _ hj=>hq j (by omega)
     rw[hN0] at hV;simp only[] at hV;simp only[go_sem,aC];refine bM (σ:=Nat) (λx=>(cE (cE fT 1 (.ptr 1 0)) 6 (.p (.val (.int .i64 x)))))
      (λx=>(bk ck 1 (.box [.p (.aV (t.nodes.map aJ)),.p (.aV (t.ak.map aM))])))
      (λx=>x<=t.ak.length/\∀j,j<x->nS t j=0) (λx=>t.ak.length-x) 0 ⟨Nat.zero_le _,λj hj=>absurd hj (Nat.not_lt_zero j)⟩ bX ?_
     rintro y ⟨hy,hq'⟩;simp only[go_sem,aC];refine aL (λqo=>?_) (λqo=>?_)
     ·have hlt:y<t.ak.length:=by simpa using qo
      simp only[go_sem,aC,getD_map aM hlt,hlt,aM];refine aY (axp t hf y hlt) (by simp only[go_sem,aC,getD_map aM hlt,hlt,aM]<;>rfl) (b6 rfl) ?_;simp only[go_sem,aC,getD_map aM hlt,hlt,aM];refine aW (λh4=>?_) (λh4=>?_)<;>simp only[go_sem,aC,getD_map aM hlt,hlt,aM]
      ·have y9:=cm h4;exact bN (y+1) ⟨hlt,all_succ hq' y9⟩ (by omega) (by rw[bA hlt (by omega)];exact bX)
      ·have y9:=ew h4;rw[hV,lX (Nat.zero_le _) hlt (λj _=>hq' j) y9];exact⟨rfl,rfl⟩
     ·have hge:t.ak.length<=y:=by simpa using qo
      simp only[go_sem,aC];rw[hV,gl λj _ hj=>hq' j (by omega)];exact⟨rfl,rfl⟩
theorem vu{f:Nat->Int}{s n k:Nat}(h:kz f s n=some k):f k≠0:=by unfold kz at h;have:=List.find?_some h;simpa using this
theorem xw{f:Nat->Int}{n:Nat}(h:kz f 0 n=none):∀j,j<n->f j=0:=by intro j hj;unfold kz at h;rw[List.find?_eq_none] at h;have:=h j (by rw[List.mem_range'_1];omega);simpa using this
structure OkT(t:Types):Prop where
 wI:fC t
 pos:0<t.nodes.length
 n12:t.nodes.length<=12
 m20:t.ak.length<=20
 node:∀j,j<t.nodes.length->kK t j=0
 gR:∀j,j<t.ak.length->nS t j=0
theorem rY{t:Types}(hf:fC t)(h:(gC t).2=0):OkT t:=by
 unfold gC at h;split at h
 ·cases h
 ·split at h
  ·cases h
  ·split at h
   ·rename_i hk;exact absurd h (vu hk)
   ·split at h
    ·rename_i hk;exact absurd h (vu hk)
    ·rename_i h1 h2 _ h3 _ h4;exact⟨hf,by omega,by omega,by omega,xw h3,xw h4⟩
theorem OkT.par{t:Types}(h:OkT t):qt t t.nodes.length:=afy h.node
theorem OkT.par'{t:Types}(h:OkT t){a:Nat}(ha:a<t.nodes.length):qt t (a+1):=λj hj=>h.par j (by omega)
theorem OkT.ends{t:Types}(h:OkT t){i:Nat}(hi:i<t.ak.length):inB t (t.ak.getD i default).src=true/\inB t (t.ak.getD i default).dst=true:=by
 have:=h.gR i hi;unfold nS at this;split at this
 ·cases this
 ·split at this
  ·cases this
  ·split at this
   ·rename_i h1;simp only[Bool.and_eq_true] at h1;exact h1.1
   ·cases this
theorem xx{t:Types}{n:Int} : inB t n=true↔0<=n/\n<t.nodes.length:=by unfold inB;simp only[Bool.and_eq_true,decide_eq_true_eq]
def upK(t:Types):Nat->Int->List Int
 |0,_=>[]
 |k+1,a=>if a<0 then [] else a :: upK t k (t.nodes.getD a.toNat default).parent
def upL(t:Types)(a:Int):List Int:=upK t (a.toNat+1) a
def isB(t:Types)(a b:Int):Bool:=(upL t a).any λx=>decide (x=b)
theorem ajm{t:Types}{a:Int}(h:a<0):upL t a=[]:=by unfold upL upK;rw[if_pos h]
theorem alB{t:Types} : ∀ (k k':Nat) (a:Int),(∀j:Nat,(j:Int)<=a->-1<=(t.nodes.getD j default).parent/\(t.nodes.getD j default).parent<j)->a<k->a<k'->0<k->0<k'->upK t k a=upK t k' a
 |0,_,_,_,_,_,h,_=>by omega
 |_+1,0,_,_,_,_,_,h=>by omega
 |k+1,k'+1,a,hp,h,h',_,_=>by
  unfold upK;split
  ·rfl
  ·rename_i h0;have hq:=hp a.toNat (by omega);congr 1;cases k with
   |zero =>
    cases k' with
    |zero=>rfl
    |succ k' =>
     have:(t.nodes.getD a.toNat default).parent<0:=by omega
     unfold upK;rw[if_pos this]
   |succ k =>
    cases k' with
    |zero =>
     have:(t.nodes.getD a.toNat default).parent<0:=by omega
     unfold upK;rw[if_pos this]
    |succ k'=>exact alB (k+1) (k'+1) _ (λj hj=>hp j (by omega)) (by omega) (by omega) (by omega) (by omega)
theorem alC{t:Types}{a:Nat}(hp:qt t (a+1)):upL t a=(a:Int) :: upL t (t.nodes.getD a default).parent:=by
 have hq:=hp a (by omega);have e:upL t a=(a:Int) :: upK t a (t.nodes.getD a default).parent:=by
  unfold upL;rw[Int.toNat_natCast]
  conv=>lhs;unfold upK
  rw[if_neg (by omega),Int.toNat_natCast]
 rw[e];congr 1;by_cases h0:(t.nodes.getD a default).parent<0
 ·rw[ajm h0];cases a with
  |zero=>rfl
  |succ a=>unfold upK;rw[if_pos h0]
 ·unfold upL;exact alB _ _ _ (λj hj=>hp j (by omega)) (by omega) (by omega) (by omega) (by omega)
theorem aqy{t:Types}{a b:Int}(h:a<0):isB t a b=false:=by unfold isB;rw[ajm h];try rfl
theorem alD{t:Types}{a:Nat}(hp:qt t (a+1))(b:Int):isB t a b=(decide ((a:Int)=b)||isB t (t.nodes.getD a default).parent b):=by unfold isB;rw[alC hp];try rfl
def qu(t:Types)(l:List Int):Int:=if (gC t).2≠0 then (gC t).2 else if l.any (λa=>!inB t a)=true then 6 else 0
theorem adq(t:Types)(b:Int)(hb:0<=b)(hf:fC t):∀ (n:Nat) (a:Int),a<n->-1<=a->a<t.nodes.length->qt t t.nodes.length->aS pw 155 [aC t,.val (.int .i64 a),.val (.int .i64 b)] (λr=>r = .val (.bool (isB t a b))):=by
 intro n
 induction n with
 |zero =>
  intro a hn ha hl hp;rw[aqy (by omega)];refine aQ [] func155 ?_;rw[ntmps155,results155];simp only[go_sem,aC];refine dx [.q,.q,.q,.q,.q,.q,.q,.q,.q,.q,.q,.q,.q,.q,.q,.q,.q,.q,.q] (by kernel_rfl) ?_;simp only[go_sem];refine pE (λh1=>?_) (λh1=>?_)<;>simp only[go_sem,h1]
  ·have:=cm h1;omega
  ·refine oE (λh2=>?_) (λh2=>?_)<;>simp only[go_sem,h1,h2]
   have:=cm h2;omega
 |succ n ih =>
  intro a hn ha hl hp;refine aQ [] func155 ?_;rw[ntmps155,results155];simp only[go_sem,aC];refine dx [.q,.q,.q,.q,.q,.q,.q,.q,.q,.q,.q,.q,.q,.q,.q,.q,.q,.q,.q] (by kernel_rfl) ?_;simp only[go_sem,aC];refine pE (λh1=>?_) (λh1=>?_)<;>simp only[go_sem,h1,aC]
  ·have tG:=cm h1;subst tG;obtain⟨q,rfl⟩:∃q:Nat,a=q:=⟨_,(Int.toNat_of_nonneg hb).symm⟩;rw[alD (λj hj=>hp j (by omega))];simp
  ·have tG:=ew h1;refine oE (λh2=>?_) (λh2=>?_)<;>simp only[go_sem,h1,h2,aC]
   ·have h2':=cm h2;obtain⟨q,rfl⟩:∃q:Nat,a=q:=⟨_,(Int.toNat_of_nonneg h2').symm⟩;have hq:q<t.nodes.length:=by omega
    have hpq:=hp q hq;simp only[go_sem,aC,getD_map aJ hq,hq,aJ];refine jD (ih (t.nodes.getD q default).parent (by omega) hpq.1 (by omega) hp) (by simp only[go_sem,aC,getD_map aJ hq,hq,aJ]<;>rfl) (b6 rfl) ?_;simp only[go_sem,h1,h2,aC,getD_map aJ hq,hq,aJ];rw[alD (λj hj=>hp j (by omega)),h1,Bool.false_or]
   ·have h2':=ew h2;rw[aqy (by omega)]
theorem as7(t:Types)(n:Int):aS pw 294 [.val (.int .i64 n),.dW [.aV (t.nodes.map aJ),.aV (t.ak.map aM)] 0] (λr=>r = .val (.bool (!inB t n))):=by
 refine aQ [] func294 ?_;rw[ntmps294,results294];simp only[go_sem];unfold inB
 repeat' first|done|(refine bU (λh=>?_) (λh=>?_)<;>try simp only[go_sem,h])|(refine bP (λh=>?_) (λh=>?_)<;>try simp only[go_sem,h])|(refine aW (λh=>?_) (λh=>?_)<;>try simp only[go_sem,h])|(refine aL (λh=>?_) (λh=>?_)<;>try simp only[go_sem,h])
 all_goals(simp only[decide_eq_true_eq,decide_eq_false_iff_not,Bool.not_eq_true',Bool.not_eq_false'] at *;rw[Bool.eq_iff_iff];simp only[Bool.not_eq_true',Bool.not_eq_false',Bool.and_eq_true,Bool.or_eq_true,Bool.and_eq_false_iff,Bool.or_eq_false_iff,decide_eq_true_eq,decide_eq_false_iff_not,Bool.false_eq_true,true_iff,iff_true,false_iff,iff_false];omega)
theorem afA(t:Types)(hf:fC t)(l:List Int)(hl:l.length<=1000000):aS pw 233 [aC t,.aV (l.map encI)] (λr=>r = .val (.int .i64 (qu t l))):=by
 unfold qu;refine aQ [] func233 ?_;rw[ntmps233,results233];simp only[go_sem,aC];refine aY (aly t hf) (by simp only[go_sem,aC]<;>rfl) (b6 rfl) ?_;simp only[go_sem,aC];refine aW (λh1=>?_) (λh1=>?_)<;>simp only[go_sem,aC]
 ·have tG:=cm h1;rw[if_neg (by rw[tG];decide)];refine aY (aci (λa=>!inB t a) l hl _ [] [.dW [.aV (t.nodes.map aJ),.aV (t.ak.map aM)] 0] (λy _=>as7 t y)) (by simp only[go_sem,aC]<;>rfl) (b6 rfl) ?_;simp only[go_sem,aC];refine aL (λh2=>?_) (λh2=>?_)<;>simp only[go_sem,aC]
  ·rw[if_pos h2]
  ·rw[if_neg (by rw[h2];decide)]
 ·have tG:=ew h1;rw[if_pos tG]
theorem ahO(t:Types)(hf:fC t)(a b:Int):aS pw 152 [aC t,.val (.int .i64 a),.val (.int .i64 b)] (λr=>r = .val (.int .i64 (qu t [a,b]))):=by
 have hn':=hf.nodes;have hw:i64.wrap ((t.nodes.length:Int)-1)=(t.nodes.length:Int)-1:=IntWalk.i64_in _ (by omega);have hin:∀n:Int,(decide (0<=n)&&decide (n<=(t.nodes.length:Int)-1))=inB t n:=λn=>by unfold inB;congr 1;rw[decide_eq_decide];omega
 unfold qu;refine aQ [] func152 ?_;rw[ntmps152,results152];simp only[go_sem,aC];refine aY (adp t hf) (by simp only[go_sem,aC]<;>rfl) (b6 rfl) ?_;simp only[go_sem,aC];refine aW (λh1=>?_) (λh1=>?_)<;>simp only[go_sem,aC]
 ·have tG:=cm h1;rw[if_neg (by rw[tG];decide)];simp only[go_sem,hw,aC];refine aY (aaX a 0 ((t.nodes.length:Int)-1)) (by simp only[go_sem,aC]<;>rfl) (b6 rfl) ?_;simp only[go_sem,hin,aC];refine bP (λh2=>?_) (λh2=>?_)<;>simp only[go_sem,h2,hw,aC]
  case refine_2=>simp[h2]
  refine aY (aaX b 0 ((t.nodes.length:Int)-1)) (by simp only[go_sem,aC]<;>rfl) (b6 rfl) ?_;simp only[go_sem,hin,aC];refine aW (λh3=>?_) (λh3=>?_)<;>simp only[go_sem,h3,aC]
  all_goals simp[h2,h3]
 ·have tG:=ew h1;rw[if_pos tG]
theorem aAQ(t:Types)(ht:OkT t)(a:Nat)(ha:a<t.nodes.length):aS pw 295 [aC t,.val (.int .i64 a)] (λr=>r = .aV ((upL t a).reverse.map encI)):=by
 have hn:=ht.n12;refine aQ [] func295 ?_;rw[ntmps295,results295];simp only[go_sem,aC];refine bM (σ:=Int×List Int×Nat) (λx=>(cE (cE (cE fT 1 (.p (.val (.int .i64 x.1)))) 2 (.ptr 2 0)) 5 (.row 5 x.2.2)))
  (λx=>(bk (bk ck 2 (.box [.p (.aV (t.nodes.map aJ)),.p (.aV (t.ak.map aM))])) 5 (.row x.2.2 3 1 (x.2.1.map encI))))
  (λx=>(-1<=x.1/\x.1<t.nodes.length/\x.2.1.length+(x.1+1).toNat<=20)/\x.2.1++upL t x.1=upL t a) (λx=>(x.1+1).toNat) ((a:Int),[],0) ⟨⟨by omega,by omega,by simp;omega⟩,by simp⟩
  ((iE 5 5 3 1 rfl rfl (by decide)).trans bX) ?_
 rintro⟨c,acc,v⟩ ⟨⟨h1,h2,h3⟩,h4⟩;simp only at h1 h2 h3 h4;simp only[go_sem];refine aL (λhc=>?_) (λhc=>?_)
 ·have qo:=cm hc;obtain⟨q,rfl⟩:∃q:Nat,c=q:=⟨_,(Int.toNat_of_nonneg qo).symm⟩;have hq:q<t.nodes.length:=by omega
  have hpq:=ht.par q hq;simp only[go_sem,getD_map aJ hq,hq,aJ];refine⟨by omega,?_⟩;rw[alC (ht.par' hq)] at h4;generalize (t.nodes.getD q default).parent=par at hpq h4 ⊢;refine bN (par,acc++[(q:Int)],v+1) ⟨⟨by dsimp only;omega,by dsimp only;omega,by simp only[List.length_append,List.length_cons,List.length_nil];omega⟩,?_⟩ (by dsimp only;omega) ?_
  ·rw[<-h4,List.append_assoc];try rfl
  ·rw[List.map_append];exact bX
 ·have qo:=ew hc;rw[ajm (by omega),List.append_nil] at h4;subst h4;simp only[go_sem];refine ach (aoI (upL t a) (by omega) v) (by simp only[go_sem]<;>rfl) (by simp only[go_sem]<;>rfl) (by simp only[go_sem]<;>rfl) (λh=>by cases h) ?_;simp only[go_sem]
theorem aoJ(t:Types)(ht:OkT t)(a:Nat)(ha:a<t.nodes.length)(b:Int):aS pw 234 [aC t,.val (.int .i64 a),.val (.int .i64 b)] (λr=>r = .val (.bool (isB t a b))):=by
 have hl:∀n:Int,-1<=n->n<t.nodes.length->(upL t n).length<=n.toNat+1:=by
  intro n h1 h2;have:∀ (k:Nat) (n:Int),(upK t k n).length<=k:=by
   intro k
   induction k with
   |zero=>intro n;simp[upK]
   |succ k ih =>
    intro n;unfold upK;split
    ·simp
    ·simp only[List.length_cons];exact Nat.succ_le_succ (ih _)
  exact this _ _
 have hla:=hl a (by omega) (by omega);have hn:=ht.n12;refine aQ [] func234 ?_;rw[ntmps234,results234];simp only[go_sem,aC];refine aY (aAQ t ht a ha) (by simp only[go_sem]<;>rfl) (yz) ?_;simp only[go_sem];refine aY (aAF ((upL t a).reverse) b (by simp;omega)) (by simp only[go_sem]<;>rfl) (b6 rfl) ?_;simp only[go_sem];unfold isB;rw[Bool.eq_iff_iff];simp only[List.any_eq_true,List.mem_reverse,decide_eq_true_eq];constructor
 ·rintro⟨x,h1,h2⟩;exact⟨x,h1,h2.symm⟩
 ·rintro⟨x,h1,h2⟩;exact⟨x,h1,h2.symm⟩
theorem ahP{t:Types}{a b:Int}(hf:fC t)(h:qu t [a,b]=0):OkT t/\(0<=a/\a<t.nodes.length)/\(0<=b/\b<t.nodes.length):=by
 unfold qu at h;split at h
 ·rename_i h1;exact absurd h h1
 ·rename_i h1;split at h
  ·cases h
  ·rename_i h2;refine⟨rY hf (Decidable.of_not_not h1),?_⟩;simp only[List.any_cons,List.any_nil,Bool.or_false,Bool.or_eq_true,Bool.not_eq_true',not_or,Bool.not_eq_false] at h2;exact⟨xx.1 h2.1,xx.1 h2.2⟩
def qT(t:Types)(e a b:Int):Bool:=decide (qu t [a,b]=0)&&((decide (0<=e)&&decide (e<t.ak.length))&&(isB t a (t.ak.getD e.toNat default).src&&isB t b (t.ak.getD e.toNat default).dst))
theorem aAR(t:Types)(hf:fC t)(e a b:Int):aS pw 136 [aC t,.val (.int .i64 e),.val (.int .i64 a),.val (.int .i64 b)] (λr=>r = .val (.bool (qT t e a b))):=by
 refine aQ [] func136 ?_;rw[ntmps136,results136];simp only[go_sem,aC];refine aY (afA t hf [a,b] (by simp)) (by simp only[go_sem,aC]<;>rfl) (b6 rfl) ?_;simp only[go_sem,aC];refine bP (λh1=>?_) (λh1=>?_)<;>simp only[go_sem,h1,aC]
 ·have tG:=cm h1;obtain⟨ht,ha,hb⟩:=ahP hf tG;refine bU (λh2=>?_) (λh2=>?_)<;>simp only[go_sem,h1,h2,aC]
  ·have h2':=cm h2;unfold qT;rw[eT (show ¬ 0<=e by omega)];simp
  ·have h2':=ew h2;refine aL (λh3=>?_) (λh3=>?_)<;>simp only[go_sem,h1,h2,h3,aC]
   ·have h3':=cm h3;unfold qT;rw[eT (show ¬ e<t.ak.length by omega)];simp
   ·have h3':=ew h3;obtain⟨k,rfl⟩:∃k:Nat,e=k:=⟨_,(Int.toNat_of_nonneg (by omega)).symm⟩;obtain⟨x,rfl⟩:∃k:Nat,a=k:=⟨_,(Int.toNat_of_nonneg ha.1).symm⟩;obtain⟨y,rfl⟩:∃k:Nat,b=k:=⟨_,(Int.toNat_of_nonneg hb.1).symm⟩;have hk:k<t.ak.length:=by omega
    have e0:qT t k x y=(isB t x (t.ak.getD k default).src&&isB t y (t.ak.getD k default).dst):=by unfold qT;rw[h1,dB (show (0:Int)<=k by omega),dB (show (k:Int)<t.ak.length by omega)];simp
    rw[e0];refine dx [.q,.q,.q,.q,.q,.q,.q,.q,.q,.q,.q,.q,.q,.q,.q,.q,.q,.q,.q,.q,.q] (by kernel_rfl) ?_;simp only[go_sem,aC,getD_map aM hk,hk,aM];refine jD (aoJ t ht x (by omega) (t.ak.getD k default).src) (by simp only[go_sem,aC,getD_map aM hk,hk,aM]<;>rfl) (b6 rfl) ?_;simp only[go_sem,aC,getD_map aM hk,hk,aM];refine oE (λh4=>?_) (λh4=>?_)<;>simp only[go_sem,h4,aC,getD_map aM hk,hk,aM]
    refine jD (aoJ t ht y (by omega) (t.ak.getD k default).dst) (by simp only[go_sem,aC,getD_map aM hk,hk,aM]<;>rfl) (b6 rfl) ?_;simp only[go_sem,h4,aC,getD_map aM hk,hk,aM]
 ·unfold qT;rw[h1];try rfl
theorem alE(t:Types)(hf:fC t)(e a b:Int):aS pw 94 [aC t,.val (.int .i64 e),.val (.int .i64 a),.val (.int .i64 b)] (λr=>r = .val (.bool (qT t e a b))):=by
 have hm:=hf.ak;have hw:i64.wrap ((t.ak.length:Int)-1)=(t.ak.length:Int)-1:=IntWalk.i64_in _ (by omega);refine aQ [] func94 ?_;rw[ntmps94,results94];simp only[go_sem,aC];refine aY (ahO t hf a b) (by simp only[go_sem,aC]<;>rfl) (b6 rfl) ?_;simp only[go_sem,aC];refine bP (λh1=>?_) (λh1=>?_)<;>simp only[go_sem,h1,aC]
 ·have tG:=cm h1;obtain⟨ht,ha,hb⟩:=ahP hf tG;simp only[go_sem,hw,aC];refine aY (aaX e 0 ((t.ak.length:Int)-1)) (by simp only[go_sem,aC]<;>rfl) (b6 rfl) ?_;simp only[go_sem,h1,aC];refine aW (λh2=>?_) (λh2=>?_)<;>simp only[go_sem,h1,h2,aC]
  ·have h2':0<=e/\e<=(t.ak.length:Int)-1:=by simpa only[Bool.and_eq_true,decide_eq_true_eq] using h2
   obtain⟨k,rfl⟩:∃k:Nat,e=k:=⟨_,(Int.toNat_of_nonneg (by omega)).symm⟩;obtain⟨x,rfl⟩:∃k:Nat,a=k:=⟨_,(Int.toNat_of_nonneg ha.1).symm⟩;obtain⟨y,rfl⟩:∃k:Nat,b=k:=⟨_,(Int.toNat_of_nonneg hb.1).symm⟩;have hk:k<t.ak.length:=by omega
   have e0:qT t k x y=(isB t x (t.ak.getD k default).src&&isB t y (t.ak.getD k default).dst):=by unfold qT;rw[h1,dB (show (0:Int)<=k by omega),dB (show (k:Int)<t.ak.length by omega)];simp
   rw[e0];have axq:=ht.ends hk;rw[xx,xx] at axq;refine dx [.q,.q,.q,.q,.q,.q,.q,.q,.q,.q,.q,.q,.q,.q,.q,.q,.q,.q,.q,.q,.q] (by kernel_rfl) ?_;simp only[go_sem,aC,getD_map aM hk,hk,aM];refine jD (adq t (t.ak.getD k default).src axq.1.1 hf t.nodes.length x (by omega) (by omega) (by omega) ht.par) (by simp only[go_sem,aC,getD_map aM hk,hk,aM]<;>rfl) (b6 rfl) ?_;simp only[go_sem,aC,getD_map aM hk,hk,aM];refine oE (λh4=>?_) (λh4=>?_)<;>simp only[go_sem,h4,aC,getD_map aM hk,hk,aM]
   refine jD (adq t (t.ak.getD k default).dst axq.2.1 hf t.nodes.length y (by omega) (by omega) (by omega) ht.par) (by simp only[go_sem,aC,getD_map aM hk,hk,aM]<;>rfl) (b6 rfl) ?_;simp only[go_sem,h4,aC,getD_map aM hk,hk,aM]
  ·unfold qT;rw[h1];by_cases h0:0<=e
   ·have:¬ e<t.ak.length:=by rw[dB h0,Bool.true_and] at h2;have:=ew h2;omega
    rw[eT this];simp
   ·rw[eT h0];simp
 ·unfold qT;rw[h1];try rfl
theorem axr{α:Type} [Inhabited α](f:α->List PV){l:List α}{x:Nat}(h:x<l.length):(l.take x).map f++[f (l.getD x default)]=(l.take (x+1)).map f:=by rw[oh h,List.map_append];try rfl
theorem alF(l:List Attr){x:Nat}(hx:x<l.length):(l.map aU).set x [.val (.string (l.getD x default).name),.val (.int .i64 (l.getD x default).low),.val (.int .i64 (l.getD x default).high),.aV ((l.getD x default).names.map iF)]=l.map aU:=by
 have:[PV.val (.string (l.getD x default).name),.val (.int .i64 (l.getD x default).low),.val (.int .i64 (l.getD x default).high),.aV ((l.getD x default).names.map iF)]=aU (l.getD x default):=rfl;rw[this,<-List.map_set];congr 1;have h2:l.getD x default=l[x]:=by simp[hx]
 rw[h2];simp
theorem OkT.valid{t:Types}(ht:OkT t):(gC t).2=0:=by unfold gC;rw[if_neg (by have:=ht.pos;omega),if_neg (by have:=ht.n12;have:=ht.m20;omega),gl λj _ hj=>ht.node j hj];simp only[];rw[gl λj _ hj=>ht.gR j hj]
theorem OkT.given{t:Types}(ht:OkT t){l:List Int}(hl:∀a∈l,0<=a/\a<t.nodes.length):qu t l=0:=by unfold qu;rw[if_neg (by rw[ht.valid];decide),if_neg];simp only[List.any_eq_true,Bool.not_eq_true',not_exists,not_and,Bool.not_eq_false];exact λa ha=>xx.2 (hl a ha)
theorem ahQ(t:Types)(ht:OkT t)(a:Nat)(ha:a<t.nodes.length):aS pw 232 [aC t,.val (.int .i64 a)] (λr=>r = .dQ [.aV ((bg t a).map aU),.val (.int .i64 0)]):=by
 have hlen:=mH ht.wI ha (ht.par' ha);have hg:qu t [(a:Int)]=0:=ht.given (by simp;omega);refine aQ [] func232 ?_;rw[ntmps232,results232];simp only[go_sem,aC];refine aY (afA t ht.wI [(a:Int)] (by simp)) (by simp only[go_sem]<;>rfl) (b6 rfl) ?_;simp only[go_sem,hg];refine wF 18 (alx t ht.wI a ha (ht.par' ha)) (by simp only[go_sem]<;>rfl) (y5) (by simp only[go_sem]) ?_;simp only[go_sem];refine bM (σ:=Nat) (λx=>(cE (cE (cE fT 7 (.row 18 0)) 20 (.p (.val (.int .i64 (bg t a).length)))) 21 (.p (.val (.int .i64 x)))))
  (λx=>(bk ck 18 (.row 0 168 4 ((bg t a).map aU))))
  (λx=>x<=(bg t a).length) (λx=>(bg t a).length-x) 0 (Nat.zero_le _) bX ?_
 rintro x hx;simp only[go_sem];refine aL (λhc=>?_) (λhc=>?_)
 ·have hlt:x<(bg t a).length:=by simpa using hc
  have hA:=ht.wI.aAN ha (ht.par' ha) (hU hlt);have hn:=hA.names;simp only[go_sem,getD_map aU hlt,hlt,aU,cQ];refine aY ((as6 (((bg t a).getD x default).names) (by omega)).toL) (by simp only[go_sem,getD_map aU hlt,hlt,aU,cQ]<;>rfl) (yz) ?_;simp only[go_sem,getD_map aU hlt,hlt,aU,cQ];rw[alF _ hlt];exact bN (x+1) hlt (by omega) (by rw[bA hlt (by omega)];exact bX)
 ·simp only[go_sem]
theorem afB(t:Types)(ht:OkT t)(a:Nat)(ha:a<t.nodes.length):aS pw 93 [aC t,.val (.int .i64 a)] (λr=>r = .dQ [.aV ((bg t a).map aU),.val (.int .i64 0)]):=by
 have hlen:=mH ht.wI ha (ht.par' ha);have hg:qu t [(a:Int),(a:Int)]=0:=ht.given (by simp;omega);refine aQ [] func93 ?_;rw[ntmps93,results93];simp only[go_sem,aC];refine aY (ahO t ht.wI (a:Int) (a:Int)) (by simp only[go_sem]<;>rfl) (b6 rfl) ?_;simp only[go_sem,hg];refine aY ((ahM t ht.wI a ha (ht.par' ha)).toL) (by simp only[go_sem]<;>rfl) (yz) ?_;simp only[go_sem];refine bM (σ:=Nat) (λx=>(cE (cE (cE fT 7 (.row 7 x)) 8 (.p (.aV ((bg t a).map aU)))) 9 (.p (.val (.int .i64 x)))))
  (λx=>(bk ck 7 (.row x 168 4 (((bg t a).take x).map aU))))
  (λx=>x<=(bg t a).length) (λx=>(bg t a).length-x) 0 (Nat.zero_le _) ((iE 7 7 168 4 rfl rfl (by decide)).trans bX) ?_
 rintro x hx;simp only[go_sem];refine aL (λhc=>?_) (λhc=>?_)
 ·have hlt:x<(bg t a).length:=by simpa using hc
  have hA:=ht.wI.aAN ha (ht.par' ha) (hU hlt);have hn:=hA.names;simp only[go_sem,getD_map aU hlt,hlt,aU,cQ];have e:=axr aU hlt;simp only[aU,cQ] at e;rw[e];refine⟨⟨by omega,alA _⟩,by simp;omega,?_⟩;exact bN (x+1) hlt (by omega) (by rw[bA hlt (by omega)];exact bX)
 ·have hge:(bg t a).length<=x:=by simpa using hc
  simp only[go_sem];rw[List.take_of_length_le hge]
structure axt(g:eU):Prop where
 nodes:g.nodes.length<=45
 ak:g.ak.length<=90
structure alG(g:eU):Prop where
 nodes:g.nodes.length<=1000
 ak:g.ak.length<=1000
theorem axt.za{g:eU}(h:axt g):alG g:=⟨by have:=h.nodes;omega,by have:=h.ak;omega⟩
def tu(n:Int):Bool:=decide (0<=n)&&decide (n<=99)
def uC(n:Nat)(e:Edge):Bool:=(tu e.type&&(decide (0<=e.src)&&decide (e.src<=(n:Int)-1)))&&(decide (0<=e.dst)&&decide (e.dst<=(n:Int)-1))
def qv(g:eU):Int:=if 40<g.nodes.length\/80<g.ak.length then 3 else if g.nodes.any (λn=>!tu n)=true then 6 else if g.ak.any (λe=>!uC g.nodes.length e)=true then 6 else 0
structure OkG(g:eU):Prop where
 nodes:g.nodes.length<=40
 ak:g.ak.length<=80
 kind:∀i,i<g.nodes.length->0<=g.nodes.getD i default/\g.nodes.getD i default<=99
 gR:∀i,i<g.ak.length->(0<=(g.ak.getD i default).type/\(g.ak.getD i default).type<=99)/\(0<=(g.ak.getD i default).src/\(g.ak.getD i default).src<g.nodes.length)/\(0<=(g.ak.getD i default).dst/\(g.ak.getD i default).dst<g.nodes.length)
theorem okG{g:eU}(h:qv g=0):OkG g:=by
 unfold qv at h;split at h
 ·cases h
 ·split at h
  ·cases h
  ·split at h
   ·cases h
   ·rename_i h1 h2 h3;simp only[List.any_eq_true,not_exists,not_and,Bool.not_eq_true',Bool.not_eq_false] at h2 h3;refine⟨by omega,by omega,λi hi=>?_,λi hi=>?_⟩
    ·have:=h2 _ (hU hi);simpa only[tu,Bool.and_eq_true,decide_eq_true_eq] using this
    ·have:=h3 _ (hU hi);simp only[uC,tu,Bool.and_eq_true,decide_eq_true_eq] at this;omega
theorem axu(e:Edge)(n:Nat)(hn:n<=1000):aS pw 231 [.agg (aZ e),.val (.int .i64 n)] (λr=>r = .val (.bool (uC n e))):=by
 have hw:i64.wrap ((n:Int)-1)=(n:Int)-1:=IntWalk.i64_in _ (by omega);unfold uC;refine aQ [] func231 ?_;rw[ntmps231,results231];simp only[go_sem,aZ,hw];refine aY (aav e.type 99) (by simp only[go_sem,aZ,hw]<;>rfl) (b6 rfl) ?_;simp only[go_sem,aZ,hw];have hk:(decide (0<=e.type)&&decide (e.type<=99))=tu e.type:=rfl;rw[hk];refine bP (λh1=>?_) (λh1=>?_)<;>simp only[go_sem,h1,aZ,hw]
 refine aY (aav e.src ((n:Int)-1)) (by simp only[go_sem,aZ,hw]<;>rfl) (b6 rfl) ?_;simp only[go_sem,aZ,hw];generalize (decide (0<=e.src)&&decide (e.src<=(n:Int)-1))=b1;refine bP (λh2=>?_) (λh2=>?_)<;>simp only[go_sem,h2,aZ,hw]
 refine aY (aav e.dst ((n:Int)-1)) (by simp only[go_sem,aZ,hw]<;>rfl) (b6 rfl) ?_;simp only[go_sem,aZ,hw]
theorem aoK(n:Int):aS pw 227 [.val (.int .i64 n)] (λr=>r = .val (.bool (!tu n))):=by unfold tu;refine aQ [] func227 ?_;rw[ntmps227,results227];simp only[go_sem];refine aY (aav n 99) (by simp only[go_sem]<;>rfl) (b6 rfl) ?_;simp only[go_sem]
theorem aoL(g:eU)(hg:alG g)(e:Edge):aS pw 230 [.agg (aZ e),.dW [bl g.nodes,.aV (g.ak.map aZ)] 0] (λr=>r = .val (.bool (!uC g.nodes.length e))):=by refine aQ [] func230 ?_;rw[ntmps230,results230];simp only[go_sem,aZ,bl];refine aY (axu e g.nodes.length hg.nodes) (by simp only[go_sem]<;>rfl) (b6 rfl) ?_;simp only[go_sem]
theorem as8(g:eU)(hg:alG g):aS pw 134 [ff g] (λr=>r = .val (.int .i64 (qv g))):=by
 have h1:=hg.nodes;have h2:=hg.ak;unfold qv;refine aQ [] func134 ?_;rw[ntmps134,results134];simp only[go_sem,ff,bl];refine bU (λh3=>?_) (λh3=>?_)<;>simp only[go_sem,h3,ff,bl]
 ·have h3':=cm h3;rw[if_pos (by omega)]
 ·have h3':=ew h3;refine aL (λh4=>?_) (λh4=>?_)<;>simp only[go_sem,ff,bl]
  ·have y9:=cm h4;rw[if_pos (by omega)]
  ·have y9:=ew h4;rw[if_neg (by omega)];refine aY (aci (λn=>!tu n) g.nodes (by omega) _ [] [] (λy _=>aoK y)) (by simp only[go_sem,ff,bl]<;>rfl) (b6 rfl) ?_;simp only[go_sem,ff,bl];refine aL (λh5=>?_) (λh5=>?_)<;>simp only[go_sem,ff,bl]
   ·rw[if_pos h5]
   ·rw[if_neg (by rw[h5];decide)];refine aY (ag1 (λe=>!uC g.nodes.length e) g.ak (by omega) _ [] [.dW [bl g.nodes,.aV (g.ak.map aZ)] 0] (λy _=>aoL g hg y)) (by simp only[go_sem,ff,bl]<;>rfl) (b6 rfl) ?_;simp only[go_sem,ff,bl];refine aL (λh6=>?_) (λh6=>?_)<;>simp only[go_sem,ff,bl]
    ·rw[if_pos h6]
    ·rw[if_neg (by rw[h6];decide)]
theorem alH(n:Int):aS pw 189 [.val (.int .i64 n)] (λr=>r = .val (.bool (tu n))):=by
 unfold tu;refine aQ [] func189 ?_;rw[ntmps189,results189];simp only[go_sem]
 repeat' first|done|(refine bU (λh=>?_) (λh=>?_)<;>try simp only[go_sem,h])|(refine bP (λh=>?_) (λh=>?_)<;>try simp only[go_sem,h])|(refine aW (λh=>?_) (λh=>?_)<;>try simp only[go_sem,h])|(refine aL (λh=>?_) (λh=>?_)<;>try simp only[go_sem,h])
theorem as9(e:Edge)(n:Nat):aS pw 190 [.agg (aZ e),.val (.int .i64 n)] (λr=>r = .val (.bool (uC n e))):=by
 refine aQ [] func190 ?_;rw[ntmps190,results190];simp only[go_sem,aZ];refine aY (alH e.type) (by simp only[go_sem,aZ]<;>rfl) (b6 rfl) ?_;simp only[go_sem,aZ];refine bP (λh1=>?_) (λh1=>?_)<;>simp only[go_sem,h1,aZ]
 ·have e0:uC n e=((decide (0<=e.src)&&decide (e.src<=(n:Int)-1))&&(decide (0<=e.dst)&&decide (e.dst<=(n:Int)-1))):=by unfold uC;rw[h1,Bool.true_and]
  rw[e0]
  repeat' first|done|(refine bU (λh=>?_) (λh=>?_)<;>try simp only[go_sem,h,h1,aZ])|(refine bP (λh=>?_) (λh=>?_)<;>try simp only[go_sem,h,h1,aZ])|(refine aW (λh=>?_) (λh=>?_)<;>try simp only[go_sem,h,h1,aZ])|(refine aL (λh=>?_) (λh=>?_)<;>try simp only[go_sem,h,h1,aZ])
  all_goals(simp only[decide_eq_true_eq,decide_eq_false_iff_not,Bool.not_eq_true',Bool.not_eq_false'] at *;rw[Bool.eq_iff_iff];simp only[Bool.not_eq_true',Bool.not_eq_false',Bool.and_eq_true,Bool.or_eq_true,Bool.and_eq_false_iff,Bool.or_eq_false_iff,decide_eq_true_eq,decide_eq_false_iff_not,Bool.false_eq_true,true_iff,iff_true,false_iff,iff_false];omega)
 ·unfold uC;rw[h1];try rfl
theorem any_true{α:Type} [Inhabited α]{p:α->Bool}{l:List α}{j:Nat}(hj:j<l.length)(h:p (l.getD j default)=true):l.any p=true:=List.any_eq_true.2 ⟨_,hU hj,h⟩
theorem any_false{α:Type} [Inhabited α]{p:α->Bool}{l:List α}(h:∀j,j<l.length->p (l.getD j default)=false):l.any p=false:=by rw[<-List.take_length (l:=l)];exact om (Nat.le_refl _) h
theorem aoM(g:eU)(hg:alG g):aS pw 109 [ff g] (λr=>r = .val (.int .i64 (qv g))):=by
 have h1:=hg.nodes;have h2:=hg.ak;unfold qv;refine aQ [] func109 ?_;rw[ntmps109,results109];simp only[go_sem,ff,bl];refine bU (λh3=>?_) (λh3=>?_)<;>simp only[go_sem,h3,ff,bl]
 ·have h3':=cm h3;rw[if_pos (by omega)]
 ·have h3':=ew h3;refine aL (λh4=>?_) (λh4=>?_)<;>simp only[go_sem,ff,bl]
  ·have y9:=cm h4;rw[if_pos (by omega)]
  ·have y9:=ew h4;rw[if_neg (by omega)];refine bM (σ:=Nat) (λx=>(cE (cE fT 1 (.ptr 1 0)) 3 (.p (.val (.int .i64 x)))))
    (λx=>(bk ck 1 (.box [.p (.aV (g.nodes.map encI)),.p (.aV (g.ak.map aZ))])))
    (λx=>x<=g.nodes.length/\∀j,j<x->(!tu (g.nodes.getD j default))=false) (λx=>g.nodes.length-x) 0 ⟨Nat.zero_le _,λj hj=>absurd hj (Nat.not_lt_zero j)⟩ bX ?_
   rintro x ⟨hx,hq⟩;simp only[go_sem,ff,bl];refine aL (λhc=>?_) (λhc=>?_)
   ·have hlt:x<g.nodes.length:=by simpa using hc
    simp only[go_sem,ff,bl,getD_map encI hlt,hlt,encI];refine aY (alH (g.nodes.getD x default)) (by simp only[go_sem,ff,bl,getD_map encI hlt,hlt,encI]<;>rfl) (b6 rfl) ?_;simp only[go_sem,ff,bl,getD_map encI hlt,hlt,encI];refine aW (λh5=>?_) (λh5=>?_)<;>simp only[go_sem,ff,bl,getD_map encI hlt,hlt,encI]
    ·exact bN (x+1) ⟨hlt,tY (p:=λj=>!tu (g.nodes.getD j default)) (λj hj=>by have:=hq j hj;simpa using this) (by rw[h5];rfl)⟩ (by omega) (by rw[bA hlt (by omega)];exact bX)
    ·rw[if_pos (any_true (p:=λn=>!tu n) hlt (by rw[h5];rfl))]
   ·have hge:g.nodes.length<=x:=by simpa using hc
    rw[if_neg (by rw[any_false (p:=λn=>!tu n) λj hj=>hq j (by omega)];decide)];simp only[go_sem,ff,bl];refine bM (σ:=Nat) (λx=>(cE (cE fT 1 (.ptr 1 0)) 4 (.p (.val (.int .i64 x)))))
     (λx=>(bk ck 1 (.box [.p (.aV (g.nodes.map encI)),.p (.aV (g.ak.map aZ))])))
     (λx=>x<=g.ak.length/\∀j,j<x->(!uC g.nodes.length (g.ak.getD j default))=false) (λx=>g.ak.length-x) 0 ⟨Nat.zero_le _,λj hj=>absurd hj (Nat.not_lt_zero j)⟩ bX ?_
    rintro y ⟨hy,hq'⟩;simp only[go_sem,ff,bl];refine aL (λqo=>?_) (λqo=>?_)
    ·have hlt:y<g.ak.length:=by simpa using qo
     simp only[go_sem,ff,bl,getD_map aZ hlt,hlt,aZ];refine dx [.q,.q,.q,.q,.q,.q,.q,.q,.q,.q] (by kernel_rfl) ?_;simp only[go_sem,ff,bl,getD_map aZ hlt,hlt,aZ];refine jD (as9 (g.ak.getD y default) g.nodes.length) (by simp only[go_sem,ff,bl,getD_map aZ hlt,hlt,aZ]<;>rfl) (b6 rfl) ?_;simp only[go_sem,ff,bl,getD_map aZ hlt,hlt,aZ];refine aW (λh5=>?_) (λh5=>?_)<;>simp only[go_sem,ff,bl,getD_map aZ hlt,hlt,aZ]
     ·exact bN (y+1) ⟨hlt,tY (p:=λj=>!uC g.nodes.length (g.ak.getD j default)) (λj hj=>by have:=hq' j hj;simpa using this) (by rw[h5];rfl)⟩ (by omega) (by rw[bA hlt (by omega)];exact bX)
     ·rw[if_pos (any_true (p:=λe=>!uC g.nodes.length e) hlt (by rw[h5];rfl))]
    ·have aCB:g.ak.length<=y:=by simpa using qo
     rw[if_neg (by rw[any_false (p:=λe=>!uC g.nodes.length e) λj hj=>hq' j (by omega)];decide)];simp only[go_sem,ff,bl]
structure aCC(h:Host):Prop where
 graph:axt h.graph
 values:h.values.length<=45
 row:∀l∈h.values,l.length<=12
structure sV(h:Host):Prop where
 graph:alG h.graph
 values:h.values.length<=1000
 row:∀l∈h.values,l.length<=1000
theorem aCC.za{h:Host}(hh:aCC h):sV h:=⟨hh.graph.za,by have:=hh.values;omega,λl hl=>by have:=hh.row l hl;omega⟩
def nO(t:Types)(kind:Nat)(values:List Int)(k:Nat):Int:=if values.getD k default<((bg t kind).getD k default).low\/((bg t kind).getD k default).high<values.getD k default then 6 else 0
def mI(t:Types)(kind:Int)(values:List Int):Int :=
 if (t.nodes.length:Int)<=kind then 6
 else if (t.nodes.getD kind.toNat default).abs=true then 13
 else if values.length≠(bg t kind.toNat).length then 20
 else pT (nO t kind.toNat values) 0 values.length
def tv(t:Types)(h:Host)(i:Nat):Int :=
 if (t.ak.length:Int)<=(h.graph.ak.getD i default).type then 6
 else if qT t (h.graph.ak.getD i default).type (h.graph.nodes.getD (h.graph.ak.getD i default).src.toNat default) (h.graph.nodes.getD (h.graph.ak.getD i default).dst.toNat default)=true then 0 else 13
def jT(t:Types)(h:Host):Int×Int :=
 if (gC t).2≠0 then (-1,(gC t).2)
 else if qv h.graph≠0 then (-1,qv h.graph)
 else if h.values.length≠h.graph.nodes.length then (-1,20)
 else match kz (λi=>mI t (h.graph.nodes.getD i default) (h.values.getD i default)) 0 h.graph.nodes.length with
  |some k=>((k:Int),mI t (h.graph.nodes.getD k default) (h.values.getD k default))
  |none=>match kz (tv t h) 0 h.graph.ak.length with
   |some k=>((k:Int),tv t h k)
   |none=>(-1,0)
theorem axv(t:Types)(ht:OkT t)(kind:Int)(hk:0<=kind)(values:List Int)(hv:values.length<=1000):aS pw 135 [aC t,.val (.int .i64 kind),.aV (values.map encI)] (λr=>r = .val (.int .i64 (mI t kind values))):=by
 obtain⟨k,rfl⟩:∃k:Nat,kind=k:=⟨_,(Int.toNat_of_nonneg hk).symm⟩;refine aQ [] func135 ?_;rw[ntmps135,results135];simp only[go_sem,aC];refine aL (λh1=>?_) (λh1=>?_)<;>simp only[go_sem,aC]
 ·have tG:=cm h1;unfold mI;rw[if_pos (by omega)]
 ·have tG:=ew h1;have pU:k<t.nodes.length:=by omega
  have hlen:=mH ht.wI pU (ht.par' pU);have e0:mI t k values=if (t.nodes.getD k default).abs=true then 13 else if values.length≠(bg t k).length then 20 else pT (nO t k values) 0 values.length:=by unfold mI;rw[if_neg (by omega),Int.toNat_natCast]
  rw[e0];clear e0;simp only[go_sem,aC,getD_map aJ pU,pU,aJ];refine aL (λh2=>?_) (λh2=>?_)<;>simp only[go_sem,aC,getD_map aJ pU,pU,aJ]
  ·rw[if_pos h2]
  ·rw[if_neg (by rw[h2];decide)];refine aY (ahQ t ht k pU) (by simp only[go_sem,aC,getD_map aJ pU,pU,aJ]<;>rfl) (yz) ?_;simp only[go_sem,aC,getD_map aJ pU,pU,aJ];refine aW (λh3=>?_) (λh3=>?_)<;>simp only[go_sem,aC,getD_map aJ pU,pU,aJ]
   ·have h3':=cm h3;have hvl:values.length=(bg t k).length:=by omega
    rw[if_neg (by omega)];refine bM (σ:=Nat) (λx=>(cE (cE (cE (cE fT 2 (.p (.aV (values.map encI)))) 33 (.p (.aV ((bg t k).map aU)))) 34 (.p (.val (.int .i64 (bg t k).length)))) 35 (.p (.val (.int .i64 x))))) (λx=>ck)
     (λx=>x<=values.length/\∀j,j<x->nO t k values j=0) (λx=>values.length-x) 0 ⟨Nat.zero_le _,λj hj=>absurd hj (Nat.not_lt_zero j)⟩ bX ?_
    rintro x ⟨hx,hq⟩;simp only[go_sem,aC,getD_map aJ pU,pU,aJ];refine aL (λhc=>?_) (λhc=>?_)
    ·have hlt:x<(bg t k).length:=by simpa using hc
     have kA:x<values.length:=by omega
     simp only[go_sem,aC,getD_map aJ pU,pU,aJ,getD_map aU hlt,hlt,aU,cQ,getD_map encI kA,kA,encI];refine dx [.q,.q,.q,.q,.q,.q,.q,.q,.q,.q,.q,.q,.q,.q,.q,.q] (by kernel_rfl) ?_;simp only[go_sem,aC,getD_map aJ pU,pU,aJ,getD_map aU hlt,hlt,aU,cQ,getD_map encI kA,kA,encI];have bad:∀p:Prop,nO t k values x=6->p=p->(6:Int)=pT (nO t k values) 0 values.length:=λp e _=>by rw[rA kA hq (by rw[e];decide),e]
     refine pE (λh4=>?_) (λh4=>?_)<;>simp only[go_sem,h4,aC,getD_map aJ pU,pU,aJ,getD_map aU hlt,hlt,aU,cQ,getD_map encI kA,kA,encI]
     ·have y9:=cm h4;exact bad True (by unfold nO;rw[if_pos (.inl y9)]) rfl
     ·have y9:=ew h4;refine aL (λh5=>?_) (λh5=>?_)<;>simp only[go_sem,h5,aC,getD_map aJ pU,pU,aJ,getD_map aU hlt,hlt,aU,cQ,getD_map encI kA,kA,encI]
      ·have h5':=cm h5;exact bad True (by unfold nO;rw[if_pos (.inr h5')]) rfl
      ·have h5':=ew h5;have e:nO t k values x=0:=by unfold nO;rw[if_neg (by omega)]
       exact bN (x+1) ⟨kA,all_succ hq e⟩ (by omega) (by rw[bA kA (by omega)];exact bX)
    ·have hge:(bg t k).length<=x:=by simpa using hc
     simp only[go_sem,aC,getD_map aJ pU,pU,aJ];rw[tI λj hj=>hq j (by omega)]
   ·have h3':=ew h3;rw[if_pos (by omega)]
theorem ata(t:Types)(ht:OkT t)(kind:Int)(hk:0<=kind)(values:List Int)(hv:values.length<=1000):aS pw 110 [aC t,.val (.int .i64 kind),.aV (values.map encI)] (λr=>r = .val (.int .i64 (mI t kind values))):=by
 obtain⟨k,rfl⟩:∃k:Nat,kind=k:=⟨_,(Int.toNat_of_nonneg hk).symm⟩;refine aQ [] func110 ?_;rw[ntmps110,results110];simp only[go_sem,aC];refine aL (λh1=>?_) (λh1=>?_)<;>simp only[go_sem,aC]
 ·have tG:=cm h1;unfold mI;rw[if_pos (by omega)]
 ·have tG:=ew h1;have pU:k<t.nodes.length:=by omega
  have hlen:=mH ht.wI pU (ht.par' pU);have e0:mI t k values=if (t.nodes.getD k default).abs=true then 13 else if values.length≠(bg t k).length then 20 else pT (nO t k values) 0 values.length:=by unfold mI;rw[if_neg (by omega),Int.toNat_natCast]
  rw[e0];clear e0;simp only[go_sem,aC,getD_map aJ pU,pU,aJ];refine aL (λh2=>?_) (λh2=>?_)<;>simp only[go_sem,aC,getD_map aJ pU,pU,aJ]
  ·rw[if_pos h2]
  ·rw[if_neg (by rw[h2];decide)];refine aY (afB t ht k pU) (by simp only[go_sem,aC,getD_map aJ pU,pU,aJ]<;>rfl) (yz) ?_;simp only[go_sem,aC,getD_map aJ pU,pU,aJ];refine aW (λh3=>?_) (λh3=>?_)<;>simp only[go_sem,aC,getD_map aJ pU,pU,aJ]
   ·have h3':=cm h3;have hvl:values.length=(bg t k).length:=by omega
    rw[if_neg (by omega)];refine bM (σ:=Nat) (λx=>(cE (cE (cE fT 2 (.p (.aV (values.map encI)))) 7 (.p (.aV ((bg t k).map aU)))) 9 (.p (.val (.int .i64 x))))) (λx=>ck)
     (λx=>x<=values.length/\∀j,j<x->nO t k values j=0) (λx=>values.length-x) 0 ⟨Nat.zero_le _,λj hj=>absurd hj (Nat.not_lt_zero j)⟩ bX ?_
    rintro x ⟨hx,hq⟩;simp only[go_sem,aC,getD_map aJ pU,pU,aJ];refine aL (λhc=>?_) (λhc=>?_)
    ·have hlt:x<(bg t k).length:=by simpa using hc
     have kA:x<values.length:=by omega
     simp only[go_sem,aC,getD_map aJ pU,pU,aJ,getD_map aU hlt,hlt,aU,cQ,getD_map encI kA,kA,encI];refine dx [.q,.q,.q,.q,.q,.q,.q,.q,.q,.q,.q,.q,.q,.q,.q,.q,.q,.q,.q,.q,.q,.q] (by kernel_rfl) ?_;simp only[go_sem,aC,getD_map aJ pU,pU,aJ,getD_map aU hlt,hlt,aU,cQ,getD_map encI kA,kA,encI];have bad:∀p:Prop,nO t k values x=6->p=p->(6:Int)=pT (nO t k values) 0 values.length:=λp e _=>by rw[rA kA hq (by rw[e];decide),e]
     refine pE (λh4=>?_) (λh4=>?_)<;>simp only[go_sem,h4,aC,getD_map aJ pU,pU,aJ,getD_map aU hlt,hlt,aU,cQ,getD_map encI kA,kA,encI]
     ·have y9:=cm h4;exact bad True (by unfold nO;rw[if_pos (.inl y9)]) rfl
     ·have y9:=ew h4;refine aL (λh5=>?_) (λh5=>?_)<;>simp only[go_sem,h5,aC,getD_map aJ pU,pU,aJ,getD_map aU hlt,hlt,aU,cQ,getD_map encI kA,kA,encI]
      ·have h5':=cm h5;exact bad True (by unfold nO;rw[if_pos (.inr h5')]) rfl
      ·have h5':=ew h5;have e:nO t k values x=0:=by unfold nO;rw[if_neg (by omega)]
       exact bN (x+1) ⟨kA,all_succ hq e⟩ (by omega) (by rw[bA kA (by omega)];exact bX)
    ·have hge:(bg t k).length<=x:=by simpa using hc
     simp only[go_sem,aC,getD_map aJ pU,pU,aJ];rw[tI λj hj=>hq j (by omega)]
   ·have h3':=ew h3;rw[if_pos (by omega)]
end Go.Proofs.YtjhkgjlmiolfoaaGreat
