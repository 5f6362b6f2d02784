/- Joined texts, part 3: lemmas for the statement. No condition. -/
import Derived.Test.YtjhkgjlmiolfoaaGreatJ2
import Derived.Test.YtjhkgjlmiolfoaaGreatProg
import Derived.KernelRfl
import Derived.Lib.Bytealg
set_option maxHeartbeats 4000000
set_option linter.unusedSimpArgs false
set_option linter.unusedVariables false
open Nat (reduceEqDiff reduceLT reduceLeDiff reduceMul reduceAdd reduceSub)
open Go.IntKind (i64)
open Go.Proofs.Tryz
open Go.Proofs.Tryz renaming prog → pw
namespace Go.cr
open Go.RowKit
variable{P:Program}{N:Nat}{own:List Nat}{ops:Array Oper}{K:Env->ay->Prop}{env:Env}{H:ay}
def ahl(P:Program)(o:Oper)(W:Env->ay->Prop)(env:Env)(H:ay):Prop:=∃x,yN P o (ev env) H x/\W (cH env o.dst (.p x)) H
def awp(P:Program)(own:List Nat)(ops:Array Oper)(o:Oper)(W:Env->ay->Prop)(env:Env)(H:ay):Prop:=∃x,yN P o (ev env) (o9 own ops H) x/\W (cH env o.dst (.p x)) H
def ae6(P:Program)(own:List Nat)(ops:Array Oper)(o:Oper)(W:Env->ay->Prop)(env:Env)(H:ay):Prop:=∃v H',ae1 P own ops o (ev env) H v H'/\W (cH env o.dst v) H'
def ahm(own:List Nat)(o:Oper)(env:Env):Prop:=match o.op with
 | .store _ (.tmp d) _=>∃off,env d = .ptr d off
 |_=>adJ own o env
def isS:oZ->Bool
 | .s=>true
 |_=>false
def ae7(own:List Nat)(ops:Array Oper)(l:List (Oper×oZ)):Bool:=l.all λx=>!pY own ops x.1||isS x.2
theorem aiU{o:Oper}{env:Env}(h:pY own ops o=true->ahm own o env):acZ own ops o env:=by
 obtain⟨dst,op,t,pos,af,g⟩:=o;refine⟨?_,λha=>?_⟩
 ·cases op<;>try trivial
  case store e a x =>
   cases a<;>try trivial
   rename_i k;intro hn;have h1:pY own ops ⟨dst,.store e (.tmp k) x,t,pos,af,g⟩=true:=by unfold pY;simp only[hn,Bool.true_or]
   exact h h1
 ·have h1:pY own ops ⟨dst,op,t,pos,af,g⟩=true:=by unfold pY;rw[ha,Bool.or_true]
  have h2:=h h1;cases op<;>first|exact h2|skip
  case store e a x=>simp[yS,appArg] at ha
def abf(own:List Nat)(o:Oper):Bool:=match o.dst with
 |some d=>!own.contains d
 |none=>true
def fZ(P:Program)(N:Nat)(own:List Nat)(ops:Array Oper):List (Oper×oZ)->(Env->ay->Prop)->Env->ay->Prop
 | [],K,env,H=>K env H
 |(o,c) :: rest,K,env,H=>wu N o.dst/\match mR ops o env with
  |some true=>(match c with
   | .p=>mU o=true/\abf own o=true/\(match gi P o (ev env) cm with
    |some (pre,v,_)=>pre/\fZ P N own ops rest K (cH env o.dst v) H
    |none=>False)
   | .q=>bO own o=true/\(match gi P o (ev env) H with
    |some (pre,v,_)=>pre/\fZ P N own ops rest K (cH env o.dst v) H
    |none=>ahl P o (fZ P N own ops rest K) env H)
   | .b=>bO own o=true/\(match gi P o (ev env) (sL H) with
    |some (pre,v,_)=>pre/\fZ P N own ops rest K (cH env o.dst v) H
    |none=>False)
   | .o=>bO own o=true/\(match gi P o (ev env) (o9 own ops H) with
    |some (pre,v,_)=>pre/\fZ P N own ops rest K (cH env o.dst v) H
    |none=>awp P own ops o (fZ P N own ops rest K) env H)
   | .w=>(match fW P own o (ev env) H with
    |some (pre,v,H')=>pre/\fZ P N own ops rest K (cH env o.dst v) H'
    |none=>False)
   | .s=>ahm own o env/\(match fW P own o (ev env) H with
    |some (pre,v,H')=>pre/\fZ P N own ops rest K (cH env o.dst v) H'
    |none=>False)
   | .f=>bO own o=true/\ae6 P own ops o (fZ P N own ops rest K) env H
   | .t=>opK P own o (fZ P N own ops rest K) env H)
  |some false=>fZ P N own ops rest K (cH env o.dst (.dQ [])) H
  |none=>False
theorem iT:∀ (l:List (Oper×oZ)) (env:Env) (H:ay),ae7 own ops l=true->fZ P N own ops l K env H->akL P N own ops l K env H
 | [],env,H,_,h=>h
 |(o,c) :: rest,env,H,hcl,h=>by
  obtain⟨hd,h⟩:=h;refine⟨hd,?_⟩;have rq:ae7 own ops rest=true:=by unfold ae7 at hcl ⊢;rw[List.all_cons,Bool.and_eq_true] at hcl;exact hcl.2
  have hc1:isS c=false->acZ own ops o env:=λhc=>aiU λhn=>by unfold ae7 at hcl;rw[List.all_cons,Bool.and_eq_true] at hcl;have:=hcl.1;simp only[hn,hc] at this;cases this
  split at h
  ·rename_i hg;cases c with
   |p =>
    simp only at h;obtain⟨h1,h2,h⟩:=h;split at h
    ·rename_i pre v H' hx;exact .inr ⟨rfl,v,H,.inr ⟨hg,hc1 rfl,pre,asc h1 hx,h.1,rfl,h2⟩,rfl,iT rest _ H rq h.2⟩
    ·exact h.elim
   |q =>
    simp only at h;obtain⟨h1,h⟩:=h;have hno:abf own o=true:=by unfold bO at h1;rw[Bool.and_eq_true] at h1;exact h1.1
    have hall:fW P own o (ev env) H=gi P o (ev env) H:=jY hno;split at h
    ·rename_i pre v H' hx;have:H'=H:=si h1 (hall.trans hx);subst this;exact .inr ⟨rfl,v,_,.inr ⟨hg,hc1 rfl,h1,rfl,.inl ⟨pre,hx,h.1⟩⟩,rfl,iT rest _ _ rq h.2⟩
    ·rename_i hx;obtain⟨x,hc,hw⟩:=h;exact .inr ⟨rfl,.p x,H,.inr ⟨hg,hc1 rfl,h1,rfl,.inr ⟨x,rfl,hc,hall.trans hx⟩⟩,rfl,iT rest _ H rq hw⟩
   |b =>
    simp only at h;obtain⟨h1,h⟩:=h;have hno:abf own o=true:=by unfold bO at h1;rw[Bool.and_eq_true] at h1;exact h1.1
    split at h
    ·rename_i pre v H' hx;have:H'=sL H:=si h1 ((jY (H:=sL H) hno).trans hx);subst this;exact .inr ⟨rfl,v,H,.inr ⟨hg,hc1 rfl,h1,rfl,pre,hx,h.1⟩,rfl,iT rest _ _ rq h.2⟩
    ·exact h.elim
   |w =>
    simp only at h;split at h
    ·rename_i pre v H' hx;exact .inr ⟨rfl,v,H',.inr ⟨hg,hc1 rfl,pre,hx,h.1⟩,trivial,iT rest _ H' rq h.2⟩
    ·exact h.elim
   |s =>
    simp only at h;obtain⟨hp,h⟩:=h;split at h
    ·rename_i pre v H' hx;exact .inr ⟨rfl,v,H',.inr ⟨hg,aiU λ_=>hp,pre,hx,h.1⟩,trivial,iT rest _ H' rq h.2⟩
    ·exact h.elim
   |f=>simp only at h;obtain⟨h1,v,H',hc,hw⟩:=h;exact .inr ⟨rfl,v,H',.inr ⟨hg,hc1 rfl,h1,hc⟩,trivial,iT rest _ H' rq hw⟩
   |t=>exact .inl ⟨rfl,.inr ⟨hg,akH (λe G hw=>iT rest e G rq hw) h⟩⟩
   |o =>
    simp only at h;obtain⟨h1,h⟩:=h;have hno:abf own o=true:=by unfold bO at h1;rw[Bool.and_eq_true] at h1;exact h1.1
    have hall:fW P own o (ev env) (o9 own ops H)=gi P o (ev env) (o9 own ops H):=jY hno;split at h
    ·rename_i pre v H' hx;have:H'=o9 own ops H:=si h1 (hall.trans hx);subst this;exact .inr ⟨rfl,v,H,.inr ⟨hg,hc1 rfl,h1,rfl,.inl ⟨pre,hx,h.1⟩⟩,rfl,iT rest _ _ rq h.2⟩
    ·rename_i hx;obtain⟨x,hc,hw⟩:=h;exact .inr ⟨rfl,.p x,H,.inr ⟨hg,hc1 rfl,h1,rfl,.inr ⟨x,rfl,hc,hall.trans hx⟩⟩,rfl,iT rest _ H rq hw⟩
  ·rename_i hg;cases hc:isT c with
   |true=>exact .inl ⟨rfl,.inl ⟨hg,iT rest _ H rq h⟩⟩
   |false=>exact .inr ⟨rfl,.dQ [],H,.inl ⟨hg,rfl,rfl⟩,by cases c<;>trivial,iT rest _ H rq h⟩
  ·exact h.elim
def ae8(N:Nat)(ops:Array Oper):Bool:=ops.toList.all λo=>match o.dst with
 |some d=>decide (d<N)
 |none=>true
theorem yW(h:ae8 N ops=true):∀ (i:Nat) o,ops[i]? = some o->wu N o.dst:=λi o ho=>by
 have:=List.all_eq_true.1 h o (by
  have:=Array.mem_of_getElem? ho;simpa using this)
 cases hd:o.dst with
 |none=>trivial
 |some d=>rw[hd] at this;show d<N;exact cu this
def awq(cs:List oZ):List (Nat×oZ):=(List.range cs.length).zip cs
def abX(N:Nat)(own:List Nat)(ops:Array Oper)(m:List Nat)(cs:List oZ):Bool:=ae4 own ops m (awq cs)&&ae8 N ops&&cs.length == ops.size&&ae7 own ops (ops.toList.zip cs)
theorem ad9{l:List Oper}{cs:List oZ}(h:cs.length=l.length):((List.range cs.length).zip cs).filterMap (λx=>l.toArray[x.1]?)=l:=by
 have:((List.range cs.length).zip cs).filterMap (λx=>l.toArray[x.1]?)=(((List.range cs.length).zip cs).map (·.1)).filterMap (λi=>l.toArray[i]?):=by rw[List.filterMap_map];rfl
 rw[this,List.map_fst_zip (by simp),h];apply List.ext_getElem?;intro j;have hf:(List.range l.length).filterMap (λi=>l.toArray[i]?)=l:=by
  have e:∀k,k<=l.length->(List.range k).filterMap (λi=>l.toArray[i]?)=l.take k:=by
   intro k
   induction k with
   |zero=>intro _;simp
   |succ k ih =>
    intro hk;rw[List.range_succ,List.filterMap_append,ih (by omega),List.take_add_one];congr 1;have:l[k]? = some (l[k]'(by omega)):=by simp
    simp[this]
  rw[e l.length (Nat.le_refl _),List.take_length]
 rw[hf]
theorem asi{l:List Oper}(m:List Nat)(cs:List oZ)(hok:abX N own l.toArray m cs=true)(hw:fZ P N own l.toArray (l.zip cs) K env H):vh P N own l.toArray K env H:=by
 unfold abX at hok;simp only[Bool.and_eq_true,beq_iff_eq] at hok;obtain⟨⟨⟨h1,h2⟩,h3⟩,h4⟩:=hok;have h3:cs.length=l.length:=by simpa using h3
 refine ahk m (awq cs) (l.zip cs) h1 ?_ ?_ (yW h2) (iT _ _ _ (by simpa using h4) hw)
 ·rw[List.map_fst_zip (by omega)];exact (ad9 h3).symm
 ·rw[List.map_snd_zip (by omega)];unfold awq;rw[List.map_snd_zip (by simp)]
theorem asj{l:List Oper}(m:List Nat)(pc:List (Nat×oZ))(hok:(ae4 own l.toArray m pc&&ae8 N l.toArray)=true)(os:List (Oper×oZ))(hcl:ae7 own l.toArray os=true)(h1:os.map (·.1)=pc.filterMap (λx=>l.toArray[x.1]?))(h2:os.map (·.2)=pc.map (·.2))
  (hw:fZ P N own l.toArray os K env H):vh P N own l.toArray K env H:=by
 rw[Bool.and_eq_true] at hok;exact ahk m pc os hok.1 h1 h2 (yW hok.2) (iT _ _ _ hcl hw)
def uk(P : Program)(N : Nat)(own : List Nat)(ops : Array Oper)(c : oZ)(o : Oper)(rest : List (Oper × oZ))(K : Env → ay → Prop)(env : Env)(H : ay) : Prop := match c with
   | .p=>mU o=true/\abf own o=true/\(match gi P o (ev env) cm with
    |some (pre,v,_)=>pre/\fZ P N own ops rest K (cH env o.dst v) H
    |none=>False)
   | .q=>bO own o=true/\(match gi P o (ev env) H with
    |some (pre,v,_)=>pre/\fZ P N own ops rest K (cH env o.dst v) H
    |none=>ahl P o (fZ P N own ops rest K) env H)
   | .b=>bO own o=true/\(match gi P o (ev env) (sL H) with
    |some (pre,v,_)=>pre/\fZ P N own ops rest K (cH env o.dst v) H
    |none=>False)
   | .o=>bO own o=true/\(match gi P o (ev env) (o9 own ops H) with
    |some (pre,v,_)=>pre/\fZ P N own ops rest K (cH env o.dst v) H
    |none=>awp P own ops o (fZ P N own ops rest K) env H)
   | .w=>(match fW P own o (ev env) H with
    |some (pre,v,H')=>pre/\fZ P N own ops rest K (cH env o.dst v) H'
    |none=>False)
   | .s=>ahm own o env/\(match fW P own o (ev env) H with
    |some (pre,v,H')=>pre/\fZ P N own ops rest K (cH env o.dst v) H'
    |none=>False)
   | .f=>bO own o=true/\ae6 P own ops o (fZ P N own ops rest K) env H
   | .t=>opK P own o (fZ P N own ops rest K) env H
def anU(P:Program)(N:Nat)(own:List Nat)(ops:Array Oper)(r:Option (Prop×AV×ay))(o:Oper)(rest:List (Oper×oZ))(K:Env->ay->Prop)(env:Env)(H:ay):Prop:=match r with
 |some (pre,v,H')=>pre/\fZ P N own ops rest K (cH env o.dst v) H'
 |none=>jh P o (fZ P N own ops rest K) env H
def awr(P:Program)(N:Nat)(own:List Nat)(ops:Array Oper)(r:Option (Prop×AV×ay))(o:Oper)(rest:List (Oper×oZ))(K:Env->ay->Prop)(env:Env)(H:ay):Prop:=match r with
 |some (pre,v,_)=>pre/\fZ P N own ops rest K (cH env o.dst v) H
 |none=>awp P own ops o (fZ P N own ops rest K) env H
def vJ(P : Program)(N : Nat)(own : List Nat)(ops : Array Oper)(g : Option Bool)(c : oZ)(o : Oper)(rest : List (Oper × oZ))(K : Env → ay → Prop)(env : Env)(H : ay) : Prop := match g with
  |some true=>uk P N own ops c o rest K env H
  |some false=>fZ P N own ops rest K (cH env o.dst (.dQ [])) H
  |none=>False
def anV(P:Program)(N:Nat)(own:List Nat)(ops:Array Oper)(r:Option (Prop×AV×ay))(o:Oper)(rest:List (Oper×oZ))(K:Env->ay->Prop)(env:Env)(H:ay):Prop:=match r with
 |some (pre,v,_)=>pre/\fZ P N own ops rest K (cH env o.dst v) H
 |none=>ahl P o (fZ P N own ops rest K) env H
def anW(P:Program)(N:Nat)(own:List Nat)(ops:Array Oper)(r:Option (Prop×AV×ay))(o:Oper)(rest:List (Oper×oZ))(K:Env->ay->Prop)(env:Env):Prop:=match r with
 |some (pre,v,H')=>pre/\fZ P N own ops rest K (cH env o.dst v) H'
 |none=>False
def anX(P:Program)(N:Nat)(own:List Nat)(ops:Array Oper)(r:Option (Prop×AV×ay))(o:Oper)(rest:List (Oper×oZ))(K:Env->ay->Prop)(env:Env)(H:ay):Prop:=match r with
 |some (pre,v,_)=>pre/\fZ P N own ops rest K (cH env o.dst v) H
 |none=>False
section
variable(o:Oper)(rest:List (Oper×oZ))
theorem asl:fZ P N own ops [] K env H=K env H:=rfl
theorem anY(c:oZ):fZ P N own ops ((o,c) :: rest) K env H=(wu N o.dst/\vJ P N own ops (mR ops o env) c o rest K env H):=by rw[fZ.eq_def];unfold vJ uk;rfl
theorem akM(c:oZ):vJ P N own ops (some true) c o rest K env H=uk P N own ops c o rest K env H:=rfl
theorem aiV(c:oZ):vJ P N own ops (some false) c o rest K env H=fZ P N own ops rest K (cH env o.dst (.dQ [])) H:=rfl
theorem aws:uk P N own ops .p o rest K env H=(mU o=true/\abf own o=true/\anX P N own ops (gi P o (ev env) cm) o rest K env H):=rfl
theorem awt:uk P N own ops .q o rest K env H=(bO own o=true/\anV P N own ops (gi P o (ev env) H) o rest K env H):=rfl
theorem awu:uk P N own ops .b o rest K env H=(bO own o=true/\anX P N own ops (gi P o (ev env) (sL H)) o rest K env H):=rfl
theorem awv:uk P N own ops .w o rest K env H=anW P N own ops (fW P own o (ev env) H) o rest K env:=rfl
theorem aww:uk P N own ops .o o rest K env H=(bO own o=true/\awr P N own ops (gi P o (ev env) (o9 own ops H)) o rest K env H):=rfl
theorem awx:uk P N own ops .s o rest K env H=(ahm own o env/\anW P N own ops (fW P own o (ev env) H) o rest K env):=rfl
theorem awy:uk P N own ops .f o rest K env H=(bO own o=true/\ae6 P own ops o (fZ P N own ops rest K) env H):=rfl
theorem awz:uk P N own ops .t o rest K env H=anU P N own ops (fW P own o (ev env) H) o rest K env H:=rfl
theorem akN(pre:Prop)(v:AV)(H':ay):anU P N own ops (some (pre,v,H')) o rest K env H=(pre/\fZ P N own ops rest K (cH env o.dst v) H'):=rfl
theorem akO:anU P N own ops none o rest K env H=jh P o (fZ P N own ops rest K) env H:=rfl
attribute [go_sem] awz akN akO
theorem akP(pre:Prop)(v:AV)(H':ay):awr P N own ops (some (pre,v,H')) o rest K env H=(pre/\fZ P N own ops rest K (cH env o.dst v) H):=rfl
theorem akQ(pre:Prop)(v:AV)(H':ay):anX P N own ops (some (pre,v,H')) o rest K env H=(pre/\fZ P N own ops rest K (cH env o.dst v) H):=rfl
theorem akR(pre:Prop)(v:AV)(H':ay):anV P N own ops (some (pre,v,H')) o rest K env H=(pre/\fZ P N own ops rest K (cH env o.dst v) H):=rfl
theorem akS:anV P N own ops none o rest K env H=ahl P o (fZ P N own ops rest K) env H:=rfl
theorem akT(pre:Prop)(v:AV)(H':ay):anW P N own ops (some (pre,v,H')) o rest K env=(pre/\fZ P N own ops rest K (cH env o.dst v) H'):=rfl
end
section
variable(d:Option Tmp)(t u:TypeId)(pos:String)(af:Array Edge)(g:Option (Nat×Bool))
def pe(own:List Nat):Option Tmp->Bool
 |some d=>!own.contains d
 |none=>true
theorem asm(k:Nat):pe own (some k) = !own.contains k:=rfl
theorem asn(o:Oper):abf own o=pe own o.dst:=rfl
theorem akU(e:TypeId)(k:Nat)(x:Operand):ahm own ⟨d,.store e (.tmp k) x,t,pos,af,g⟩ env = ∃off,env k = .ptr k off:=rfl
theorem aAp(own:List Nat)(ops:Array Oper)(H:ay)(i:Nat):o9 own ops H i=if lC own ops i=true then none else H i:=rfl
def bxC:Option Chunk->Option Chunk
 |some (.box cs)=>some (.box cs)
 |_=>none
theorem aAq(H:ay)(i:Nat):sL H i=bxC (H i):=by
 unfold sL bxC;cases H i with
 |none=>rfl
 |some c=>cases c<;>rfl
theorem aAr(cs:List AV):bxC (some (.box cs))=some (.box cs):=rfl
theorem akV(x:Operand):mU ⟨d,.move x,t,pos,af,g⟩=true:=rfl
theorem agE(x:Operand):mU ⟨d,.assign x,t,pos,af,g⟩=true:=rfl
theorem akW(x y z:Operand):mU ⟨d,.pick x y z,t,pos,af,g⟩=true:=rfl
theorem akX(x:Operand):mU ⟨d,.load u x,t,pos,af,g⟩=true:=rfl
theorem ac1(x:Operand)(k:Nat):mU ⟨d,.fieldAddr u x k,t,pos,af,g⟩=true:=rfl
theorem ac2(x y:Operand):mU ⟨d,.indexAddr u x y,t,pos,af,g⟩=true:=rfl
theorem ae9(x:Operand)(k:Nat):mU ⟨d,.extract x k,t,pos,af,g⟩=true:=rfl
theorem aiW(op:BinOp)(x y:Operand)(v:TypeId):mU ⟨d,.binOp op u x y v,t,pos,af,g⟩=true:=rfl
theorem akY(op:UnOp)(x:Operand):mU ⟨d,.unOp op u x,t,pos,af,g⟩=true:=rfl
theorem aiX(x:Array (Nat×Operand)):mU ⟨d,.build u x,t,pos,af,g⟩=true:=rfl
theorem abY(n:Nat)(x:Array (Nat×Operand)):mU ⟨d,.buildSlice u n x,t,pos,af,g⟩=true:=rfl
theorem aiY(x:Operand)(l h m:Option Operand):mU ⟨d,.slice u x l h m,t,pos,af,g⟩=true:=rfl
theorem aea(x:Operand):mU ⟨d,.nilCheck x,t,pos,af,g⟩=true:=rfl
theorem akZ(c:Call):mU ⟨d,.call c,t,pos,af,g⟩=true:=rfl
theorem quiet_move(x:Operand):bO own ⟨d,.move x,t,pos,af,g⟩=pe own d:=by cases d<;>simp only[bO,pe,Bool.and_true]
theorem quiet_assign(x:Operand):bO own ⟨d,.assign x,t,pos,af,g⟩=pe own d:=by cases d<;>simp only[bO,pe,Bool.and_true]
theorem anZ(x y z:Operand):bO own ⟨d,.pick x y z,t,pos,af,g⟩=pe own d:=by cases d<;>simp only[bO,pe,Bool.and_true]
theorem an0(x:Operand):bO own ⟨d,.load u x,t,pos,af,g⟩=pe own d:=by cases d<;>simp only[bO,pe,Bool.and_true]
theorem aeb(x:Operand)(k:Nat):bO own ⟨d,.fieldAddr u x k,t,pos,af,g⟩=pe own d:=by cases d<;>simp only[bO,pe,Bool.and_true]
theorem aec(x y:Operand):bO own ⟨d,.indexAddr u x y,t,pos,af,g⟩=pe own d:=by cases d<;>simp only[bO,pe,Bool.and_true]
theorem agF(x:Operand)(k:Nat):bO own ⟨d,.extract x k,t,pos,af,g⟩=pe own d:=by cases d<;>simp only[bO,pe,Bool.and_true]
theorem ak0(op:BinOp)(x y:Operand)(v:TypeId):bO own ⟨d,.binOp op u x y v,t,pos,af,g⟩=pe own d:=by cases d<;>simp only[bO,pe,Bool.and_true]
theorem an1(op:UnOp)(x:Operand):bO own ⟨d,.unOp op u x,t,pos,af,g⟩=pe own d:=by cases d<;>simp only[bO,pe,Bool.and_true]
theorem agG(x:Operand)(v:TypeId):bO own ⟨d,.convert u v x,t,pos,af,g⟩=pe own d:=by cases d<;>simp only[bO,pe,Bool.and_true]
theorem ak1(x:Array (Nat×Operand)):bO own ⟨d,.build u x,t,pos,af,g⟩=pe own d:=by cases d<;>simp only[bO,pe,Bool.and_true]
theorem ak2(x:Operand)(l h m:Option Operand):bO own ⟨d,.slice u x l h m,t,pos,af,g⟩=pe own d:=by cases d<;>simp only[bO,pe,Bool.and_true]
theorem afa(x:Operand):bO own ⟨d,.nilCheck x,t,pos,af,g⟩=pe own d:=by cases d<;>simp only[bO,pe,Bool.and_true]
theorem ak3(f:Operand)(xs:Array Operand)(ts:Array TypeId):bO own ⟨d,.call ⟨.value f,xs,ts⟩,t,pos,af,g⟩=pe own d:=by cases d<;>simp only[bO,pe,Bool.and_true]
theorem aso(xs:Array Operand)(ts:Array TypeId):bO own ⟨d,.call ⟨.builtin .len,xs,ts⟩,t,pos,af,g⟩=pe own d:=by cases d<;>simp only[bO,pe,Bool.and_true]
end
def jT(o:Oper)(ρ:Operand->AV)(H:ay):Option (FuncId×List PV×Bool):=match dH o ρ with
 |some (k,eL)=>(match ek (gA H) eL with
  |some (ps,b)=>some (k,ps,b)
  |none=>none)
 |none=>none
def afb(k:FuncId)(r:Option (List PV×Bool)):Option (FuncId×List PV×Bool):=match r with
 |some (ps,b)=>some (k,ps,b)
 |none=>none
def aiZ(f:AV)(eL:List AV)(H:ay):Option (FuncId×List PV×Bool):=match f with
 | .p (.iw (.func k) fs cs)=>afb k (ek (gA H) (fs.map AV.p++eL++cs.map AV.p))
 | .iw (.func k) fs cs=>afb k (ek (gA H) (fs++eL++cs))
 |_=>none
theorem ai0(d:Option Tmp)(t:TypeId)(pos:String)(af:Array Edge)(g:Option (Nat×Bool))(f:Operand)(xs:Array Operand)(ts:Array TypeId)(ρ:Operand->AV) :
  jT ⟨d,.call ⟨.value f,xs,ts⟩,t,pos,af,g⟩ ρ H=aiZ (ρ f) (xs.toList.map ρ) H:=by
 unfold jT dH aiZ;simp only[];cases ρ f with
 |p x=>cases x with
  |iw fn fs cs=>cases fn<;>rfl
  |_=>rfl
 |iw fn fs cs=>cases fn<;>rfl
 |_=>rfl
theorem awA(k:FuncId)(fs cs:List PV)(eL:List AV):aiZ (.p (.iw (.func k) fs cs)) eL H=afb k (ek (gA H) (fs.map AV.p++eL++cs.map AV.p)):=rfl
theorem an2(k:FuncId)(fs cs eL:List AV):aiZ (.iw (.func k) fs cs) eL H=afb k (ek (gA H) (fs++eL++cs)):=rfl
theorem ak4(k:FuncId)(ps:List PV)(b:Bool):afb k (some (ps,b))=some (k,ps,b):=rfl
theorem abZ{o:Oper}{ρ:Operand->AV}{k:FuncId}{ps:List PV}{b:Bool}{x:PV}(c:aS P k ps λr=>r=x)(he:jT o ρ H=some (k,ps,b))(hb:b=true->x.scalar=true):yN P o ρ H x:=by
 unfold jT at he;cases ha:dH o ρ with
 |none=>rw[ha] at he;cases he
 |some r =>
  obtain⟨k',eL⟩:=r;rw[ha] at he;simp only[] at he;cases hl:ek (gA H) eL with
  |none=>rw[hl] at he;cases he
  |some q=>obtain⟨ps',b'⟩:=q;rw[hl] at he;simp only[cA,iz] at he;obtain⟨rfl,rfl,rfl⟩:=he;exact⟨_,eL,_,_,ha,hl,c,hb⟩
theorem aY{o:Oper}{W:Env->ay->Prop}{k:FuncId}{ps:List PV}{b:Bool}{x:PV}(c:aS P k ps λr=>r=x)(he:jT o (ev env) H=some (k,ps,b))(hb:b=true->x.scalar=true)
  (hW:W (cH env o.dst (.p x)) H):jh P o W env H:=.inl (.inl ⟨[],w8 (abZ c he hb) hW⟩)
theorem jE{o:Oper}{W:Env->ay->Prop}{k:FuncId}{ps:List PV}{b:Bool}{x:PV}(c:aS P k ps λr=>r=x)(he:jT o (ev env) H=some (k,ps,b))(hb:b=true->x.scalar=true)
  (hW:W (cH env o.dst (.p x)) H):ahl P o W env H:=⟨x,abZ c he hb,hW⟩
theorem asp{o:Oper}{W:Env->ay->Prop}{k:FuncId}{ps:List PV}{b:Bool}{x:PV}(ids:List Nat)(c:aS P k ps λr=>r=x)(he:jT o (ev env) (dc ids H)=some (k,ps,b))(hb:b=true->x.scalar=true)
  (hW:W (cH env o.dst (.p x)) (dc ids H)):jh P o W env H:=.inl (.inl ⟨ids,w8 (abZ c he hb) hW⟩)
theorem sj{o:Oper}{W:Env->ay->Prop}{k:FuncId}{ps:List PV}{b:Bool}{Q:PV->Prop}(c:aS P k ps Q)(he:jT o (ev env) H=some (k,ps,b))
  (hW:∀r,Q r->(b=true->r.scalar=true)/\W (cH env o.dst (.p r)) H):jh P o W env H:=by
 unfold jT at he;cases ha:dH o (ev env) with
 |none=>rw[ha] at he;cases he
 |some r =>
  obtain⟨k',eL⟩:=r;rw[ha] at he;simp only[] at he;cases hl:ek (gA H) eL with
  |none=>rw[hl] at he;cases he
  |some q=>obtain⟨ps',b'⟩:=q;rw[hl] at he;simp only[cA,iz] at he;obtain⟨rfl,rfl,rfl⟩:=he;exact .inl (.inl ⟨[],_,eL,_,_,Q,ha,hl,c,hW⟩)
theorem awB{o:Oper}{W:Env->ay->Prop}{k:FuncId}{ps:List PV}{x:PV}(c:aCi P k ps x)(he:dH o (ev env)=some (k,ps.map AV.p))(hW:W (cH env o.dst (.p x)) H):jh P o W env H:=.inl (.inr (.inl ⟨k,ps,x,he,c,hW⟩))
theorem b6{b:Bool}{x:PV}(h:x.scalar=true):b=true->x.scalar=true:=λ_=>h
theorem yq{x:PV} : false=true->x.scalar=true:=λh=>by cases h
def nwH(o:Oper)(k:Nat):Bool:=o.dst == some k&&match o.op with
 | .alloc _=>true
 | .box ..=>true
 | .buildSlice ..=>true
 | .makeSlice ..=>true
 |_=>false
theorem asq(k:Nat):lC own (List.toArray []) k=own.contains (2000000+k):=rfl
theorem an3(o:Oper)(l:List Oper)(k:Nat):lC own (List.toArray (o :: l)) k=(nwH o k||lC own (List.toArray l) k):=by unfold lC;simp only[List.any_cons,Bool.or_assoc];try rfl
section
variable(d:Option Tmp)(t u:TypeId)(pos:String)(af:Array Edge)(g:Option (Nat×Bool))
theorem asr(j k:Nat):nwH ⟨some j,.alloc u,t,pos,af,g⟩ k=(j == k):=by unfold nwH;simp only[Bool.and_true];rw[Bool.eq_iff_iff];simp
theorem awC(x:Operand)(k0:Nat):nwH ⟨d,.move x,t,pos,af,g⟩ k0=false:=by unfold nwH;simp only[Bool.and_false]
theorem an4(x:Operand)(k0:Nat):nwH ⟨d,.assign x,t,pos,af,g⟩ k0=false:=by unfold nwH;simp only[Bool.and_false]
theorem awD(x y z:Operand)(k0:Nat):nwH ⟨d,.pick x y z,t,pos,af,g⟩ k0=false:=by unfold nwH;simp only[Bool.and_false]
theorem awE(x:Operand)(k0:Nat):nwH ⟨d,.load u x,t,pos,af,g⟩ k0=false:=by unfold nwH;simp only[Bool.and_false]
theorem agH(x:Operand)(k:Nat)(k0:Nat):nwH ⟨d,.fieldAddr u x k,t,pos,af,g⟩ k0=false:=by unfold nwH;simp only[Bool.and_false]
theorem agI(x y:Operand)(k0:Nat):nwH ⟨d,.indexAddr u x y,t,pos,af,g⟩ k0=false:=by unfold nwH;simp only[Bool.and_false]
theorem ak5(x:Operand)(k:Nat)(k0:Nat):nwH ⟨d,.extract x k,t,pos,af,g⟩ k0=false:=by unfold nwH;simp only[Bool.and_false]
theorem ass(op:BinOp)(x y:Operand)(v:TypeId)(k0:Nat):nwH ⟨d,.binOp op u x y v,t,pos,af,g⟩ k0=false:=by unfold nwH;simp only[Bool.and_false]
theorem ast(x:Array (Nat×Operand))(k0:Nat):nwH ⟨d,.build u x,t,pos,af,g⟩ k0=false:=by unfold nwH;simp only[Bool.and_false]
theorem afc(n:Nat)(x:Array (Nat×Operand))(j k:Nat):nwH ⟨some j,.buildSlice u n x,t,pos,af,g⟩ k=(j == k):=by unfold nwH;simp only[Bool.and_true];rw[Bool.eq_iff_iff];simp
theorem awF(c:Call)(k0:Nat):nwH ⟨d,.call c,t,pos,af,g⟩ k0=false:=by unfold nwH;simp only[Bool.and_false]
theorem asu(x y:Operand)(k0:Nat):nwH ⟨d,.store u x y,t,pos,af,g⟩ k0=false:=by unfold nwH;simp only[Bool.and_false]
end
attribute [go_sem] asq an3 asr awC an4 awD awE agH agI ak5 ass ast afc awF asu Bool.false_or Bool.or_false Bool.true_or Bool.or_true aww awx awy akP akU anQ akF AV.ptr.injEq aAp ai0 awA an2 ak4 asl anY akM aiV aws awt awu awv aAq aAr akQ akR akS akT asn asm List.contains_cons List.contains_nil akV agE akW akX ac1 ac2 ae9 aiW akY aiX abY aiY aea akZ quiet_move quiet_assign anZ an0 aeb aec agF ak0 an1 agG ak1 ak2 afa ak3 aso List.zip_cons_cons List.zip_nil_left
end Go.cr
namespace Go.cr
open Go.RowKit
variable{P:Program}{t:TypeId}
theorem awG(d:Int):bnd d none=some d:=rfl
theorem aAs(d:Int)(k:IntKind)(n:Int):bnd d (some (.p (.val (.int k n))))=some n:=rfl
def slS(a b:Option Int)(s:ByteArray):Option (Prop×AV):=match a,b with
 |some l,some h=>some (0<=l/\l<=h/\h<=s.size,.p (.val (.string (s.extract l.toNat h.toNat))))
 |_,_=>none
theorem an5{s:ByteArray}{lo hi:Option AV}(h:yD P t=true):sH P t (.p (.val (.string s))) lo hi none=slS (bnd 0 lo) (bnd s.size hi) s:=by unfold sH slS;simp only[h];all_goals(cases bnd 0 lo<;>cases bnd s.size hi<;>rfl)
theorem awH(l h:Int)(s:ByteArray):slS (some l) (some h) s=some (0<=l/\l<=h/\h<=s.size,.p (.val (.string (s.extract l.toNat h.toNat)))):=rfl
def slL(e:Option TypeId)(f:TypeId->Option Nat)(a b:Option Int)(es:List (List PV)):Option (Prop×AV):=match e,a,b with
 |some e,some l,some h=>(match f e with
  |some sz=>some ((0<=l/\l<=h/\h<=es.length)/\∀x∈es,x.length=sz,.p (.aV ((es.take h.toNat).drop l.toNat)))
  |none=>none)
 |_,_,_=>none
theorem an6{es:List (List PV)}{lo hi:Option AV} : sH P t (.p (.aV es)) lo hi none=slL (cM P t) (bu P) (bnd 0 lo) (bnd es.length hi) es:=by unfold sH slL;simp only[];all_goals(cases cM P t<;>cases bnd 0 lo<;>cases bnd es.length hi<;>rfl)
theorem awI(e:TypeId)(f:TypeId->Option Nat)(l h:Int)(es:List (List PV)):slL (some e) f (some l) (some h) es=(match f e with
  |some sz=>some ((0<=l/\l<=h/\h<=es.length)/\∀x∈es,x.length=sz,.p (.aV ((es.take h.toNat).drop l.toNat)))
  |none=>none):=rfl
theorem awJ(i:Nat):cm i=none:=rfl
attribute [go_sem] awJ awG aAs an5 awH an6 awI Option.map_none Option.map_some
theorem dw{N:Nat}{own:List Nat}{K:Env->ay->Prop}{env:Env}{H:ay}{l:List Oper}(cs:List oZ)(hok:abX N own l.toArray (masks l.toArray) cs=true)(hw:fZ P N own l.toArray (l.zip cs) K env H):vh P N own l.toArray K env H:=asi (masks l.toArray) cs hok hw
theorem VR.aAt{I:Mem}{v:Value}(h:VR I v (.val (.slice none 0 0))):VR I v (.aV []):=by cases h;exact .aV none 0 0 [] [] 1 rfl (by simp) rfl (by simp) (by simp) (.inl rfl) (λ_=>⟨rfl,rfl⟩) (Nat.le_refl _)
theorem VR.aAu{I:Mem}{v:Value}(h:VR I v .emp):VR I v (.aV []):=by cases h;rename_i a;exact .aV a 0 0 [] [] 1 rfl (by simp) rfl (by simp) (by simp) (.inl rfl) (λ_=>⟨rfl,rfl⟩) (Nat.le_refl _)
def PLe(p' p:PV):Prop:=∀I v,VR I v p'->VR I v p
theorem PLe.refl(p:PV):PLe p p:=λ_ _ h=>h
theorem PLe.nil:PLe (.val (.slice none 0 0)) (.aV []):=λ_ _ h=>h.aAt
theorem PLe.emp:PLe .emp (.aV []):=λ_ _ h=>h.aAu
def sk:List PV->List PV->Prop
 | [],[]=>True
 |a :: r,b :: s=>PLe a b/\sk r s
 |_,_=>False
theorem sk.vrs{I:Mem} : ∀ {ps' ps:List PV},sk ps' ps->∀ {vs:List Value},VRs I vs ps'->VRs I vs ps
 | [],[],_,vs,h=>h
 | [],_ :: _,h,_,_=>h.elim
 |_ :: _,[],h,_,_=>h.elim
 |a :: r,b :: s,h,[],hv=>by have:=hv.1;simp at this
 |a :: r,b :: s,h,v :: vs,hv=>by
  have ih:=sk.vrs (I:=I) h.2 (vs:=vs) ⟨by simpa using hv.1,λj u c hu hc=>hv.2 (j+1) u c hu hc⟩;refine⟨by simpa using ih.1,λj u c hu hc=>?_⟩;cases j with
  |zero=>simp at hu hc;subst hu hc;exact h.1 _ _ (hv.2 0 v a rfl rfl)
  |succ j=>exact ih.2 j u c (by simpa using hu) (by simpa using hc)
theorem aS.args{f:FuncId}{ps ps':List PV}{Q:PV->Prop}(h:aS P f ps Q)(hp:sk ps' ps):aS P f ps' Q:=⟨h.1,λI w vs hI hv=>h.2 I w vs hI (hp.vrs hv)⟩
end Go.cr
namespace Go.cr
open Go.RowKit
variable{P:Program}{own:List Nat}{env:Env}{H:ay}
def xU(l:List Oper):List (Nat×oZ)->List (Oper×oZ)
 | []=>[]
 |(i,c) :: r=>(match l[i]? with
  |some o=>(o,c) :: xU l r
  |none=>xU l r)
theorem asv(l:List Oper):xU l []=[]:=rfl
theorem abg(l:List Oper)(i:Nat)(c:oZ)(r:List (Nat×oZ)):xU l ((i,c) :: r)=(match l[i]? with
  |some o=>(o,c) :: xU l r
  |none=>xU l r):=rfl
theorem ac3(l:List Oper):∀pc:List (Nat×oZ),(xU l pc).map (·.1)=pc.filterMap (λx=>l.toArray[x.1]?)
 | []=>rfl
 |(i,c) :: r=>by
  rw[abg,List.filterMap_cons];cases h:l[i]? with
  |none=>simp[h,ac3 l r]
  |some o=>simp[h,ac3 l r]
theorem ahn(l:List Oper):∀pc:List (Nat×oZ),(pc.all λx=>decide (x.1<l.length))=true->(xU l pc).map (·.2)=pc.map (·.2)
 | [],_=>rfl
 |(i,c) :: r,h=>by simp only[List.all_cons,Bool.and_eq_true,decide_eq_true_eq] at h;rw[abg,List.getElem?_eq_getElem h.1];simp[ahn l r h.2]
def an7(N:Nat)(own:List Nat)(l:List Oper)(pc:List (Nat×oZ)):Bool:=ae4 own l.toArray (masks l.toArray) pc&&ae8 N l.toArray&&ae7 own l.toArray (xU l pc)&&pc.all λx=>decide (x.1<l.length)
theorem ai1{N:Nat}{K:Env->ay->Prop}{l:List Oper}(pc:List (Nat×oZ))(hok:an7 N own l pc=true)(hw:fZ P N own l.toArray (xU l pc) K env H):vh P N own l.toArray K env H:=by unfold an7 at hok;rw[Bool.and_eq_true,Bool.and_eq_true] at hok;exact asj (masks l.toArray) pc hok.1.1 (xU l pc) hok.1.2 (ac3 l pc) (ahn l pc hok.2) hw
def nG(c:Option Chunk)(r:Option (Prop×AV×ay)):Option (Prop×AV×ay):=match c with
 |some _=>none
 |none=>r
theorem awK(r:Prop×AV×ay)(b:Bool)(y:Option (Prop×AV×ay)):orE (some r) b y=some r:=rfl
theorem aDz(y:Option (Prop×AV×ay)):orE none true y=y:=rfl
theorem asw(t:TypeId)(n:Nat)(ps:Array (Nat×Operand)):isApp (.buildSlice t n ps)=false:=rfl
theorem asx(xs:Array Operand)(ts:Array TypeId):isApp (.call ⟨.builtin .append,xs,ts⟩)=true:=rfl
theorem an8(f:Operand)(xs:Array Operand)(ts:Array TypeId):isApp (.call ⟨.value f,xs,ts⟩)=false:=rfl
theorem aAv(r:Option (Prop×AV×ay)):nG none r=r:=rfl
def aAw(P:Program)(r:Option (TypeId×List (List PV)))(d:Nat)(H:ay)(n:Nat)(c:Option (TypeId×List AV)):Option (Prop×AV×ay):=match r with
 |some (e,es)=>(match bu P e with
  |some sz=>some (True,.row d 0,bk H d (.row 0 e sz es))
  |none=>none)
 |none=>(match c with
  |some (_,cs)=>some (True,.bsl d n,bk H d (.box cs))
  |none=>none)
theorem asy(d n:Nat)(e:TypeId)(cs:List AV):aAw P none d H n (some (e,cs))=some (True,.bsl d n,bk H d (.box cs)):=rfl
theorem asz(e:TypeId)(es:List (List PV))(d n:Nat)(c:Option (TypeId×List AV)):aAw P (some (e,es)) d H n c=(match bu P e with
  |some sz=>some (True,.row d 0,bk H d (.row 0 e sz es))
  |none=>none):=rfl
def aIF(P:Program)(e:Option TypeId)(a b:AV)(d:Nat)(H:ay):Option (Prop×AV×ay):=match a,b,e with
 | .p (.val (.int _ n)), .p (.val (.int _ m)), some e => (match bu P e, cN P e, abG P e with
    | some sz, some zs, some qT => if zs.length = sz ∧ 0 < sz ∧ 0 < qT ∧ zs.all (·.oneCell') = true then
      some ((0<=n/\m=n)/\n * qT<=140737488355328,.row d 0,bk H d (.row 0 e sz (List.replicate n.toNat (zs.map PV.val)))) else none
    |_,_,_=>none)
 |_,_,_=>none
def aAx(a:AV)(ty:Option (TypeId×Nat×Nat))(b:Option (List (List PV)))(d:Nat)(H:ay):Option (Prop×AV×ay):=match a,ty,b with
 | .p (.val (.slice none 0 0)),some (e,sz,qT),some es=>some (es.length * qT<=140737488355328/\∀x∈es,x.length=sz,.row d 0,bk H d (.row 0 e sz es))
 |_,_,_=>none
theorem awL(i v:Nat)(ty:Option (TypeId×Nat×Nat))(b:Option (List (List PV)))(d:Nat):aAx (.row i v) ty b d H=none:=rfl
theorem asA(e:TypeId)(sz qT:Nat)(es:List (List PV))(d:Nat):aAx (.p (.val (.slice none 0 0))) (some (e,sz,qT)) (some es) d H=some (es.length * qT<=140737488355328/\∀x∈es,x.length=sz,.row d 0,bk H d (.row 0 e sz es)):=rfl
section
variable(dd:Option Tmp)(ty:TypeId)(pos:String)(af:Array Edge)(g:Option (Nat×Bool))(ρ:Operand->AV)
theorem aAy(t:TypeId)(n:Nat)(ps:Array (Nat×Operand))(d:Nat):exN P ⟨dd,.buildSlice t n ps,ty,pos,af,g⟩ ρ H d=nG (H d) (aAw P (lJ P t n (ps.toList.map λx=>(x.1,ρ x.2))) d H n (vf P t n (ps.toList.map λx=>(x.1,ρ x.2)))):=by
 unfold exN nG aAw;cases H d with
 |some c=>rfl
 |none=>rfl
theorem aAz(t1 t2:TypeId)(a b:Operand)(d:Nat):exN P ⟨dd,.call ⟨.builtin .append,#[a,b],#[t1,t2]⟩,ty,pos,af,g⟩ ρ H d=nG (H d) (aAx (ρ a) (dr P t1 t2) (vg H (ρ b)) d H):=by
 unfold exN nG aAx;cases H d with
 |some c=>rfl
 |none=>rfl
end
def aBP(H:ay)(Q:RV->Prop)(a:Option AV):Prop:=match a with
 | some a => (match pN H a with
   |some (r,ids)=>ids.Nodup/\∃r',RLe r r'/\Q r'
   |none=>False)
 |none=>False
theorem awM(rs:List ResultVar)(Q:RV->Prop):aCm P rs Q .ret env H=aBP H Q (o6 P env H rs):=rfl
def aBQ(Q : RV → Prop)(x : Option (RV × List Nat)) : Prop := match x with
   |some (r,ids)=>ids.Nodup/\∃r',RLe r r'/\Q r'
   |none=>False
theorem an9(a:AV)(Q:RV->Prop):aBP H Q (some a)=aBQ Q (pN H a):=rfl
theorem aoa(Q:RV->Prop)(r:RV)(ids:List Nat):aBQ Q (some (r,ids))=(ids.Nodup/\∃r',RLe r r'/\Q r'):=rfl
theorem aCy(x:PV):pN H (.p x)=some (.p x,[]):=by simp only[pN]
def rvR(c : Option Chunk)(id bf : Nat) : Option (RV × List Nat) := match c with
  |some (.row v e sz es)=>if v=bf then some (.row e sz es,[id]) else none
  |some (.shut v es)=>if v=bf then some (.p (.aV es),[]) else none
  |_=>none
theorem awN(id bf:Nat):pN H (.row id bf)=rvR (H id) id bf:=by unfold rvR;simp only[pN];try rfl
theorem aAA(v:Nat)(e:TypeId)(sz:Nat)(es:List (List PV))(id bf:Nat):rvR (some (.row v e sz es)) id bf=if v=bf then some (.row e sz es,[id]) else none:=rfl
theorem awO(cs:List AV):pN H (.agg cs)=(match wz H cs with
  |some (rs,ids)=>some (.agg rs,ids)
  |none=>none):=by simp only[pN];try rfl
theorem awP(cs:List AV):pN H (.dQ cs)=(match wz H cs with
  |some (rs,ids)=>some (.dQ rs,ids)
  |none=>none):=by simp only[pN];try rfl
theorem asB:wz H []=some ([],[]):=by simp only[wz]
theorem aob(a:AV)(r:List AV):wz H (a :: r)=(match pN H a,wz H r with
  |some (x,i),some (xs,j)=>some (x :: xs,i++j)
  |_,_=>none):=by simp only[wz];try rfl
theorem awQ(k:Nat)(x:PV):cO k (.p x)=(.p x,k):=by simp only[cO]
theorem aoc(k:Nat)(e:TypeId)(sz:Nat)(es:List (List PV)):cO k (.row e sz es)=(.row k 0,k+1):=by simp only[cO]
theorem aod(k:Nat)(rs:List RV):cO k (.agg rs)=(xS (jv k rs).1,(jv k rs).2):=by simp only[cO]
theorem aoe(k:Nat)(rs:List RV):cO k (.dQ rs)=(.dQ (jv k rs).1,(jv k rs).2):=by simp only[cO]
theorem aof(k:Nat):jv k []=([],k):=by simp only[jv]
theorem ak6(k:Nat)(r:RV)(rs:List RV):jv k (r :: rs)=((cO k r).1 :: (jv (cO k r).2 rs).1,(jv (cO k r).2 rs).2):=by simp only[jv]
theorem awR(k:Nat)(x:PV):gj k H (.p x)=H:=by simp only[gj]
theorem aog(k:Nat)(e:TypeId)(sz:Nat)(es:List (List PV)):gj k H (.row e sz es)=bk H k (.row 0 e sz es):=by simp only[gj]
theorem aoh(k:Nat)(rs:List RV):gj k H (.agg rs)=kQ k H rs:=by simp only[gj]
theorem aoi(k:Nat)(rs:List RV):gj k H (.dQ rs)=kQ k H rs:=by simp only[gj]
theorem ak7(k:Nat):kQ k H []=H:=by simp only[kQ]
theorem ai2(k:Nat)(r:RV)(rs:List RV):kQ k H (r :: rs)=kQ (cO k r).2 (gj k H r) rs:=by simp only[kQ]
def lT(H:ay)(id:Nat):Nat->Prop
 |0=>True
 |n+1=>H id=none/\lT H (id+1) n
theorem asC(id:Nat):lT H id 1=(H id=none/\True):=rfl
theorem asD(id:Nat):lT H id 2=(H id=none/\H (id+1)=none/\True):=rfl
theorem ak8(id:Nat):lT H id 3=(H id=none/\H (id+1)=none/\H (id+1+1)=none/\True):=rfl
theorem aoj(id:Nat):lT H id 4=(H id=none/\H (id+1)=none/\H (id+1+1)=none/\H (id+1+1+1)=none/\True):=rfl
theorem abh:∀ (n id:Nat),lT H id n->∀i,id<=i->i<id+n->H i=none
 |0,id,_,i,h1,h2=>by omega
 |n+1,id,h,i,h1,h2=>by
  by_cases e:i=id
  ·rw[e];exact h.1
  ·exact abh n (id+1) h.2 i (by omega) (by omega)
section
variable{o:Oper}{W:Env->ay->Prop}{k:FuncId}{ps:List PV}{b:Bool}
theorem ai3(he:jT o (ev env) H=some (k,ps,b)):∃eL,dH o (ev env)=some (k,eL)/\ek (gA H) eL=some (ps,b):=by
 unfold jT at he;cases ha:dH o (ev env) with
 |none=>rw[ha] at he;cases he
 |some r =>
  obtain⟨k',eL⟩:=r;rw[ha] at he;simp only[] at he;cases hl:ek (gA H) eL with
  |none=>rw[hl] at he;cases he
  |some q=>obtain⟨ps',b'⟩:=q;rw[hl] at he;simp only[cA,iz] at he;obtain⟨rfl,rfl,rfl⟩:=he;exact⟨eL,rfl,hl⟩
theorem aho(ids:List Nat)(id:Nat){Q:RV->Prop}(c:br P k ps Q)(he:jT o (ev env) (dc ids H)=some (k,ps,b))
  (hW:∀r,Q r->(b=true->r.flat=true)/\lT (dc ids H) id ((cO id r).2-id)/\W (cH env o.dst (cO id r).1) (gj id (dc ids H) r)):jh P o W env H:=by
 obtain⟨eL,h1,h2⟩:=ai3 he;refine .inl (.inr (.inr ⟨ids,.inl ⟨k,eL,ps,b,Q,id,h1,h2,c,λr hr=>?_⟩⟩));obtain⟨q1,q2,q3⟩:=hW r hr;exact⟨q1,λi hi1 hi2=>abh _ id q2 i hi1 (by omega),q3⟩
theorem wB(id:Nat){r:RV}(c:br P k ps λx=>x=r)(he:jT o (ev env) H=some (k,ps,b))(hb:b=true->r.flat=true)
  (hf:lT H id ((cO id r).2-id)) (hW:W (cH env o.dst (cO id r).1) (gj id H r)):jh P o W env H :=
 aho [] id c he λx hx=>by subst hx;exact⟨hb,hf,hW⟩
theorem aok(ids:List Nat)(id:Nat){r:RV}(c:br P k ps λx=>x=r)(he:jT o (ev env) (dc ids H)=some (k,ps,b))(hb:b=true->r.flat=true)
  (hf:lT (dc ids H) id ((cO id r).2-id)) (hW:W (cH env o.dst (cO id r).1) (gj id (dc ids H) r)):jh P o W env H :=
 aho ids id c he λx hx=>by subst hx;exact⟨hb,hf,hW⟩
theorem ahp(ids:List Nat){id v:Nat}{e:TypeId}{sz:Nat}{es:List (List PV)}{eL:List AV}{Q:AV->Option Chunk->Prop}(c:kE P k v e sz es ps Q)(ha:dH o (ev env)=some (k,.row id v :: eL))(hH:dc ids H id=some (.row v e sz es))
  (he:ek (gA (agw (dc ids H) id)) eL=some (ps,b))
  (hW:∀a c,Q a c->∃v' e' sz' es' a',c=some (.row v' e' sz' es')/\ap9 id a=some a'/\(b=true->(es'.all λx=>x.all isVal)=true/\(match a' with | .p x=>x.scalar|_=>true)=true)/\W (cH env o.dst a') (bk (dc ids H) id (.row v' e' sz' es'))):jh P o W env H :=
 .inl (.inr (.inr ⟨ids,.inr ⟨k,id,v,e,sz,es,eL,ps,b,Q,ha,hH,he,c,hW⟩⟩))
theorem ab0{id v:Nat}{e:TypeId}{sz:Nat}{es es':List (List PV)}{eL:List AV}(c:kE P k v e sz es ps λa c=>a = .dQ []/\c=some (.row v e sz es'))(ha:dH o (ev env)=some (k,.row id v :: eL))(hH:H id=some (.row v e sz es))
  (he:ek (gA (agw H id)) eL=some (ps,b)) (hb:b=true->(es'.all λx=>x.all isVal)=true) (hW:W (cH env o.dst (.dQ [])) (bk H id (.row v e sz es'))):jh P o W env H :=
 ahp [] c ha hH he λa c ⟨h1,h2⟩=>by subst h1 h2;exact⟨v,e,sz,es',.dQ [],rfl,rfl,λh=>⟨hb h,rfl⟩,hW⟩
theorem yX{r:RV} : false=true->r.flat=true:=λh=>by cases h
theorem ahq{b:Bool}{r:RV}(h:r.flat=true):b=true->r.flat=true:=λ_=>h
end
def aol(f:AV)(eL:List AV):Option (FuncId×List AV):=match f with
 | .p (.iw (.func k) fs cs)=>some (k,fs.map AV.p++eL++cs.map AV.p)
 | .iw (.func k) fs cs=>some (k,fs++eL++cs)
 |_=>none
theorem br.toL{f:FuncId}{args:List PV}{e:TypeId}{sz:Nat}{es:List (List PV)}(h:br P f args λr=>r = .row e sz es):aS P f args λx=>x = .aV es:=h.azN.mono λx hx=>by rw[hx];simp only[RV.pv]
def awS:Option AV->AV
 |some a=>a
 |none=>.dead
theorem awT(eL:List AV)(t:Nat):adI eL t=awS eL[t]?:=by unfold adI awS;cases eL[t]?<;>rfl
theorem aom(a:AV):awS (some a)=a:=rfl
def awU(H:ay)(Q:AV->Option Chunk->Prop)(a:Option AV):Prop:=match a with
 |some a=>Q a (H 1000000)
 |none=>False
theorem ak9(rs:List ResultVar)(Q:AV->Option Chunk->Prop):aCn P rs Q .normal env H=awU H Q (o6 P env H rs):=rfl
theorem awV(rs:List ResultVar)(Q:AV->Option Chunk->Prop):aCn P rs Q .ret env H=awU H Q (o6 P env H rs):=rfl
theorem aon(a:AV)(Q:AV->Option Chunk->Prop):awU H Q (some a)=Q a (H 1000000):=rfl
theorem asE:o6 P env H []=some (.dQ []):=rfl
theorem afd(d:Option Tmp)(t:TypeId)(pos:String)(af:Array Edge)(g:Option (Nat×Bool))(f:Operand)(xs:Array Operand)(ts:Array TypeId)(ρ:Operand->AV) :
  dH ⟨d,.call ⟨.value f,xs,ts⟩,t,pos,af,g⟩ ρ=aol (ρ f) (xs.toList.map ρ):=by
 unfold dH aol;simp only[];generalize ρ f=v;cases v with
 |p x=>cases x with
  |iw fn fs cs=>cases fn<;>rfl
  |_=>rfl
 |iw fn fs cs=>cases fn<;>rfl
 |_=>rfl
theorem awW(k:FuncId)(fs cs:List PV)(eL:List AV):aol (.p (.iw (.func k) fs cs)) eL=some (k,fs.map AV.p++eL++cs.map AV.p):=rfl
theorem VR.tB{I:Mem}{v:Value}(h:VR I v (.aV [])):∃ao cap,v = .slice ao 0 cap/\VR I v (.val (.slice ao 0 cap)):=by
 cases h with
 |aV ao n cap _ us sz hn=>simp only[List.length_nil] at hn;subst hn;exact⟨ao,cap,rfl,.val _ rfl⟩
theorem br.tB{f:FuncId}{rest:List PV}{Q:RV->Prop}(hc:hU P f=true)(h:∀ao cap,br P f (.val (.slice ao 0 cap) :: rest) Q):br P f (.aV [] :: rest) Q:=by
 refine⟨hc,λI w vs hI hv=>?_⟩;cases vs with
 |nil=>have:=hv.1;simp at this
 |cons v vs =>
  obtain⟨ao,cap,rfl,h1⟩:=(hv.2 0 v _ rfl rfl).tB;refine (h ao cap).2 I w _ hI ⟨by simpa using hv.1,λj u c hu hc=>?_⟩;cases j with
  |zero=>simp at hu hc;subst hu hc;exact h1
  |succ j=>exact hv.2 (j+1) u c hu hc
theorem aS.tB{f:FuncId}{rest:List PV}{Q:PV->Prop}(hc:hU P f=true)(h:∀ao cap,aS P f (.val (.slice ao 0 cap) :: rest) Q):aS P f (.aV [] :: rest) Q:=by
 refine⟨hc,λI w vs hI hv=>?_⟩;cases vs with
 |nil=>have:=hv.1;simp at this
 |cons v vs =>
  obtain⟨ao,cap,rfl,h1⟩:=(hv.2 0 v _ rfl rfl).tB;refine (h ao cap).2 I w _ hI ⟨by simpa using hv.1,λj u c hu hc=>?_⟩;cases j with
  |zero=>simp at hu hc;subst hu hc;exact h1
  |succ j=>exact hv.2 (j+1) u c hu hc
theorem ala:dc [] H=H:=rfl
theorem ai4(id:Nat)(r:List Nat):dc (id :: r) H=dc r (aqa H id):=rfl
def aBR(H:ay)(id:Nat)(c:Option Chunk):ay:=match c with
 |some (.row v _ _ es)=>bk H id (.shut v es)
 |_=>H
theorem awX(id:Nat):aqa H id=aBR H id (H id):=rfl
theorem asF(id v:Nat)(e:TypeId)(sz:Nat)(es:List (List PV)):aBR H id (some (.row v e sz es))=bk H id (.shut v es):=rfl
def awY:List AV->Option (Prop×AV)
 | .p (.val (.int k n)) :: r=>agv k n r
 |_=>none
section
variable(d:Option Tmp)(ty:TypeId)(pos:String)(af:Array Edge)(g:Option (Nat×Bool))(ρ:Operand->AV)
theorem aAB(xs:Array Operand)(ts:Array TypeId):gi P ⟨d,.call ⟨.builtin .max,xs,ts⟩,ty,pos,af,g⟩ ρ H=up3 (awY (xs.toList.map ρ)) H:=by
 have e:oa P ⟨d,.call ⟨.builtin .max,xs,ts⟩,ty,pos,af,g⟩ ρ=awY (xs.toList.map ρ):=by simp only[oa,ud,awY];generalize xs.toList.map ρ=l;split<;>first|rfl|(split<;>simp_all)
 simp only[gi,e,rP,mQ,wZ,yp,wo,xb,up3];all_goals(cases awY (xs.toList.map ρ)<;>rfl)
end
theorem awZ(k:IntKind)(n:Int)(r:List AV):awY (.p (.val (.int k n)) :: r)=agv k n r:=rfl
theorem aw0(k:IntKind)(n:Int):agv k n []=some (True,.p (.val (.int k n))):=rfl
theorem asG(k k':IntKind)(n m:Int)(r:List AV):agv k n (.p (.val (.int k' m)) :: r)=agv k (max n m) r:=rfl
theorem asH(xs:Array Operand)(ts:Array TypeId):isApp (.call ⟨.builtin .max,xs,ts⟩)=false:=rfl
attribute [go_sem] aAB awZ aw0 asG asH
theorem aoo:oS []=[]:=rfl
theorem aop(k id v:Nat)(r:List (Nat×AV)):oS ((k,.row id v) :: r)=id :: oS r:=rfl
theorem aoq(k:Nat)(cs:List AV)(r:List (Nat×AV)):oS ((k,.agg cs) :: r)=tw cs++oS r:=rfl
theorem alb:tw []=[]:=rfl
theorem alc(id v:Nat)(r:List AV):tw (.row id v :: r)=id :: tw r:=rfl
theorem asI(x:PV)(r:List AV):tw (.p x :: r)=tw r:=rfl
def aw1(c:Option Chunk)(id bf:Nat):AV:=match c with
 |some (.shut v es)=>if v=bf then .p (.aV es) else .row id bf
 |_=>.row id bf
theorem asJ(id bf:Nat):xT H (.row id bf)=aw1 (H id) id bf:=rfl
theorem asK(id bf:Nat):aaI H (.row id bf)=aw1 (H id) id bf:=rfl
theorem aor(v:Nat)(es:List (List PV))(id bf:Nat):aw1 (some (.shut v es)) id bf=if v=bf then .p (.aV es) else .row id bf:=rfl
theorem aAC(x:PV):aaI H (.p x) = .p x:=rfl
theorem asL(cs:List AV):xT H (.agg cs) = .agg (cs.map (aaI H)):=rfl
theorem yY(n:Int):(n<=n)=True:=eq_true (Int.le_refl n)
attribute [go_sem] aoo aop aoq alb alc asI asJ asK aor aAC asL
theorem jL{o:Oper}{W:Env->ay->Prop}(sK:Env)(H2:ay){pre:Prop}{v:AV}{H':ay}(hw:cU env H sK H2)(hx:gi P o (ev sK) H2=some (pre,v,H'))(hp:pre)(hW:W (cH sK o.dst v) H'):jh P o W env H :=
 .inr (.inl ⟨sK,H2,hw,.inl ⟨pre,v,H',hx,hp,hW⟩⟩)
theorem ahr{env:Env}{H:ay}(id v:Nat)(e:TypeId)(sz:Nat)(es:List (List PV))(ts:List Nat)(hH:H id=some (.row v e sz es))(ht:holds env id v ts)(hn:ts.Nodup):cU env H (anb (.p (.aV es)) ts env) (bk H id (.shut v es)):=λC I L tm w hs=>⟨_,L,acR (es:=es) (by simp[bk]) ts _ hn (Fr.shut C I L w hH env tm hs) ht⟩
theorem tP{o:Oper}{W:Env->ay->Prop}{sK:Env}{H2:ay}(hw:cU env H sK H2)(h:acS P o W sK H2\/ag9 P o W sK H2\/abQ P o W sK H2):jh P o W env H:=.inr (.inl ⟨sK,H2,hw,.inr h⟩)
theorem aos(t:TypeId)(i v:Nat)(lo hi mx:Option AV):sH P t (.row i v) lo hi mx=none:=by cases mx<;>rfl
attribute [go_sem] aos avl arb arc ane
theorem wC{o:Oper}{W:Env->ay->Prop}{k:FuncId}{ps:List PV}{b:Bool}{id v:Nat}{e:TypeId}{sz:Nat}{es es':List (List PV)}{eL:List AV}(c:kE P k v e sz es ps λa c=>a = .row 1000000 (v+1)/\c=some (.row (v+1) e sz es'))
  (ha:dH o (ev env)=some (k,.row id v :: eL)) (hH:H id=some (.row v e sz es))
  (he:ek (gA (agw H id)) eL=some (ps,b)) (hb:b=true->(es'.all λx=>x.all isVal)=true) (hW:W (cH env o.dst (.row id (v+1))) (bk H id (.row (v+1) e sz es'))):jh P o W env H :=
 ahp [] c ha hH he λa c ⟨h1,h2⟩=>by subst h1 h2;exact⟨v+1,e,sz,es',.row id (v+1),rfl,rfl,λh=>⟨hb h,rfl⟩,hW⟩
attribute [go_sem] awT aom ak9 awV aon asE afd awW asv abg ari ano awL awK aDz asw asx an8 aAv asz asy asA aAy aAz awM an9 aoa aCy awN aAA awO awP asB aob awQ aoc aod aoe aof ak6 awR aog aoh aoi ak7 ai2 asC asD ak8 aoj ala ai4 awX asF Nat.add_sub_cancel_left Nat.sub_self
end Go.cr
namespace Go.Proofs.YtjhkgjlmiolfoaaGreat.Ty
open Go Go.cr
theorem mixed:Tryz.prog.follows .mixedOrders=true:=by kernel_rfl
@[go_sem] theorem aIG:bu pw 3=some 1:=by kernel_rfl
@[go_sem] theorem agg3:fL pw 3=some false:=by kernel_rfl
@[go_sem] theorem aIH:cN pw 3=some [.int .i64 0]:=by kernel_rfl
@[go_sem] theorem int3:ajT pw 3=some .i64:=by kernel_rfl
@[go_sem] theorem aII:bu pw 4=some 1:=by kernel_rfl
@[go_sem] theorem agg4:fL pw 4=some false:=by kernel_rfl
@[go_sem] theorem aIJ:bu pw 5=some 1:=by kernel_rfl
@[go_sem] theorem agg5:fL pw 5=some false:=by kernel_rfl
@[go_sem] theorem und5:(Program.underlying pw 5).isSome=true:=by kernel_rfl
@[go_sem] theorem aIK:bu pw 9=some 1:=by kernel_rfl
@[go_sem] theorem agg9:fL pw 9=some false:=by kernel_rfl
@[go_sem] theorem aIL:cN pw 9=some [.string ⟨#[]⟩]:=by kernel_rfl
@[go_sem] theorem str9:yD pw 9=true:=by kernel_rfl
@[go_sem] theorem aGQ:bu pw 22=some 1:=by kernel_rfl
@[go_sem] theorem aIM:fL pw 22=some false:=by kernel_rfl
@[go_sem] theorem aGR:cM pw 22=some 162:=by kernel_rfl
@[go_sem] theorem aGS:isSlice pw 22=true:=by kernel_rfl
@[go_sem] theorem aGT:bu pw 23=some 1:=by kernel_rfl
@[go_sem] theorem aIN:fL pw 23=some false:=by kernel_rfl
@[go_sem] theorem aGU:cM pw 23=some 159:=by kernel_rfl
@[go_sem] theorem aGV:isSlice pw 23=true:=by kernel_rfl
@[go_sem] theorem aGW:bu pw 25=some 2:=by kernel_rfl
@[go_sem] theorem aIO:fL pw 25=some true:=by kernel_rfl
@[go_sem] theorem aGX:cN pw 25=some [.slice none 0 0,.slice none 0 0]:=by kernel_rfl
@[go_sem] theorem pl25:fc pw 25=some [(0,1),(1,1)]:=by kernel_rfl
@[go_sem] theorem aFi:bS pw 25 0=some (0,1):=by kernel_rfl
@[go_sem] theorem aFj:bS pw 25 1=some (1,1):=by kernel_rfl
@[go_sem] theorem aGY:bu pw 27=some 7:=by kernel_rfl
@[go_sem] theorem aIP:fL pw 27=some true:=by kernel_rfl
@[go_sem] theorem aFk:bS pw 27 0=some (0,1):=by kernel_rfl
@[go_sem] theorem aFl:bS pw 27 1=some (1,1):=by kernel_rfl
@[go_sem] theorem aFm:bS pw 27 2=some (2,2):=by kernel_rfl
@[go_sem] theorem aFn:bS pw 27 3=some (4,1):=by kernel_rfl
@[go_sem] theorem aFo:bS pw 27 4=some (5,1):=by kernel_rfl
@[go_sem] theorem aFp:bS pw 27 5=some (6,1):=by kernel_rfl
@[go_sem] theorem aGZ:bu pw 28=some 1:=by kernel_rfl
@[go_sem] theorem aIQ:fL pw 28=some false:=by kernel_rfl
@[go_sem] theorem aG0:cM pw 28=some 165:=by kernel_rfl
@[go_sem] theorem aG1:isSlice pw 28=true:=by kernel_rfl
@[go_sem] theorem aIR:dr pw 28 28=some (165,4,56):=by kernel_rfl
@[go_sem] theorem aG2:bu pw 29=some 1:=by kernel_rfl
@[go_sem] theorem aIS:fL pw 29=some false:=by kernel_rfl
@[go_sem] theorem aG3:cM pw 29=some 170:=by kernel_rfl
@[go_sem] theorem aG4:isSlice pw 29=true:=by kernel_rfl
@[go_sem] theorem aIT:dr pw 29 29=some (170,7,64):=by kernel_rfl
@[go_sem] theorem aG5:bu pw 31=some 2:=by kernel_rfl
@[go_sem] theorem aIU:fL pw 31=some true:=by kernel_rfl
@[go_sem] theorem aG6:cN pw 31=some [.slice none 0 0,.slice none 0 0]:=by kernel_rfl
@[go_sem] theorem pl31:fc pw 31=some [(0,1),(1,1)]:=by kernel_rfl
@[go_sem] theorem aFq:bS pw 31 0=some (0,1):=by kernel_rfl
@[go_sem] theorem aFr:bS pw 31 1=some (1,1):=by kernel_rfl
@[go_sem] theorem aG7:bu pw 32=some 1:=by kernel_rfl
@[go_sem] theorem aIV:fL pw 32=some false:=by kernel_rfl
@[go_sem] theorem zero32:cN pw 32=some [.slice none 0 0]:=by kernel_rfl
@[go_sem] theorem aG8:cM pw 32=some 3:=by kernel_rfl
@[go_sem] theorem aG9:isSlice pw 32=true:=by kernel_rfl
@[go_sem] theorem aIW:dr pw 32 32=some (3,1,8):=by kernel_rfl
@[go_sem] theorem aHa:bu pw 33=some 1:=by kernel_rfl
@[go_sem] theorem aIX:fL pw 33=some false:=by kernel_rfl
@[go_sem] theorem aHb:cM pw 33=some 175:=by kernel_rfl
@[go_sem] theorem aHc:isSlice pw 33=true:=by kernel_rfl
@[go_sem] theorem aIY:dr pw 33 33=some (175,3,24):=by kernel_rfl
@[go_sem] theorem aHd:bu pw 35=some 2:=by kernel_rfl
@[go_sem] theorem aIZ:fL pw 35=some true:=by kernel_rfl
@[go_sem] theorem aHe:cN pw 35=some [.slice none 0 0,.slice none 0 0]:=by kernel_rfl
@[go_sem] theorem pl35:fc pw 35=some [(0,1),(1,1)]:=by kernel_rfl
@[go_sem] theorem aFs:bS pw 35 0=some (0,1):=by kernel_rfl
@[go_sem] theorem aFt:bS pw 35 1=some (1,1):=by kernel_rfl
@[go_sem] theorem aHf:bu pw 36=some 1:=by kernel_rfl
@[go_sem] theorem aI0:fL pw 36=some false:=by kernel_rfl
@[go_sem] theorem aHg:cM pw 36=some 32:=by kernel_rfl
@[go_sem] theorem aHh:isSlice pw 36=true:=by kernel_rfl
@[go_sem] theorem aI1:dr pw 36 36=some (32,1,24):=by kernel_rfl
@[go_sem] theorem aHi:bu pw 38=some 3:=by kernel_rfl
@[go_sem] theorem aI2:fL pw 38=some true:=by kernel_rfl
@[go_sem] theorem aHj:cN pw 38=some [.slice none 0 0,.slice none 0 0,.slice none 0 0]:=by kernel_rfl
@[go_sem] theorem pl38:fc pw 38=some [(0,2),(2,1)]:=by kernel_rfl
@[go_sem] theorem aFu:bS pw 38 0=some (0,2):=by kernel_rfl
@[go_sem] theorem aFv:bS pw 38 1=some (2,1):=by kernel_rfl
@[go_sem] theorem aHk:bu pw 40=some 6:=by kernel_rfl
@[go_sem] theorem aI3:fL pw 40=some true:=by kernel_rfl
@[go_sem] theorem aHl:cN pw 40=some [.slice none 0 0,.slice none 0 0,.slice none 0 0,.slice none 0 0,.slice none 0 0,.int .i64 0]:=by kernel_rfl
@[go_sem] theorem pl40:fc pw 40=some [(0,3),(3,1),(4,1),(5,1)]:=by kernel_rfl
@[go_sem] theorem aFw:bS pw 40 0=some (0,3):=by kernel_rfl
@[go_sem] theorem aFx:bS pw 40 1=some (3,1):=by kernel_rfl
@[go_sem] theorem aFy:bS pw 40 2=some (4,1):=by kernel_rfl
@[go_sem] theorem aFz:bS pw 40 3=some (5,1):=by kernel_rfl
@[go_sem] theorem aHm:bu pw 41=some 1:=by kernel_rfl
@[go_sem] theorem aI4:fL pw 41=some false:=by kernel_rfl
@[go_sem] theorem aHn:cM pw 41=some 75:=by kernel_rfl
@[go_sem] theorem aHo:isSlice pw 41=true:=by kernel_rfl
@[go_sem] theorem aI5:dr pw 41 41=some (75,3,40):=by kernel_rfl
@[go_sem] theorem aHp:bu pw 42=some 1:=by kernel_rfl
@[go_sem] theorem aI6:fL pw 42=some false:=by kernel_rfl
@[go_sem] theorem aHq:cM pw 42=some 102:=by kernel_rfl
@[go_sem] theorem aHr:isSlice pw 42=true:=by kernel_rfl
@[go_sem] theorem aI7:dr pw 42 42=some (102,4,32):=by kernel_rfl
@[go_sem] theorem aHs:bu pw 43=some 1:=by kernel_rfl
@[go_sem] theorem aI8:fL pw 43=some false:=by kernel_rfl
@[go_sem] theorem aHt:cM pw 43=some 105:=by kernel_rfl
@[go_sem] theorem aHu:isSlice pw 43=true:=by kernel_rfl
@[go_sem] theorem aI9:dr pw 43 43=some (105,4,32):=by kernel_rfl
@[go_sem] theorem aHv:bu pw 44=some 2:=by kernel_rfl
@[go_sem] theorem aJa:fL pw 44=some true:=by kernel_rfl
@[go_sem] theorem aHw:cN pw 44=some [.int .i64 0,.int .i64 0]:=by kernel_rfl
@[go_sem] theorem aJb:wh pw 44=some (2,3):=by kernel_rfl
@[go_sem] theorem pl44:fc pw 44=some [(0,1),(1,1)]:=by kernel_rfl
@[go_sem] theorem aHx:bu pw 46=some 7:=by kernel_rfl
@[go_sem] theorem aJc:fL pw 46=some true:=by kernel_rfl
@[go_sem] theorem aHy:cN pw 46=some [.slice none 0 0,.slice none 0 0,.slice none 0 0,.slice none 0 0,.slice none 0 0,.int .i64 0,.int .i64 0]:=by kernel_rfl
@[go_sem] theorem pl46:fc pw 46=some [(0,1),(1,1),(2,1),(3,1),(4,1),(5,2)]:=by kernel_rfl
@[go_sem] theorem aFA:bS pw 46 0=some (0,1):=by kernel_rfl
@[go_sem] theorem aFB:bS pw 46 1=some (1,1):=by kernel_rfl
@[go_sem] theorem aFC:bS pw 46 2=some (2,1):=by kernel_rfl
@[go_sem] theorem aFD:bS pw 46 3=some (3,1):=by kernel_rfl
@[go_sem] theorem aFE:bS pw 46 4=some (4,1):=by kernel_rfl
@[go_sem] theorem aFF:bS pw 46 5=some (5,2):=by kernel_rfl
@[go_sem] theorem aHz:bu pw 48=some 20:=by kernel_rfl
@[go_sem] theorem aJd:fL pw 48=some true:=by kernel_rfl
@[go_sem] theorem aHA:cN pw 48=some [.slice none 0 0,.slice none 0 0,.slice none 0 0,.slice none 0 0,.slice none 0 0,.int .i64 0,.slice none 0 0,.slice none 0 0,.slice none 0 0,.slice none 0 0,.slice none 0 0,.int .i64 0,.int .i64 0,.slice none 0 0,.slice none 0 0,.slice none 0 0,.slice none 0 0,.slice none 0 0,.int .i64 0,.int .i64 0]:=by kernel_rfl
@[go_sem] theorem pl48:fc pw 48=some [(0,6),(6,7),(13,7)]:=by kernel_rfl
@[go_sem] theorem aFG:bS pw 48 0=some (0,6):=by kernel_rfl
@[go_sem] theorem aFH:bS pw 48 1=some (6,7):=by kernel_rfl
@[go_sem] theorem aHB:bu pw 52=some 1:=by kernel_rfl
@[go_sem] theorem aJe:fL pw 52=some false:=by kernel_rfl
@[go_sem] theorem aHC:cN pw 52=some [.slice none 0 0]:=by kernel_rfl
@[go_sem] theorem aHD:cM pw 52=some 57:=by kernel_rfl
@[go_sem] theorem aHE:isSlice pw 52=true:=by kernel_rfl
@[go_sem] theorem aDA:dr pw 52 52=some (57,3,24):=by kernel_rfl
@[go_sem] theorem aHF:bu pw 57=some 3:=by kernel_rfl
@[go_sem] theorem aJf:fL pw 57=some true:=by kernel_rfl
@[go_sem] theorem aHG:cN pw 57=some [.int .i64 0,.int .i64 0,.int .i64 0]:=by kernel_rfl
@[go_sem] theorem pl57:fc pw 57=some [(0,1),(1,1),(2,1)]:=by kernel_rfl
@[go_sem] theorem aHH:bu pw 75=some 3:=by kernel_rfl
@[go_sem] theorem aJg:fL pw 75=some true:=by kernel_rfl
@[go_sem] theorem aHI:cN pw 75=some [.int .i64 0,.int .i64 0,.slice none 0 0]:=by kernel_rfl
@[go_sem] theorem pl75:fc pw 75=some [(0,1),(1,1),(2,1)]:=by kernel_rfl
@[go_sem] theorem aFI:bS pw 75 0=some (0,1):=by kernel_rfl
@[go_sem] theorem aFJ:bS pw 75 1=some (1,1):=by kernel_rfl
@[go_sem] theorem aFK:bS pw 75 2=some (2,1):=by kernel_rfl
@[go_sem] theorem aFL:bu pw 102=some 4:=by kernel_rfl
@[go_sem] theorem aHJ:fL pw 102=some true:=by kernel_rfl
@[go_sem] theorem aFM:cN pw 102=some [.int .i64 0,.int .i64 0,.int .i64 0,.int .i64 0]:=by kernel_rfl
@[go_sem] theorem aJh:fc pw 102=some [(0,1),(1,1),(2,1),(3,1)]:=by kernel_rfl
@[go_sem] theorem aDB:bS pw 102 0=some (0,1):=by kernel_rfl
@[go_sem] theorem aDC:bS pw 102 1=some (1,1):=by kernel_rfl
@[go_sem] theorem aDD:bS pw 102 2=some (2,1):=by kernel_rfl
@[go_sem] theorem aDE:bS pw 102 3=some (3,1):=by kernel_rfl
@[go_sem] theorem aFN:bu pw 105=some 4:=by kernel_rfl
@[go_sem] theorem aHK:fL pw 105=some true:=by kernel_rfl
@[go_sem] theorem aFO:cN pw 105=some [.int .i64 0,.int .i64 0,.int .i64 0,.int .i64 0]:=by kernel_rfl
@[go_sem] theorem aJi:fc pw 105=some [(0,1),(1,1),(2,1),(3,1)]:=by kernel_rfl
@[go_sem] theorem aDF:bS pw 105 0=some (0,1):=by kernel_rfl
@[go_sem] theorem aDG:bS pw 105 1=some (1,1):=by kernel_rfl
@[go_sem] theorem aDH:bS pw 105 2=some (2,1):=by kernel_rfl
@[go_sem] theorem aDI:bS pw 105 3=some (3,1):=by kernel_rfl
@[go_sem] theorem aFP:bu pw 126=some 14:=by kernel_rfl
@[go_sem] theorem aHL:fL pw 126=some true:=by kernel_rfl
@[go_sem] theorem aFQ:cN pw 126=some [.slice none 0 0,.slice none 0 0,.slice none 0 0,.slice none 0 0,.slice none 0 0,.int .i64 0,.int .i64 0,.slice none 0 0,.slice none 0 0,.slice none 0 0,.slice none 0 0,.slice none 0 0,.int .i64 0,.int .i64 0]:=by kernel_rfl
@[go_sem] theorem aHM:wh pw 126=some (2,46):=by kernel_rfl
@[go_sem] theorem aJj:fc pw 126=some [(0,7),(7,7)]:=by kernel_rfl
@[go_sem] theorem aFR:bu pw 159=some 3:=by kernel_rfl
@[go_sem] theorem aHN:fL pw 159=some true:=by kernel_rfl
@[go_sem] theorem aHO:wh pw 159=some (3,5):=by kernel_rfl
@[go_sem] theorem aFS:bu pw 162=some 2:=by kernel_rfl
@[go_sem] theorem aHP:fL pw 162=some true:=by kernel_rfl
@[go_sem] theorem aFT:cN pw 162=some [.int .u8 0,.int .u8 0]:=by kernel_rfl
@[go_sem] theorem aHQ:wh pw 162=some (2,5):=by kernel_rfl
@[go_sem] theorem aJk:fc pw 162=some [(0,1),(1,1)]:=by kernel_rfl
@[go_sem] theorem aFU:bu pw 163=some 1:=by kernel_rfl
@[go_sem] theorem aHR:fL pw 163=some false:=by kernel_rfl
@[go_sem] theorem aFV:cM pw 163=some 168:=by kernel_rfl
@[go_sem] theorem aFW:isSlice pw 163=true:=by kernel_rfl
@[go_sem] theorem aHS:dr pw 163 163=some (168,4,56):=by kernel_rfl
@[go_sem] theorem aFX:bu pw 165=some 4:=by kernel_rfl
@[go_sem] theorem aHT:fL pw 165=some true:=by kernel_rfl
@[go_sem] theorem aFY:cN pw 165=some [.string ⟨#[]⟩,.int .i64 0,.bool false,.slice none 0 0]:=by kernel_rfl
@[go_sem] theorem aJl:fc pw 165=some [(0,1),(1,1),(2,1),(3,1)]:=by kernel_rfl
@[go_sem] theorem aDJ:bS pw 165 0=some (0,1):=by kernel_rfl
@[go_sem] theorem aDK:bS pw 165 1=some (1,1):=by kernel_rfl
@[go_sem] theorem aDL:bS pw 165 2=some (2,1):=by kernel_rfl
@[go_sem] theorem aDM:bS pw 165 3=some (3,1):=by kernel_rfl
@[go_sem] theorem aFZ:bu pw 166=some 1:=by kernel_rfl
@[go_sem] theorem aHU:fL pw 166=some false:=by kernel_rfl
@[go_sem] theorem aF0:cM pw 166=some 9:=by kernel_rfl
@[go_sem] theorem aF1:isSlice pw 166=true:=by kernel_rfl
@[go_sem] theorem aHV:dr pw 166 166=some (9,1,16):=by kernel_rfl
@[go_sem] theorem aF2:bu pw 168=some 4:=by kernel_rfl
@[go_sem] theorem aHW:fL pw 168=some true:=by kernel_rfl
@[go_sem] theorem aF3:cN pw 168=some [.string ⟨#[]⟩,.int .i64 0,.int .i64 0,.slice none 0 0]:=by kernel_rfl
@[go_sem] theorem aJm:fc pw 168=some [(0,1),(1,1),(2,1),(3,1)]:=by kernel_rfl
@[go_sem] theorem aDN:bS pw 168 0=some (0,1):=by kernel_rfl
@[go_sem] theorem aDO:bS pw 168 1=some (1,1):=by kernel_rfl
@[go_sem] theorem aDP:bS pw 168 2=some (2,1):=by kernel_rfl
@[go_sem] theorem aDQ:bS pw 168 3=some (3,1):=by kernel_rfl
@[go_sem] theorem aF4:bu pw 170=some 7:=by kernel_rfl
@[go_sem] theorem aHX:fL pw 170=some true:=by kernel_rfl
@[go_sem] theorem aF5:cN pw 170=some [.string ⟨#[]⟩,.int .i64 0,.int .i64 0,.int .i64 0,.int .i64 0,.int .i64 0,.int .i64 0]:=by kernel_rfl
@[go_sem] theorem aJn:fc pw 170=some [(0,1),(1,1),(2,1),(3,1),(4,1),(5,1),(6,1)]:=by kernel_rfl
@[go_sem] theorem aDR:bS pw 170 0=some (0,1):=by kernel_rfl
@[go_sem] theorem aDS:bS pw 170 1=some (1,1):=by kernel_rfl
@[go_sem] theorem aDT:bS pw 170 2=some (2,1):=by kernel_rfl
@[go_sem] theorem aDU:bS pw 170 3=some (3,1):=by kernel_rfl
@[go_sem] theorem aDV:bS pw 170 4=some (4,1):=by kernel_rfl
@[go_sem] theorem aDW:bS pw 170 5=some (5,1):=by kernel_rfl
@[go_sem] theorem aDX:bS pw 170 6=some (6,1):=by kernel_rfl
@[go_sem] theorem aF6:bu pw 175=some 3:=by kernel_rfl
@[go_sem] theorem aHY:fL pw 175=some true:=by kernel_rfl
@[go_sem] theorem aF7:cN pw 175=some [.int .i64 0,.int .i64 0,.int .i64 0]:=by kernel_rfl
@[go_sem] theorem aJo:fc pw 175=some [(0,1),(1,1),(2,1)]:=by kernel_rfl
@[go_sem] theorem aDY:bS pw 175 0=some (0,1):=by kernel_rfl
@[go_sem] theorem aDZ:bS pw 175 1=some (1,1):=by kernel_rfl
@[go_sem] theorem aD0:bS pw 175 2=some (2,1):=by kernel_rfl
@[go_sem] theorem aF8:cM pw 179=some 46:=by kernel_rfl
@[go_sem] theorem aF9:isSlice pw 179=true:=by kernel_rfl
@[go_sem] theorem aGa:cM pw 180=some 126:=by kernel_rfl
@[go_sem] theorem aGb:isSlice pw 180=true:=by kernel_rfl
@[go_sem] theorem aGc:bu pw 185=some 1:=by kernel_rfl
@[go_sem] theorem aHZ:fL pw 185=some false:=by kernel_rfl
@[go_sem] theorem aGd:cN pw 185=some [.slice none 0 0]:=by kernel_rfl
@[go_sem] theorem aGe:cM pw 185=some 188:=by kernel_rfl
@[go_sem] theorem aGf:isSlice pw 185=true:=by kernel_rfl
@[go_sem] theorem aCz:dr pw 185 185=some (188,3,24):=by kernel_rfl
@[go_sem] theorem aGg:bu pw 188=some 3:=by kernel_rfl
@[go_sem] theorem aH0:fL pw 188=some true:=by kernel_rfl
@[go_sem] theorem aGh:cN pw 188=some [.int .i64 0,.int .i64 0,.bool false]:=by kernel_rfl
@[go_sem] theorem aJp:fc pw 188=some [(0,1),(1,1),(2,1)]:=by kernel_rfl
@[go_sem] theorem aD1:bS pw 188 0=some (0,1):=by kernel_rfl
@[go_sem] theorem aD2:bS pw 188 1=some (1,1):=by kernel_rfl
@[go_sem] theorem aGi:bu pw 197=some 2:=by kernel_rfl
@[go_sem] theorem aH1:fL pw 197=some true:=by kernel_rfl
@[go_sem] theorem aGj:cN pw 197=some [.slice none 0 0,.slice none 0 0]:=by kernel_rfl
@[go_sem] theorem aJq:fc pw 197=some [(0,1),(1,1)]:=by kernel_rfl
@[go_sem] theorem aD3:bS pw 197 0=some (0,1):=by kernel_rfl
@[go_sem] theorem aD4:bS pw 197 1=some (1,1):=by kernel_rfl
@[go_sem] theorem aGk:bu pw 227=some 2:=by kernel_rfl
@[go_sem] theorem aGl:cN pw 227=some [.slice none 0 0,.slice none 0 0]:=by kernel_rfl
@[go_sem] theorem aJr:fc pw 227=some [(0,1),(1,1)]:=by kernel_rfl
@[go_sem] theorem aD5:bS pw 227 0=some (0,1):=by kernel_rfl
@[go_sem] theorem aD6:bS pw 227 1=some (1,1):=by kernel_rfl
@[go_sem] theorem aGm:cM pw 238=some 241:=by kernel_rfl
@[go_sem] theorem aGn:isSlice pw 238=true:=by kernel_rfl
@[go_sem] theorem aH2:dr pw 238 238=some (241,3,24):=by kernel_rfl
@[go_sem] theorem aGo:bu pw 241=some 3:=by kernel_rfl
@[go_sem] theorem aH3:fL pw 241=some true:=by kernel_rfl
@[go_sem] theorem aGp:cN pw 241=some [.int .i64 0,.int .i64 0,.bool false]:=by kernel_rfl
@[go_sem] theorem aJs:fc pw 241=some [(0,1),(1,1),(2,1)]:=by kernel_rfl
@[go_sem] theorem aD7:bS pw 241 0=some (0,1):=by kernel_rfl
@[go_sem] theorem aD8:bS pw 241 1=some (1,1):=by kernel_rfl
@[go_sem] theorem aGq:cM pw 247=some 52:=by kernel_rfl
@[go_sem] theorem aGr:isSlice pw 247=true:=by kernel_rfl
@[go_sem] theorem aGs:cM pw 258=some 185:=by kernel_rfl
@[go_sem] theorem aGt:isSlice pw 258=true:=by kernel_rfl
@[go_sem] theorem aGu:cM pw 260=some 264:=by kernel_rfl
@[go_sem] theorem aGv:isSlice pw 260=true:=by kernel_rfl
@[go_sem] theorem aH4:dr pw 260 260=some (264,4,32):=by kernel_rfl
@[go_sem] theorem aGw:bu pw 264=some 4:=by kernel_rfl
@[go_sem] theorem aH5:fL pw 264=some true:=by kernel_rfl
@[go_sem] theorem aGx:cN pw 264=some [.int .i64 0,.int .i64 0,.int .i64 0,.bool false]:=by kernel_rfl
@[go_sem] theorem aJt:fc pw 264=some [(0,1),(1,1),(2,1),(3,1)]:=by kernel_rfl
@[go_sem] theorem aD9:bS pw 264 0=some (0,1):=by kernel_rfl
@[go_sem] theorem aEa:bS pw 264 1=some (1,1):=by kernel_rfl
@[go_sem] theorem aEb:bS pw 264 3=some (3,1):=by kernel_rfl
@[go_sem] theorem aGy:bu pw 312=some 1:=by kernel_rfl
@[go_sem] theorem aH6:fL pw 312=some false:=by kernel_rfl
@[go_sem] theorem aGz:bu pw 362=some 3:=by kernel_rfl
@[go_sem] theorem aH7:fL pw 362=some true:=by kernel_rfl
@[go_sem] theorem aGA:cN pw 362=some [.int .i64 0,.string ⟨#[]⟩,.int .i64 0]:=by kernel_rfl
@[go_sem] theorem aJu:fc pw 362=some [(0,1),(1,1),(2,1)]:=by kernel_rfl
@[go_sem] theorem aEc:bS pw 362 0=some (0,1):=by kernel_rfl
@[go_sem] theorem aEd:bS pw 362 1=some (1,1):=by kernel_rfl
@[go_sem] theorem sk57:qf pw 57=some [.i,.i,.i]:=by kernel_rfl
@[go_sem] theorem aJv:qf pw 102=some [.i,.i,.i,.i]:=by kernel_rfl
@[go_sem] theorem aJw:qf pw 105=some [.i,.i,.i,.i]:=by kernel_rfl
@[go_sem] theorem aJx:qf pw 175=some [.i,.i,.i]:=by kernel_rfl
@[go_sem] theorem aJy:qf pw 188=some [.i,.i,.b]:=by kernel_rfl
@[go_sem] theorem aJz:qf pw 241=some [.i,.i,.b]:=by kernel_rfl
end Go.Proofs.YtjhkgjlmiolfoaaGreat.Ty
namespace Go.cr
theorem aEe{α β:Type}(f:α->β)(l:List α)(n:Nat):(l.map f).take n=(l.take n).map f:=(List.map_take ..).symm
theorem aEf{α β:Type}(f:α->β)(l:List α)(n:Nat):(l.map f).drop n=(l.drop n).map f:=(List.map_drop ..).symm
attribute [go_sem] Nat.reduceEqDiff Nat.reduceLT Nat.reduceLeDiff Nat.reduceMul Nat.reduceAdd Nat.reduceBEq Nat.reduceSub Int.reduceToNat reduceIte reduceCtorEq
attribute [go_sem] aEe aEf Nat.le_refl Nat.not_lt_zero Nat.zero_le Nat.zero_lt_succ decide_true decide_false Bool.not_not exists_eq'
end Go.cr
namespace Go.Proofs.YtjhkgjlmiolfoaaGreat
open Go.cr
def encI(n:Int):List PV:=[.val (.int .i64 n)]
def iG(s:ByteArray):List PV:=[.val (.string s)]
def bl(l:List Int):PV:=.aV (l.map encI)
def cQ(l:List ByteArray):PV:=.aV (l.map iG)
structure Attr where
 name:ByteArray
 low:Int
 high:Int
 names:List ByteArray
structure gB where
 name:ByteArray
 parent:Int
 abs:Bool
 attrs:List Attr
structure lU where
 name:ByteArray
 src:Int
 dst:Int
 nL:Int
 jZ:Int
 ta:Int
 oe:Int
structure Types where
 nodes:List gB
 au:List lU
structure aJA where
 nodes:List Int
 au:List Int
structure Edge where
 type:Int
 src:Int
 dst:Int
structure eS where
 nodes:List Int
 au:List Edge
structure Host where
 graph:eS
 values:List (List Int)
structure aEg where
 a:Int
 b:Int
instance:Inhabited ByteArray:=⟨.empty⟩
instance:Inhabited Attr:=⟨⟨.empty,0,0,[]⟩⟩
instance:Inhabited gB:=⟨⟨.empty,0,false,[]⟩⟩
instance:Inhabited lU:=⟨⟨.empty,0,0,0,0,0,0⟩⟩
instance:Inhabited Edge:=⟨⟨0,0,0⟩⟩
instance:Inhabited aEg:=⟨⟨0,0⟩⟩
def aU(a:Attr):List PV:=[.val (.string a.name),.val (.int .i64 a.low),.val (.int .i64 a.high),cQ a.names]
def aJ(n:gB):List PV:=[.val (.string n.name),.val (.int .i64 n.parent),.val (.bool n.abs),.aV (n.attrs.map aU)]
def aL(e:lU):List PV:=[.val (.string e.name),.val (.int .i64 e.src),.val (.int .i64 e.dst),.val (.int .i64 e.nL),.val (.int .i64 e.jZ),.val (.int .i64 e.ta),.val (.int .i64 e.oe)]
def aZ(e:Edge):List PV:=[.val (.int .i64 e.type),.val (.int .i64 e.src),.val (.int .i64 e.dst)]
def bI(l:List Int):List PV:=[bl l]
def aD(t:Types):PV:=.agg [.aV (t.nodes.map aJ),.aV (t.au.map aL)]
def fe(g:eS):PV:=.agg [bl g.nodes,.aV (g.au.map aZ)]
def cG(h:Host):PV:=.agg [bl h.graph.nodes,.aV (h.graph.au.map aZ),.aV (h.values.map bI)]
theorem getD_map{α:Type} [Inhabited α](f:α->List PV){l:List α}{n:Nat}(h:n<l.length):(l.map f).getD n []=f (l.getD n default):=by simp[h]
theorem og{α:Type} [Inhabited α]{l:List α}{n:Nat}(h:n<l.length):l.take (n+1)=l.take n++[l.getD n default]:=by rw[List.take_add_one];simp[h]
theorem bz{k n:Nat}(h:k<n)(hn:n<=4611686018427387904):i64.wrap ((k:Int)+1)=((k+1:Nat):Int):=by rw[IntWalk.i64_in _ (by omega)];omega
section
variable{P:Program}{N:Nat}{own:List Nat}{ops:Array Oper}{K:Env->ay->Prop}{env:Env}{H:ay}
theorem aiO(x:PV):gA H (.p x)=some (x,false):=rfl
theorem jM(ps:List PV):ek (gA H) (ps.map AV.p)=some (ps,false):=by
 induction ps with
 |nil=>rfl
 |cons a r ih=>simp[ek,aiO,ih]
theorem jN(qs bs:List AV):ek (gA H) (qs++bs)=(match ek (gA H) qs,ek (gA H) bs with|some (xs,b),some (ys,c)=>some (xs++ys,b||c)|_,_=>none):=by
 induction qs with
 |nil =>
  simp only[List.nil_append,ek];cases ek (gA H) bs with
  |none=>rfl
  |some r=>obtain⟨ys,c⟩:=r;simp
 |cons a r ih =>
  simp only[List.cons_append,ek,ih];cases gA H a with
  |none=>rfl
  |some q =>
   cases ek (gA H) r with
   |none=>rfl
   |some r1 =>
    cases ek (gA H) bs with
    |none=>rfl
    |some r2=>simp[Bool.or_assoc]
theorem aW{b:Bool}{x y:Code}{K:qi}(h1:b=true->abS P N own (.p (.val (.bool false))) x y K env H)(h2:b=false->abS P N own (.p (.val (.bool true))) x y K env H):abS P N own (.p (.val (.bool !b))) x y K env H:=by
 cases b
 ·exact h2 rfl
 ·exact h1 rfl
theorem bP{b:Bool}{o:Oper}{rest:List Oper}(h1:b=true->aaJ P N own ops (some true) o rest K env H)(h2:b=false->aaJ P N own ops (some false) o rest K env H):aaJ P N own ops (some b) o rest K env H:=by
 cases b
 ·exact h2 rfl
 ·exact h1 rfl
theorem bU{b:Bool}{o:Oper}{rest:List Oper}(h1:b=true->aaJ P N own ops (some false) o rest K env H)(h2:b=false->aaJ P N own ops (some true) o rest K env H):aaJ P N own ops (some !b) o rest K env H:=by
 cases b
 ·exact h2 rfl
 ·exact h1 rfl
theorem pg{b:Bool}{c:oZ}{o:Oper}{rest:List (Oper×oZ)}(h1:b=true->vJ P N own ops (some false) c o rest K env H)(h2:b=false->vJ P N own ops (some true) c o rest K env H):vJ P N own ops (some !b) c o rest K env H:=by
 cases b
 ·exact h2 rfl
 ·exact h1 rfl
theorem oB{b:Bool}{c:oZ}{o:Oper}{rest:List (Oper×oZ)}(h1:b=true->vJ P N own ops (some true) c o rest K env H)(h2:b=false->vJ P N own ops (some false) c o rest K env H):vJ P N own ops (some b) c o rest K env H:=by
 cases b
 ·exact h2 rfl
 ·exact h1 rfl
end
end Go.Proofs.YtjhkgjlmiolfoaaGreat
namespace Go.cr
theorem aQ{P:Program}{f:FuncId}{fn:Func}{c:Code}{args:List PV}{Q:PV->Prop}(own:List Nat)(hf:P.funcs[f]? = some fn)(h:cw P fn.ntmps own c (aCl P fn.results.toList Q) (iO args) cm)(hm:P.follows .mixedOrders=true:=by exact Ty.mixed)(hb:fn.body=some c:=by rfl)(hc:hU P f=true:=by kernel_rfl)(hn:args.length<=fn.ntmps:=by first|decide|simp):aS P f args Q:=akb own hm hf hb hc hn h
theorem bB{P:Program}{f:FuncId}{fn:Func}{c:Code}{args:List PV}{Q:RV->Prop}(own:List Nat)(hf:P.funcs[f]? = some fn)(h:cw P fn.ntmps own c (aCm P fn.results.toList Q) (iO args) cm)(hm:P.follows .mixedOrders=true:=by exact Ty.mixed)(hb:fn.body=some c:=by rfl)(hc:hU P f=true:=by kernel_rfl)(hn:args.length<=fn.ntmps:=by first|decide|simp):br P f args Q:=akc own hm hf hb hc hn h
end Go.cr
namespace Go.Proofs.YtjhkgjlmiolfoaaGreat
open Go.cr
theorem aaM(n a b:Int):aS pw 154 [.val (.int .i64 n),.val (.int .i64 a),.val (.int .i64 b)] (λr=>r = .val (.bool (decide (a<=n)&&decide (n<=b)))):=by refine aQ [] func154 ?_;rw[ntmps154,results154];simp only[go_sem];refine bP (λh=>?_) (λh=>?_)<;>simp only[go_sem,h]
theorem aam(n m:Int):aS pw 228 [.val (.int .i64 n),.val (.int .i64 m)] (λr=>r = .val (.bool (decide (0<=n)&&decide (n<=m)))):=by refine aQ [] func228 ?_;rw[ntmps228,results228];simp only[go_sem];refine bP (λh=>?_) (λh=>?_)<;>simp only[go_sem,h]
def vK(a b:Int):Bool:=(decide (0<=a)&&decide (a<=40))&&(decide (b = -1)||(decide (a<=b)&&decide (b<=40)))
theorem afe(a b:Int):aS pw 226 [.val (.int .i64 a),.val (.int .i64 b)] (λr=>r = .val (.bool (vK a b))):=by
 unfold vK;refine aQ [] func226 ?_;rw[ntmps226,results226];simp only[go_sem]
 repeat' first|done|(refine bU (λh=>?_) (λh=>?_)<;>try simp only[go_sem,h])|(refine bP (λh=>?_) (λh=>?_)<;>try simp only[go_sem,h])|(refine aW (λh=>?_) (λh=>?_)<;>try simp only[go_sem,h])|(refine aK (λh=>?_) (λh=>?_)<;>try simp only[go_sem,h])
theorem ald(a b:Int):aS pw 237 [.val (.int .i64 a),.val (.int .i64 b)] (λr=>r = .val (.bool (vK a b))):=by
 unfold vK;refine aQ [] func237 ?_;rw[ntmps237,results237];simp only[go_sem];refine aY (aaM a 0 40) (by simp only[go_sem]<;>rfl) (b6 rfl) ?_;simp only[go_sem]
 repeat' first|done|(refine bU (λh=>?_) (λh=>?_)<;>try simp only[go_sem,h])|(refine bP (λh=>?_) (λh=>?_)<;>try simp only[go_sem,h])|(refine aW (λh=>?_) (λh=>?_)<;>try simp only[go_sem,h])|(refine aK (λh=>?_) (λh=>?_)<;>try simp only[go_sem,h])
 all_goals
  refine aY (aaM b a 40) (by simp only[go_sem]<;>rfl) (b6 rfl) ?_;simp only[go_sem, *]
def qo(n:Int):Bool:=(decide (97<=n)&&decide (n<=122))||(decide (65<=n)&&decide (n<=90))
def vL(n:Int):Bool:=decide (48<=n)&&decide (n<=57)
def aaN(n:Int):Bool:=(qo n||vL n)||decide (n=95)
theorem ahs(n:Int):aS pw 396 [.val (.int .u8 n)] (λr=>r = .val (.bool (qo n))):=by
 unfold qo;refine aQ [] func396 ?_;rw[ntmps396,results396];simp only[go_sem]
 repeat' first|done|(refine bU (λh=>?_) (λh=>?_)<;>try simp only[go_sem,h])|(refine bP (λh=>?_) (λh=>?_)<;>try simp only[go_sem,h])|(refine aW (λh=>?_) (λh=>?_)<;>try simp only[go_sem,h])|(refine aK (λh=>?_) (λh=>?_)<;>try simp only[go_sem,h])
end Go.Proofs.YtjhkgjlmiolfoaaGreat
namespace Go.cr
theorem bX{e e':Env}{H H':ay}(h1:aeW e' e:=by repeat (first|exact awh _|refine aAd ?_ (by first|rfl|simp[cE])))(h2:HSub H' H:=by repeat (first|exact aDv _|refine ar3 ?_ (by first|rfl|simp[bk])))(h3:acV e' H':=by repeat (first|exact awi _|refine aAe ?_ (by simp[o7,mT,bk])))(h4:qj H' H':=by repeat (first|exact aAf _|refine anN ?_|refine akA ?_|refine ale ?_|refine alf ?_|refine anM ?_ (by simp[o7,mT,bk])))(h5:lS H H':=by repeat (first|exact aBO _|refine akB (by decide) ?_|refine ar4 (by simp[bk]) ?_)):cU e H e' H':=aAg h1 h2 h3 h4 h5
end Go.cr
namespace Go.Proofs.YtjhkgjlmiolfoaaGreat
open Go.cr
def idxOf{α:Type}(p:α->Bool)(l:List α):Int:=match l.findIdx? p with
 |some i=>i
 |none=>-1
theorem pn{α:Type} [Inhabited α]{p:α->Bool}{l:List α}{k:Nat}(hk:k<l.length)(h1:∀j,j<k->p (l.getD j default)=false)(h2:p (l.getD k default)=true):idxOf p l=k:=by
 have:l.findIdx? p=some k:=by
  rw[List.findIdx?_eq_some_iff_getElem];refine⟨hk,by simpa[hk] using h2,λj hj=>?_⟩;have:=h1 j hj;have hjl:j<l.length:=by omega
  simpa[hjl] using this
 simp[idxOf,this]
theorem kZ{α:Type} [Inhabited α]{p:α->Bool}{l:List α}(h1:∀j,j<l.length->p (l.getD j default)=false):idxOf p l = -1:=by
 have:l.findIdx? p=none:=by rw[List.findIdx?_eq_none_iff];intro x hx;obtain⟨j,hj,rfl⟩:=List.getElem_of_mem hx;have:=h1 j hj;simpa[hj] using this
 simp[idxOf,this]
theorem kJ{α:Type}{p:α->Bool}{l:List α} : decide (0<=idxOf p l)=l.any p:=by
 unfold idxOf;cases h:l.findIdx? p with
 |none =>
  rw[List.findIdx?_eq_none_iff] at h;have:l.any p=false:=by simpa using h
  simp[this]
 |some i=>rw[List.findIdx?_eq_some_iff_getElem] at h;obtain⟨hi,h,_⟩:=h;have:l.any p=true:=List.any_eq_true.2 ⟨_,nI hi,h⟩;simp[this]
def pA(cs:List PV):PV:=.agg cs
def pV(cs:List PV):PV:=cs.getD 0 .emp
theorem aot(p:Attr->Bool)(l:List Attr)(hl:l.length<=1000000)(k:FuncId)(fs cs:List PV)(hp:∀x∈l,aS pw k (fs++[pA (aU x)]++cs) (λr=>r = .val (.bool (p x)))) :
  aS pw 345 [.aV (l.map aU),.iw (.func k) fs cs] (λr=>r = .val (.int .i64 (idxOf p l))):=by
 refine aQ [] func345 ?_;rw[ntmps345,results345];simp only[go_sem];refine bL (σ:=Nat) (λx=>(cE (cE (cE (cE fT 0 (.p (.aV (l.map aU)))) 1 (.p (.iw (.func k) fs cs))) 7 (.p (.val (.int .i64 l.length)))) 8 (.p (.val (.int .i64 x))))) (λx=>cm)
  (λx=>x<=l.length/\∀j,j<x->p (l.getD j default)=false) (λx=>l.length-x) 0 ⟨Nat.zero_le _,λj hj=>absurd hj (Nat.not_lt_zero j)⟩ bX ?_
 rintro x ⟨hx,hq⟩;simp only[go_sem];refine aK (λhc=>?_) (λhc=>?_)
 ·have hlt:x<l.length:=by simpa using hc
  simp only[go_sem,getD_map aU hlt,hlt,aU];refine aY (hp (l.getD x default) (by simp[hlt])) (by simp only[go_sem,jN,jM,aU,pA,Bool.or_false,Bool.false_or]<;>rfl) (b6 rfl) ?_;simp only[go_sem];refine aK (λhb=>?_) (λhb=>?_)<;>simp only[go_sem]
  ·exact (pn hlt hq hb).symm
  ·refine bM (x+1) ⟨hlt,λj hj=>?_⟩ (by omega) ?_
   ·rcases Nat.lt_succ_iff_lt_or_eq.1 hj with h|h
    ·exact hq j h
    ·rw[h];exact hb
   ·rw[bz hlt (by omega)];exact bX
 ·have hge:l.length<=x:=by simpa using hc
  simp only[go_sem,hc];rw[kZ λj hj=>hq j (by omega)]
theorem agJ(p:Attr->Bool)(l:List Attr)(hl:l.length<=1000000)(k:FuncId)(fs cs:List PV)(hp:∀x∈l,aS pw k (fs++[pA (aU x)]++cs) (λr=>r = .val (.bool (p x)))) :
  aS pw 288 [.aV (l.map aU),.iw (.func k) fs cs] (λr=>r = .val (.bool (l.any p))):=by
 refine aQ [] func288 ?_;rw[ntmps288,results288];simp only[go_sem];refine aY (aot p l hl k fs cs hp) (by simp only[go_sem]<;>rfl) (b6 rfl) ?_;simp only[go_sem];exact kJ
theorem aou(p:gB->Bool)(l:List gB)(hl:l.length<=1000000)(k:FuncId)(fs cs:List PV)(hp:∀x∈l,aS pw k (fs++[pA (aJ x)]++cs) (λr=>r = .val (.bool (p x)))) :
  aS pw 287 [.aV (l.map aJ),.iw (.func k) fs cs] (λr=>r = .val (.int .i64 (idxOf p l))):=by
 refine aQ [] func287 ?_;rw[ntmps287,results287];simp only[go_sem];refine bL (σ:=Nat) (λx=>(cE (cE (cE (cE fT 0 (.p (.aV (l.map aJ)))) 1 (.p (.iw (.func k) fs cs))) 7 (.p (.val (.int .i64 l.length)))) 8 (.p (.val (.int .i64 x))))) (λx=>cm)
  (λx=>x<=l.length/\∀j,j<x->p (l.getD j default)=false) (λx=>l.length-x) 0 ⟨Nat.zero_le _,λj hj=>absurd hj (Nat.not_lt_zero j)⟩ bX ?_
 rintro x ⟨hx,hq⟩;simp only[go_sem];refine aK (λhc=>?_) (λhc=>?_)
 ·have hlt:x<l.length:=by simpa using hc
  simp only[go_sem,getD_map aJ hlt,hlt,aJ];refine aY (hp (l.getD x default) (by simp[hlt])) (by simp only[go_sem,jN,jM,aJ,pA,Bool.or_false,Bool.false_or]<;>rfl) (b6 rfl) ?_;simp only[go_sem];refine aK (λhb=>?_) (λhb=>?_)<;>simp only[go_sem]
  ·exact (pn hlt hq hb).symm
  ·refine bM (x+1) ⟨hlt,λj hj=>?_⟩ (by omega) ?_
   ·rcases Nat.lt_succ_iff_lt_or_eq.1 hj with h|h
    ·exact hq j h
    ·rw[h];exact hb
   ·rw[bz hlt (by omega)];exact bX
 ·have hge:l.length<=x:=by simpa using hc
  simp only[go_sem,hc];rw[kZ λj hj=>hq j (by omega)]
theorem agK(p:gB->Bool)(l:List gB)(hl:l.length<=1000000)(k:FuncId)(fs cs:List PV)(hp:∀x∈l,aS pw k (fs++[pA (aJ x)]++cs) (λr=>r = .val (.bool (p x)))) :
  aS pw 219 [.aV (l.map aJ),.iw (.func k) fs cs] (λr=>r = .val (.bool (l.any p))):=by
 refine aQ [] func219 ?_;rw[ntmps219,results219];simp only[go_sem];refine aY (aou p l hl k fs cs hp) (by simp only[go_sem]<;>rfl) (b6 rfl) ?_;simp only[go_sem];exact kJ
theorem alg(p:lU->Bool)(l:List lU)(hl:l.length<=1000000)(k:FuncId)(fs cs:List PV)(hp:∀x∈l,aS pw k (fs++[pA (aL x)]++cs) (λr=>r = .val (.bool (p x)))) :
  aS pw 291 [.aV (l.map aL),.iw (.func k) fs cs] (λr=>r = .val (.int .i64 (idxOf p l))):=by
 refine aQ [] func291 ?_;rw[ntmps291,results291];simp only[go_sem];refine bL (σ:=Nat) (λx=>(cE (cE (cE (cE fT 0 (.p (.aV (l.map aL)))) 1 (.p (.iw (.func k) fs cs))) 7 (.p (.val (.int .i64 l.length)))) 8 (.p (.val (.int .i64 x))))) (λx=>cm)
  (λx=>x<=l.length/\∀j,j<x->p (l.getD j default)=false) (λx=>l.length-x) 0 ⟨Nat.zero_le _,λj hj=>absurd hj (Nat.not_lt_zero j)⟩ bX ?_
 rintro x ⟨hx,hq⟩;simp only[go_sem];refine aK (λhc=>?_) (λhc=>?_)
 ·have hlt:x<l.length:=by simpa using hc
  simp only[go_sem,getD_map aL hlt,hlt,aL];refine aY (hp (l.getD x default) (by simp[hlt])) (by simp only[go_sem,jN,jM,aL,pA,Bool.or_false,Bool.false_or]<;>rfl) (b6 rfl) ?_;simp only[go_sem];refine aK (λhb=>?_) (λhb=>?_)<;>simp only[go_sem]
  ·exact (pn hlt hq hb).symm
  ·refine bM (x+1) ⟨hlt,λj hj=>?_⟩ (by omega) ?_
   ·rcases Nat.lt_succ_iff_lt_or_eq.1 hj with h|h
    ·exact hq j h
    ·rw[h];exact hb
   ·rw[bz hlt (by omega)];exact bX
 ·have hge:l.length<=x:=by simpa using hc
  simp only[go_sem,hc];rw[kZ λj hj=>hq j (by omega)]
theorem aff(p:lU->Bool)(l:List lU)(hl:l.length<=1000000)(k:FuncId)(fs cs:List PV)(hp:∀x∈l,aS pw k (fs++[pA (aL x)]++cs) (λr=>r = .val (.bool (p x)))) :
  aS pw 224 [.aV (l.map aL),.iw (.func k) fs cs] (λr=>r = .val (.bool (l.any p))):=by
 refine aQ [] func224 ?_;rw[ntmps224,results224];simp only[go_sem];refine aY (alg p l hl k fs cs hp) (by simp only[go_sem]<;>rfl) (b6 rfl) ?_;simp only[go_sem];exact kJ
theorem aov(p:Edge->Bool)(l:List Edge)(hl:l.length<=1000000)(k:FuncId)(fs cs:List PV)(hp:∀x∈l,aS pw k (fs++[pA (aZ x)]++cs) (λr=>r = .val (.bool (p x)))) :
  aS pw 292 [.aV (l.map aZ),.iw (.func k) fs cs] (λr=>r = .val (.int .i64 (idxOf p l))):=by
 refine aQ [] func292 ?_;rw[ntmps292,results292];simp only[go_sem];refine bL (σ:=Nat) (λx=>(cE (cE (cE (cE fT 0 (.p (.aV (l.map aZ)))) 1 (.p (.iw (.func k) fs cs))) 7 (.p (.val (.int .i64 l.length)))) 8 (.p (.val (.int .i64 x))))) (λx=>cm)
  (λx=>x<=l.length/\∀j,j<x->p (l.getD j default)=false) (λx=>l.length-x) 0 ⟨Nat.zero_le _,λj hj=>absurd hj (Nat.not_lt_zero j)⟩ bX ?_
 rintro x ⟨hx,hq⟩;simp only[go_sem];refine aK (λhc=>?_) (λhc=>?_)
 ·have hlt:x<l.length:=by simpa using hc
  simp only[go_sem,getD_map aZ hlt,hlt,aZ];refine aY (hp (l.getD x default) (by simp[hlt])) (by simp only[go_sem,jN,jM,aZ,pA,Bool.or_false,Bool.false_or]<;>rfl) (b6 rfl) ?_;simp only[go_sem];refine aK (λhb=>?_) (λhb=>?_)<;>simp only[go_sem]
  ·exact (pn hlt hq hb).symm
  ·refine bM (x+1) ⟨hlt,λj hj=>?_⟩ (by omega) ?_
   ·rcases Nat.lt_succ_iff_lt_or_eq.1 hj with h|h
    ·exact hq j h
    ·rw[h];exact hb
   ·rw[bz hlt (by omega)];exact bX
 ·have hge:l.length<=x:=by simpa using hc
  simp only[go_sem,hc];rw[kZ λj hj=>hq j (by omega)]
theorem agL(p:Edge->Bool)(l:List Edge)(hl:l.length<=1000000)(k:FuncId)(fs cs:List PV)(hp:∀x∈l,aS pw k (fs++[pA (aZ x)]++cs) (λr=>r = .val (.bool (p x)))) :
  aS pw 229 [.aV (l.map aZ),.iw (.func k) fs cs] (λr=>r = .val (.bool (l.any p))):=by
 refine aQ [] func229 ?_;rw[ntmps229,results229];simp only[go_sem];refine aY (aov p l hl k fs cs hp) (by simp only[go_sem]<;>rfl) (b6 rfl) ?_;simp only[go_sem];exact kJ
theorem asM(p:Int->Bool)(l:List Int)(hl:l.length<=1000000)(k:FuncId)(fs cs:List PV)(hp:∀x∈l,aS pw k (fs++[pV (encI x)]++cs) (λr=>r = .val (.bool (p x)))) :
  aS pw 123 [.aV (l.map encI),.iw (.func k) fs cs] (λr=>r = .val (.int .i64 (idxOf p l))):=by
 refine aQ [] func123 ?_;rw[ntmps123,results123];simp only[go_sem];refine bL (σ:=Nat) (λx=>(cE (cE (cE (cE fT 0 (.p (.aV (l.map encI)))) 1 (.p (.iw (.func k) fs cs))) 7 (.p (.val (.int .i64 l.length)))) 8 (.p (.val (.int .i64 x))))) (λx=>cm)
  (λx=>x<=l.length/\∀j,j<x->p (l.getD j default)=false) (λx=>l.length-x) 0 ⟨Nat.zero_le _,λj hj=>absurd hj (Nat.not_lt_zero j)⟩ bX ?_
 rintro x ⟨hx,hq⟩;simp only[go_sem];refine aK (λhc=>?_) (λhc=>?_)
 ·have hlt:x<l.length:=by simpa using hc
  simp only[go_sem,getD_map encI hlt,hlt,encI];refine aY (hp (l.getD x default) (by simp[hlt])) (by simp only[go_sem,jN,jM,encI,pV,Bool.or_false,Bool.false_or]<;>rfl) (b6 rfl) ?_;simp only[go_sem];refine aK (λhb=>?_) (λhb=>?_)<;>simp only[go_sem]
  ·exact (pn hlt hq hb).symm
  ·refine bM (x+1) ⟨hlt,λj hj=>?_⟩ (by omega) ?_
   ·rcases Nat.lt_succ_iff_lt_or_eq.1 hj with h|h
    ·exact hq j h
    ·rw[h];exact hb
   ·rw[bz hlt (by omega)];exact bX
 ·have hge:l.length<=x:=by simpa using hc
  simp only[go_sem,hc];rw[kZ λj hj=>hq j (by omega)]
theorem ab1(p:Int->Bool)(l:List Int)(hl:l.length<=1000000)(k:FuncId)(fs cs:List PV)(hp:∀x∈l,aS pw k (fs++[pV (encI x)]++cs) (λr=>r = .val (.bool (p x)))) :
  aS pw 65 [.aV (l.map encI),.iw (.func k) fs cs] (λr=>r = .val (.bool (l.any p))):=by
 refine aQ [] func65 ?_;rw[ntmps65,results65];simp only[go_sem];refine aY (asM p l hl k fs cs hp) (by simp only[go_sem]<;>rfl) (b6 rfl) ?_;simp only[go_sem];exact kJ
theorem aCA(l:List Int)(y:Int)(hl:l.length<=1000000) :
  aS pw 63 [.aV (l.map encI),.val (.int .i64 y)] (λr=>r = .val (.int .i64 (idxOf (λx=>decide (y=x)) l))):=by
 refine aQ [] func63 ?_;rw[ntmps63,results63];simp only[go_sem];refine bL (σ:=Nat) (λx=>(cE (cE (cE (cE fT 0 (.p (.aV (l.map encI)))) 1 (.p (.val (.int .i64 y)))) 7 (.p (.val (.int .i64 l.length)))) 8 (.p (.val (.int .i64 x))))) (λx=>cm)
  (λx=>x<=l.length/\∀j,j<x->decide (y=l.getD j default)=false) (λx=>l.length-x) 0 ⟨Nat.zero_le _,λj hj=>absurd hj (Nat.not_lt_zero j)⟩ bX ?_
 rintro x ⟨hx,hq⟩;simp only[go_sem];refine aK (λhc=>?_) (λhc=>?_)
 ·have hlt:x<l.length:=by simpa using hc
  simp only[go_sem,getD_map encI hlt,hlt,encI];refine aK (λhb=>?_) (λhb=>?_)<;>simp only[go_sem]
  ·exact (pn (p:=λx=>decide (y=x)) hlt hq hb).symm
  ·refine bM (x+1) ⟨hlt,λj hj=>?_⟩ (by omega) ?_
   ·rcases Nat.lt_succ_iff_lt_or_eq.1 hj with h|h
    ·exact hq j h
    ·rw[h];exact hb
   ·rw[bz hlt (by omega)];exact bX
 ·have hge:l.length<=x:=by simpa using hc
  simp only[go_sem,hc];rw[kZ λj hj=>hq j (by omega)]
theorem aAD(l:List Int)(y:Int)(hl:l.length<=1000000) :
  aS pw 25 [.aV (l.map encI),.val (.int .i64 y)] (λr=>r = .val (.bool (l.any λx=>decide (y=x)))):=by
 refine aQ [] func25 ?_;rw[ntmps25,results25];simp only[go_sem];refine aY (aCA l y hl) (by simp only[go_sem]<;>rfl) (b6 rfl) ?_;simp only[go_sem];exact kJ
theorem aCB(l:List ByteArray)(y:ByteArray)(hl:l.length<=1000000) :
  aS pw 403 [.aV (l.map iG),.val (.string y)] (λr=>r = .val (.int .i64 (idxOf (λx=>decide (y=x)) l))):=by
 refine aQ [] func403 ?_;rw[ntmps403,results403];simp only[go_sem];refine bL (σ:=Nat) (λx=>(cE (cE (cE (cE fT 0 (.p (.aV (l.map iG)))) 1 (.p (.val (.string y)))) 7 (.p (.val (.int .i64 l.length)))) 8 (.p (.val (.int .i64 x))))) (λx=>cm)
  (λx=>x<=l.length/\∀j,j<x->decide (y=l.getD j default)=false) (λx=>l.length-x) 0 ⟨Nat.zero_le _,λj hj=>absurd hj (Nat.not_lt_zero j)⟩ bX ?_
 rintro x ⟨hx,hq⟩;simp only[go_sem];refine aK (λhc=>?_) (λhc=>?_)
 ·have hlt:x<l.length:=by simpa using hc
  simp only[go_sem,getD_map iG hlt,hlt,iG];refine aK (λhb=>?_) (λhb=>?_)<;>simp only[go_sem]
  ·exact (pn (p:=λx=>decide (y=x)) hlt hq hb).symm
  ·refine bM (x+1) ⟨hlt,λj hj=>?_⟩ (by omega) ?_
   ·rcases Nat.lt_succ_iff_lt_or_eq.1 hj with h|h
    ·exact hq j h
    ·rw[h];exact hb
   ·rw[bz hlt (by omega)];exact bX
 ·have hge:l.length<=x:=by simpa using hc
  simp only[go_sem,hc];rw[kZ λj hj=>hq j (by omega)]
theorem aqh(l:List ByteArray)(y:ByteArray)(hl:l.length<=1000000) :
  aS pw 346 [.aV (l.map iG),.val (.string y)] (λr=>r = .val (.bool (l.any λx=>decide (y=x)))):=by
 refine aQ [] func346 ?_;rw[ntmps346,results346];simp only[go_sem];refine aY (aCB l y hl) (by simp only[go_sem]<;>rfl) (b6 rfl) ?_;simp only[go_sem];exact kJ
theorem afg(n:Int):aS pw 399 [.val (.int .u8 n)] (λr=>r = .val (.bool (vL n))):=by
 unfold vL;refine aQ [] func399 ?_;rw[ntmps399,results399];simp only[go_sem]
 repeat' first|done|(refine bU (λh=>?_) (λh=>?_)<;>try simp only[go_sem,h])|(refine bP (λh=>?_) (λh=>?_)<;>try simp only[go_sem,h])|(refine aW (λh=>?_) (λh=>?_)<;>try simp only[go_sem,h])|(refine aK (λh=>?_) (λh=>?_)<;>try simp only[go_sem,h])
theorem aAE(n:Int):aS pw 398 [.val (.int .u8 n)] (λr=>r = .val (.bool (aaN n))):=by
 unfold aaN;refine aQ [] func398 ?_;rw[ntmps398,results398];simp only[go_sem];refine aY (ahs n) (by simp only[go_sem]<;>rfl) (b6 rfl) ?_;simp only[go_sem];refine bU (λh=>?_) (λh=>?_)<;>simp only[go_sem,h]
 refine aY (afg n) (by simp only[go_sem]<;>rfl) (b6 rfl) ?_;simp only[go_sem];refine bU (λh=>?_) (λh=>?_)<;>simp only[go_sem,h]
def alh(n:Int):Bool:=(decide (32<=n)&&decide (n<=126)) && !decide (n=34)
theorem aw2(n:Int):aS pw 431 [.val (.int .u8 n)] (λr=>r = .val (.bool (alh n))):=by
 unfold alh;refine aQ [] func431 ?_;rw[ntmps431,results431];simp only[go_sem]
 repeat' first|done|(refine bU (λh=>?_) (λh=>?_)<;>try simp only[go_sem,h])|(refine bP (λh=>?_) (λh=>?_)<;>try simp only[go_sem,h])|(refine aW (λh=>?_) (λh=>?_)<;>try simp only[go_sem,h])|(refine aK (λh=>?_) (λh=>?_)<;>try simp only[go_sem,h])
def aed(p:Int->Bool)(s:ByteArray)(a:Nat):Nat:=((List.range (s.size-a)).takeWhile λj=>p (lu s (a+j))).length
theorem aee(q:Nat->Bool):∀ (m n:Nat),n<=m->(∀j,j<n->q j=true)->(n=m\/q n=false)->((List.range m).takeWhile q).length=n:=by
 intro m n hn h1 h2;have e:List.range m=List.range n++(List.range (m-n)).map (n + ·):=by rw[<-List.range_add];congr 1;omega
 rw[e,List.takeWhile_append_of_pos (by intro j hj;exact h1 j (List.mem_range.1 hj))];rcases h2 with rfl|h2
 ·simp
 ·cases hm:m-n with
  |zero=>simp
  |succ r=>simp[List.range_succ_eq_map,h2]
theorem aes{p:Int->Bool}{s:ByteArray}{a n:Nat}(hn:a+n<=s.size)(h1:∀j,j<n->p (lu s (a+j))=true)(h2:a+n=s.size\/p (lu s (a+n))=false):aed p s a=n:=aee _ _ _ (by omega) h1 (by rcases h2 with h|h;exact .inl (by omega);exact .inr h)
theorem ai5(p:Int->Bool)(s:ByteArray)(a:Nat):aed p s a<=s.size-a:=by unfold aed;exact Nat.le_trans (List.takeWhile_sublist _).length_le (by simp)
theorem aow(p:Int->Bool)(s:ByteArray)(hl:s.size<=1000000)(k:FuncId)(fs cs:List PV)(hp:∀n,aS pw k (fs++[.val (.int .u8 n)]++cs) (λr=>r = .val (.bool (p n)))) :
  aS pw 397 [.val (.string s),.iw (.func k) fs cs] (λr=>r = .val (.int .i64 (aed p s 0))):=by
 refine aQ [] func397 ?_;rw[ntmps397,results397];simp only[go_sem];refine bL (σ:=Nat) (λx=>(cE (cE (cE fT 0 (.p (.val (.string s)))) 1 (.p (.iw (.func k) fs cs))) 5 (.p (.val (.int .i64 x))))) (λx=>cm)
  (λx=>x<=s.size/\∀j,j<x->p (lu s (0+j))=true) (λx=>s.size-x) 0 ⟨Nat.zero_le _,λj hj=>absurd hj (Nat.not_lt_zero j)⟩ bX ?_
 rintro x ⟨hx,hq⟩;simp only[go_sem];refine bP (λhc=>?_) (λhc=>?_)
 ·have hlt:x<s.size:=by simpa using hc
  simp only[go_sem,hlt,hc];refine aY (hp (lu s x)) (by simp only[go_sem,jN,jM,Bool.or_false,Bool.false_or]<;>rfl) (b6 rfl) ?_;simp only[go_sem,hc];refine aK (λhb=>?_) (λhb=>?_)<;>simp only[go_sem]
  ·refine bM (x+1) ⟨hlt,λj hj=>?_⟩ (by omega) ?_
   ·rcases Nat.lt_succ_iff_lt_or_eq.1 hj with h|h
    ·simpa using hq j h
    ·rw[h];exact hb
   ·rw[bz hlt (by omega)];exact bX
  ·rw[aes (by omega) hq (.inr (by rw[Nat.zero_add];exact hb))]
 ·have hge:s.size<=x:=by simpa using hc
  simp only[go_sem,hc];rw[aes (by omega) hq (.inl (by omega))]
theorem asN(s:ByteArray)(hl:s.size<=1000000)(h0:0<s.size):aS pw 400 [.val (.string s)] (λr=>∃n e:Int,r = .dQ [.val (.int .i64 n),.val (.int .i64 e)]):=by
 have h1:((s.extract 1 s.size).size:Int)=s.size-1:=by simp;omega
 have h2:=ai5 alh (s.extract 1 s.size) 0;generalize hm:aed alh (s.extract 1 s.size) 0=m at h2;have h3:i64.wrap (1+(m:Int))=((m+1:Nat):Int):=by rw[IntWalk.i64_in _ (by omega)];omega
 refine aQ [] func400 ?_;rw[ntmps400,results400];simp only[go_sem];refine⟨⟨by omega,by omega,by omega⟩,?_⟩;refine aY (aow alh (s.extract 1 s.size) (by simp;omega) _ [] [] aw2) (by simp only[go_sem]<;>rfl) (b6 rfl) ?_;simp only[go_sem,hm,h3];refine bU (λh=>?_) (λh=>?_)
 ·simp only[go_sem,h];exact⟨_,_,rfl,rfl⟩
 ·have hne:m+1≠s.size:=by intro e;rw[e] at h;simp at h
  have hlt:m+1<s.size:=by simp at h2;omega
  simp only[go_sem,h,h3,hlt];refine aK (λhb=>?_) (λhb=>?_)<;>simp only[go_sem]
  ·exact⟨_,_,rfl,rfl⟩
  ·refine aK (λhb=>?_) (λhb=>?_)<;>simp only[go_sem]
   ·exact⟨_,_,rfl,rfl⟩
   ·exact⟨_,_,rfl,rfl⟩
def aEh:List ByteArray:=[⟨#[45,62]⟩,⟨#[60,61]⟩,⟨#[62,61]⟩,⟨#[61,61]⟩,⟨#[33,61]⟩]
theorem aAF(s:ByteArray):aS pw 401 [.val (.string s)] (λr=>∃b:Bool,r = .val (.bool b)):=by
 refine aQ [] func401 ?_;rw[ntmps401,results401];simp only[go_sem];refine bP (λh=>?_) (λh=>?_)
 ·have h2:(2:Int)<=s.size:=cu h;simp only[go_sem,h];refine⟨⟨by decide,by decide,h2⟩,?_⟩;refine aY (aqh aEh (s.extract 0 2) (by decide)) (by simp only[go_sem]<;>rfl) (b6 rfl) ?_;simp only[go_sem,h];all_goals exact⟨_,rfl⟩
 ·simp only[go_sem,h];all_goals exact⟨_,rfl⟩
theorem aAG(s:ByteArray)(n:Int):aCi pw 443 [.val (.string s),.val (.int .u8 n)] (.val (.int .i64 (Lib.indexByte s.data.toList n.toNat.toUInt8))):=by
 intro I w us hu;obtain⟨hl,hv⟩:=hu
 match us,hl,hv with
 | [a,b],_,hv=>have ha:=hv 0 a _ rfl rfl;have hb:=hv 1 b _ rfl rfl;cases ha;cases hb;refine⟨_,?_,.val _ rfl⟩;rw[run_callFunc_extern func443 (by kernel_rfl) (by kernel_rfl) (by kernel_rfl) (e:=Extern.BytealgIndexByte.indexByte) (by kernel_rfl)];rw[Lib.run_indexByteString];try rfl
theorem aAH(s:ByteArray)(n:Int):aS pw 432 [.val (.string s),.val (.int .u8 n)] (λr=>∃m:Int,r = .val (.int .i64 m)):=by refine aQ [] func432 ?_;rw[ntmps432,results432];simp only[go_sem];refine awB (aAG s n) rfl ?_;simp only[go_sem];all_goals exact⟨_,rfl⟩
theorem aAI(s:ByteArray)(n:Int):aS pw 402 [.val (.string s),.val (.int .u8 n)] (λr=>∃m:Int,r = .val (.int .i64 m)):=by refine aQ [] func402 ?_;rw[ntmps402,results402];simp only[go_sem];refine sj (aAH s n) (by simp only[go_sem]<;>rfl) ?_;rintro r ⟨m,rfl⟩;refine⟨b6 rfl,?_⟩;simp only[go_sem];all_goals exact⟨_,rfl⟩
def lD(s:ByteArray):Bool:=decide (s.size≠0)&&qo (lu s 0)&&decide (aed aaN s 0=s.size)&&decide (s.size<=20)
theorem aan(s:ByteArray):lD s=true↔s.size≠0/\qo (lu s 0)=true/\aed aaN s 0=s.size/\s.size<=20:=by unfold lD;simp only[Bool.and_eq_true,decide_eq_true_eq,and_assoc]
theorem aAJ(s:ByteArray)(hl:s.size<=1000000)(h0:0<s.size):aS pw 344 [.val (.string s)] (λr =>
  ∃k n e:Int,r = .dQ [.val (.int .i64 k),.val (.int .i64 n),.val (.int .i64 e)]/\((e=0/\k=1/\n=s.size)↔lD s=true)):=by
 have h0':(0:Int)<s.size:=by omega
 refine aQ [] func344 ?_;rw[ntmps344,results344];simp only[go_sem];refine⟨⟨by decide,h0'⟩,?_⟩;refine aY (ahs (lu s 0)) (by simp only[go_sem]<;>rfl) (b6 rfl) ?_;simp only[go_sem];refine aK (λhc=>?_) (λhc=>?_)<;>simp only[go_sem]
 ·refine aY (aow aaN s hl _ [] [] aAE) (by simp only[go_sem]<;>rfl) (b6 rfl) ?_;simp only[go_sem];refine aK (λhd=>?_) (λhd=>?_)<;>simp only[go_sem]
  ·have hd':=cu hd;refine⟨_,_,_,⟨rfl,rfl,rfl⟩,?_⟩;rw[aan];constructor
   ·rintro⟨h,_⟩;omega
   ·rintro⟨_,_,h1,h2⟩;omega
  ·have hd':=en hd;refine⟨_,_,_,⟨rfl,rfl,rfl⟩,?_⟩;rw[aan];constructor
   ·rintro⟨_,_,h⟩;exact⟨by omega,hc,by omega,by omega⟩
   ·rintro⟨_,_,h1,h2⟩;exact⟨rfl,rfl,by omega⟩
 ·have hn:lD s=false:=by simp[lD,hc]
  refine aY (afg (lu s 0)) (by simp only[go_sem]<;>rfl) (b6 rfl) ?_;simp only[go_sem];refine aK (λhd=>?_) (λhd=>?_)<;>simp only[go_sem]
  ·refine aY (aow vL s hl _ [] [] afg) (by simp only[go_sem]<;>rfl) (b6 rfl) ?_;simp only[go_sem];refine aK (λhd=>?_) (λhd=>?_)<;>simp only[go_sem]
   ·exact⟨_,_,_,⟨rfl,rfl,rfl⟩,by simp[hn]⟩
   ·exact⟨_,_,_,⟨rfl,rfl,rfl⟩,by simp[hn]⟩
  ·refine aK (λhq=>?_) (λhq=>?_)<;>simp only[go_sem]
   ·refine sj (asN s hl h0) (by simp only[go_sem]<;>rfl) ?_;rintro r ⟨n,e,rfl⟩;refine⟨b6 rfl,?_⟩;simp only[go_sem];exact⟨_,_,_,⟨rfl,rfl,rfl⟩,by simp[hn]⟩
   ·refine sj (aAF s) (by simp only[go_sem]<;>rfl) ?_;rintro r ⟨b,rfl⟩;refine⟨b6 rfl,?_⟩;simp only[go_sem];refine aK (λhp=>?_) (λhp=>?_)<;>simp only[go_sem]
    ·exact⟨_,_,_,⟨rfl,rfl,rfl⟩,by simp[hn]⟩
    ·refine sj (aAI _ _) (by simp only[go_sem]<;>rfl) ?_;rintro r ⟨b,rfl⟩;refine⟨b6 rfl,?_⟩;simp only[go_sem];refine aK (λhp=>?_) (λhp=>?_)<;>simp only[go_sem]
     ·exact⟨_,_,_,⟨rfl,rfl,rfl⟩,by simp[hn]⟩
     ·exact⟨_,_,_,⟨rfl,rfl,rfl⟩,by simp[hn]⟩
def okT(b:Bool):PV:=.val (.bool b)
theorem aw3(s:ByteArray)(hl:s.size<=1000000):aS pw 286 [.agg [.val (.int .i64 1),.val (.string s),.val (.int .i64 0)]] (λr=>∃u:ByteArray,r = .dQ [.val (.string u),.val (.bool (lD s))]):=by
 refine aQ [] func286 ?_;rw[ntmps286,results286];simp only[go_sem,Int.reduceEq];refine aK (λhc=>?_) (λhc=>?_)<;>simp only[go_sem]
 ·have he:s=⟨#[]⟩:=cu hc;have:lD s=false:=by rw[he];try rfl
  rw[this];exact⟨_,rfl,rfl⟩
 ·have he:s≠⟨#[]⟩:=en hc;have h0:0<s.size:=by
   rcases Nat.eq_zero_or_pos s.size with h|h
   ·exact absurd (ByteArray.ext (Array.eq_empty_of_size_eq_zero h)) he
   ·exact h
  refine sj (aAJ s hl h0) (by simp only[go_sem]<;>rfl) ?_;rintro r ⟨k,n,e,rfl,hiff⟩;refine⟨b6 rfl,?_⟩;have hn:lD s=((decide (e=0)&&decide (k=1))&&decide (n=s.size)):=by rw[Bool.eq_iff_iff,<-hiff];simp only[Bool.and_eq_true,decide_eq_true_eq,and_assoc]
  rw[hn];simp only[go_sem];refine bP (λh=>?_) (λh=>?_)<;>simp only[go_sem,h,exists_eq',exists_and_right,and_true,true_and]
  refine bP (λh'=>?_) (λh'=>?_)<;>simp only[go_sem,h,h',exists_eq',exists_and_right,and_true,true_and]
theorem aao(s:ByteArray)(hl:s.size<=1000000):aS pw 218 [.val (.string s)] (λr=>r = .val (.bool (lD s))):=by refine aQ [] func218 ?_;rw[ntmps218,results218];simp only[go_sem];refine sj (aw3 s hl) (by simp only[go_sem]<;>rfl) ?_;rintro r ⟨u,rfl⟩;refine⟨b6 rfl,?_⟩;simp only[go_sem]
theorem afh(n:Int):aS pw 404 [.val (.int .u8 n)] (λr=>r = .val (.bool (qo n))):=by
 unfold qo;refine aQ [] func404 ?_;rw[ntmps404,results404];simp only[go_sem]
 repeat' first|done|(refine bU (λh=>?_) (λh=>?_)<;>try simp only[go_sem,h])|(refine bP (λh=>?_) (λh=>?_)<;>try simp only[go_sem,h])|(refine aW (λh=>?_) (λh=>?_)<;>try simp only[go_sem,h])|(refine aK (λh=>?_) (λh=>?_)<;>try simp only[go_sem,h])
theorem tQ(n:Int):aS pw 405 [.val (.int .u8 n)] (λr=>r = .val (.bool (vL n))):=by
 unfold vL;refine aQ [] func405 ?_;rw[ntmps405,results405];simp only[go_sem]
 repeat' first|done|(refine bU (λh=>?_) (λh=>?_)<;>try simp only[go_sem,h])|(refine bP (λh=>?_) (λh=>?_)<;>try simp only[go_sem,h])|(refine aW (λh=>?_) (λh=>?_)<;>try simp only[go_sem,h])|(refine aK (λh=>?_) (λh=>?_)<;>try simp only[go_sem,h])
def ry(digits:Bool)(n:Int):Bool:=vL n||(!digits&&(qo n||decide (n=95)))
theorem ai6:ry false=aaN:=by funext n;unfold ry aaN;cases vL n<;>cases qo n<;>simp
theorem aqi(s:ByteArray)(hl:s.size<=1000000)(b:Bool) :
  aS pw 406 [.val (.string s),.val (.int .i64 0),.val (.bool b)] (λr=>r = .val (.int .i64 (aed (ry b) s 0))):=by
 refine aQ [] func406 ?_;rw[ntmps406,results406];simp only[go_sem];refine bL (σ:=Nat) (λx=>(cE (cE (cE (cE fT 0 (.p (.val (.string s)))) 1 (.p (.val (.int .i64 0)))) 2 (.p (.val (.bool b)))) 7 (.p (.val (.int .i64 x))))) (λx=>cm)
  (λx=>x<=s.size/\∀j,j<x->ry b (lu s (0+j))=true) (λx=>s.size-x) 0 ⟨Nat.zero_le _,λj hj=>absurd hj (Nat.not_lt_zero j)⟩ bX ?_
 rintro x ⟨hx,hq⟩;have hw:i64.wrap (0+(x:Int))=x:=by rw[IntWalk.i64_in _ (by omega)];omega
 simp only[go_sem,hw];refine bP (λhc=>?_) (λhc=>?_)
 ·have hlt:x<s.size:=by simpa using hc
  have fin (h:ry b (lu s x)=false):((x:Nat):Int)=(aed (ry b) s 0:Nat):=by rw[aes (by omega) hq (.inr (by rw[Nat.zero_add];exact h))]
  simp only[go_sem,hlt,hc,hw];refine aY (tQ (lu s x)) (by simp only[go_sem]<;>rfl) (b6 rfl) ?_;simp only[go_sem,hc,hw];refine bU (λh1=>?_) (λh1=>?_)<;>simp only[go_sem,h1,hc,hw]
  ·refine bM (x+1) ⟨hlt,λj hj=>?_⟩ (by omega) ?_
   ·rcases Nat.lt_succ_iff_lt_or_eq.1 hj with h|h
    ·simpa using hq j h
    ·rw[h];simp[ry,h1]
   ·rw[bz hlt (by omega)];exact bX
  ·refine bU (λh2=>?_) (λh2=>?_)<;>simp only[go_sem,h1,h2,hc,hw]
   ·subst h2;exact fin (by simp[ry,h1])
   ·subst h2;refine⟨hlt,?_⟩;refine aY (afh (lu s x)) (by simp only[go_sem]<;>rfl) (b6 rfl) ?_;simp only[go_sem,hc,hw];refine bU (λh3=>?_) (λh3=>?_)<;>simp only[go_sem,h1,h3,hc,hw,hlt]
    ·refine bM (x+1) ⟨hlt,λj hj=>?_⟩ (by omega) ?_
     ·rcases Nat.lt_succ_iff_lt_or_eq.1 hj with h|h
      ·simpa using hq j h
      ·rw[h];simp[ry,h3]
     ·rw[bz hlt (by omega)];exact bX
    ·refine aK (λh4=>?_) (λh4=>?_)<;>simp only[go_sem]
     ·refine bM (x+1) ⟨hlt,λj hj=>?_⟩ (by omega) ?_
      ·rcases Nat.lt_succ_iff_lt_or_eq.1 hj with h|h
       ·simpa using hq j h
       ·rw[h];simp[ry,h4]
      ·rw[bz hlt (by omega)];exact bX
     ·exact fin (by simp[ry,h1,h3,h4])
 ·have hge:s.size<=x:=by simpa using hc
  simp only[go_sem,hc];rw[aes (by omega) hq (.inl (by omega))]
theorem aox(s:ByteArray)(hl:s.size<=1000000):aS pw 407 [.val (.string s),.val (.int .i64 0)] (λr=>∃n:Nat,r = .val (.int .i64 n)/\(n=0\/(2<=n/\n<=s.size))):=by
 refine aQ [] func407 ?_;rw[ntmps407,results407];simp only[go_sem];refine bL (σ:=Nat) (λx=>(cE (cE (cE fT 0 (.p (.val (.string s)))) 1 (.p (.val (.int .i64 0)))) 5 (.p (.val (.int .i64 x))))) (λx=>cm)
  (λx=>1<=x/\x<=s.size+1) (λx=>s.size+1-x) 1 ⟨Nat.le_refl _,by omega⟩ bX ?_
 rintro x ⟨hx1,hx⟩;have hw:i64.wrap (0+(x:Int))=x:=by rw[IntWalk.i64_in _ (by omega)];omega
 simp only[go_sem,hw];refine aK (λhc=>?_) (λhc=>?_)
 ·have hlt:x<s.size:=by simpa using hc
  simp only[go_sem,hlt,hw];refine aK (λh1=>?_) (λh1=>?_)<;>simp only[go_sem]
  ·rw[bz hlt (by omega)];exact⟨x+1,rfl,.inr ⟨by omega,by omega⟩⟩
  ·refine bU (λh2=>?_) (λh2=>?_)<;>simp only[go_sem,h2]
   ·exact⟨0,rfl,.inl rfl⟩
   ·refine aK (λh3=>?_) (λh3=>?_)<;>simp only[go_sem]
    ·exact⟨0,rfl,.inl rfl⟩
    ·refine bM (x+1) ⟨by omega,by omega⟩ (by omega) ?_;rw[bz hlt (by omega)];exact bX
 ·simp only[go_sem];exact⟨0,rfl,.inl rfl⟩
def ab2:List ByteArray:=[⟨#[45,62]⟩,⟨#[60,61]⟩,⟨#[62,61]⟩,⟨#[61,61]⟩,⟨#[33,61]⟩,⟨#[123]⟩,⟨#[125]⟩,⟨#[40]⟩,⟨#[41]⟩,⟨#[91]⟩,⟨#[93]⟩,⟨#[44]⟩,⟨#[59]⟩,⟨#[58]⟩,⟨#[61]⟩,⟨#[43]⟩,⟨#[45]⟩,⟨#[42]⟩,⟨#[60]⟩,⟨#[62]⟩,⟨#[33]⟩,⟨#[38]⟩,⟨#[124]⟩,⟨#[46]⟩,⟨#[63]⟩]
theorem aw4:aS pw 408 [] (λr=>r = .aV (ab2.map iG)):=by refine aQ [] func408 ?_;rw[ntmps408,results408];simp only[go_sem];try rfl
theorem ai7{n:Int}(h:qo n=true):vL n=false:=by unfold qo vL at *;simp at *;omega
theorem aCC(s:ByteArray)(hl:s.size<=1000000)(h0:0<s.size):aS pw 349 [.val (.string s),.val (.int .i64 0)] (λr =>
  ∃ (k n e:Int) (u:ByteArray),r = .dQ [.agg [.val (.int .i64 k),.val (.string u),.val (.int .i64 0)],.val (.int .i64 n),.val (.int .i64 e)]/\((e=0/\k=1/\n=s.size)↔lD s=true)):=by
 have h0':(0:Int)<s.size:=by omega
 refine aQ [] func349 ?_;rw[ntmps349,results349];simp only[go_sem];refine⟨⟨by decide,h0'⟩,?_⟩;refine aY (afh (lu s 0)) (by simp only[go_sem]<;>rfl) (b6 rfl) ?_;simp only[go_sem];refine bU (λh1=>?_) (λh1=>?_)<;>simp only[go_sem,h1]
 ·have hd:=ai7 h1;refine aY (tQ (lu s 0)) (by simp only[go_sem]<;>rfl) (b6 rfl) ?_;simp only[go_sem,hd];refine aY (aqi s hl false) (by simp only[go_sem]<;>rfl) (b6 rfl) ?_;simp only[go_sem,ai6];refine aY (tQ (lu s 0)) (by simp only[go_sem]<;>rfl) (b6 rfl) ?_;simp only[go_sem,hd];refine aK (λh2=>?_) (λh2=>?_)<;>simp only[go_sem]
  ·have hd':=cu h2;refine⟨_,_,_,_,⟨⟨rfl,rfl⟩,rfl,rfl⟩,?_⟩;rw[aan];constructor
   ·rintro⟨h,_⟩;omega
   ·rintro⟨_,_,h3,h4⟩;omega
  ·have hd':=en h2;have hr:=ai5 aaN s 0;have hw:i64.wrap (0+(aed aaN s 0:Int))=aed aaN s 0:=by rw[IntWalk.i64_in _ (by omega)];omega
   rw[hw];refine⟨⟨by omega,by omega,by omega⟩,_,_,_,_,⟨⟨rfl,rfl⟩,rfl,rfl⟩,?_⟩;rw[aan];constructor
   ·rintro⟨_,_,h⟩;exact⟨by omega,h1,by omega,by omega⟩
   ·rintro⟨_,_,h3,h4⟩;exact⟨rfl,rfl,by omega⟩
 ·have hn:lD s=false:=by simp[lD,h1]
  rw[hn];refine aY (tQ (lu s 0)) (by simp only[go_sem]<;>rfl) (b6 rfl) ?_;simp only[go_sem];refine aK (λh2=>?_) (λh2=>?_)<;>simp only[go_sem]
  ·refine aY (tQ (lu s 0)) (by simp only[go_sem]<;>rfl) (b6 rfl) ?_;simp only[go_sem,h2];refine aY (aqi s hl true) (by simp only[go_sem]<;>rfl) (b6 rfl) ?_;simp only[go_sem];refine aY (tQ (lu s 0)) (by simp only[go_sem]<;>rfl) (b6 rfl) ?_;simp only[go_sem,h2];have hr:=ai5 (ry true) s 0;generalize aed (ry true) s 0=m at hr;have hw:i64.wrap (0+(m:Int))=m:=by rw[IntWalk.i64_in _ (by omega)];omega
   refine aK (λh2=>?_) (λh2=>?_)<;>simp only[go_sem,hw]
   ·exact⟨_,_,_,_,⟨⟨rfl,rfl⟩,rfl,rfl⟩,by simp⟩
   ·exact⟨by omega,_,_,_,_,⟨⟨rfl,rfl⟩,rfl,rfl⟩,by simp⟩
  ·refine aK (λh3=>?_) (λh3=>?_)<;>simp only[go_sem]
   ·refine sj (aox s hl) (by simp only[go_sem]<;>rfl) ?_;rintro r ⟨n,rfl,hr⟩;refine⟨b6 rfl,?_⟩;simp only[go_sem];refine aK (λh4=>?_) (λh4=>?_)<;>simp only[go_sem]
    ·exact⟨_,_,_,_,⟨⟨rfl,rfl⟩,rfl,rfl⟩,by simp⟩
    ·have h5:2<=n/\n<=s.size:=by have:=en h4;omega
     refine aK (λh6=>?_) (λh6=>?_)<;>simp only[go_sem]
     ·exact⟨_,_,_,_,⟨⟨rfl,rfl⟩,rfl,rfl⟩,by simp⟩
     ·have w1:i64.wrap (0+1)=1:=by rfl
      have w2:i64.wrap (0+(n:Int))=n:=by rw[IntWalk.i64_in _ (by omega)];omega
      have w3:i64.wrap ((n:Int)-1)=n-1:=by rw[IntWalk.i64_in _ (by omega)]
      simp only[w1,w2,w3];exact⟨by omega,_,_,_,_,⟨⟨rfl,rfl⟩,rfl,rfl⟩,by simp⟩
   ·refine aY (aw4) (by simp only[go_sem]<;>rfl) (yq) ?_;simp only[go_sem];refine bL (σ:=Nat) (λx=>(cE (cE (cE (cE (cE fT 0 (.p (.val (.string s)))) 1 (.p (.val (.int .i64 0)))) 4 (.ptr 4 0)) 12 (.p (.aV (ab2.map iG)))) 13 (.p (.val (.int .i64 x)))))
     (λx=>(bk cm 4 (.box [.p (.val (.int .i64 0)),.p (.val (.string ⟨#[]⟩)),.p (.val (.int .i64 0))]))) (λx=>x<=ab2.length) (λx=>ab2.length-x) 0 (Nat.zero_le _) bX ?_
    rintro x hx;simp only[go_sem];refine aK (λhc=>?_) (λhc=>?_)
    ·have hlt:x<ab2.length:=by simpa using hc
     simp only[go_sem];refine dw [.q,.q,.q,.q,.q,.q,.q,.q,.q,.q,.q,.q,.q,.q,.q,.q,.q,.q,.q,.q,.q,.q,.q,.q,.q,.q,.q] (by kernel_rfl) ?_;simp only[go_sem,getD_map iG hlt,iG,hlt,List.length_map];have hu:(ab2.getD x default).size<=2:=by
      have:∀u∈ab2,u.size<=2:=by decide
      exact this _ (by simp[hlt])
     have hw:i64.wrap (0+((ab2.getD x default).size:Int))=(ab2.getD x default).size:=by rw[IntWalk.i64_in _ (by omega)];omega
     refine oB (λh4=>?_) (λh4=>?_)
     ·rw[hw] at h4;have h5:=cu h4;simp only[go_sem,hw,h4,h5,getD_map iG hlt,iG,hlt,List.length_map];refine⟨by omega,?_⟩;refine aK (λh6=>?_) (λh6=>?_)<;>simp only[go_sem]
      ·refine dw [.p,.p,.p,.p,.p,.p,.p,.p,.p,.p,.w,.q,.q] (by kernel_rfl) ?_;simp only[go_sem,getD_map iG hlt,iG,hlt,List.length_map];exact⟨_,_,_,_,⟨⟨rfl,rfl⟩,rfl,rfl⟩,by simp⟩
      ·rw[bz hlt (by decide)];exact bM (x+1) hlt (by omega) bX
     ·rw[hw] at h4;simp only[go_sem,h4,hw];rw[bz hlt (by decide)];exact bM (x+1) hlt (by omega) bX
    ·simp only[go_sem];exact⟨_,_,_,_,⟨⟨rfl,rfl⟩,rfl,rfl⟩,by simp⟩
theorem aAK(s:ByteArray):aS pw 348 [.agg [.val (.int .i64 1),.val (.string s),.val (.int .i64 0)]] (λr=>r = .val (.string s)):=by refine aQ [] func348 ?_;rw[ntmps348,results348];simp only[go_sem,Int.reduceEq]
theorem aw5(s:ByteArray)(hl:s.size<=1000000):aS pw 296 [.agg [.val (.int .i64 1),.val (.string s),.val (.int .i64 0)]] (λr=>r = .val (.bool (lD s))):=by
 refine aQ [] func296 ?_;rw[ntmps296,results296];simp only[go_sem];refine aY (aAK s) (by simp only[go_sem]<;>rfl) (b6 rfl) ?_;simp only[go_sem,Int.reduceEq];refine aK (λhc=>?_) (λhc=>?_)<;>simp only[go_sem]
 ·have he:s=⟨#[]⟩:=cu hc;rw[he];try rfl
 ·have he:s≠⟨#[]⟩:=en hc;have h0:0<s.size:=by
   rcases Nat.eq_zero_or_pos s.size with h|h
   ·exact absurd (ByteArray.ext (Array.eq_empty_of_size_eq_zero h)) he
   ·exact h
  refine sj (aCC s hl h0) (by simp only[go_sem]<;>rfl) ?_;rintro r ⟨k,n,e,u,rfl,hiff⟩;refine⟨b6 rfl,?_⟩;have hn:lD s=((decide (e=0)&&decide (n=s.size))&&decide (k=1)):=by
   rw[Bool.eq_iff_iff,<-hiff];simp only[Bool.and_eq_true,decide_eq_true_eq,and_assoc];constructor
   ·rintro⟨h1,h2,h3⟩;exact⟨h1,h3,h2⟩
   ·rintro⟨h1,h2,h3⟩;exact⟨h1,h3,h2⟩
  rw[hn];simp only[go_sem];refine bP (λh=>?_) (λh=>?_)<;>simp only[go_sem,h]
  refine bP (λh'=>?_) (λh'=>?_)<;>simp only[go_sem,h,h']
theorem xe(s:ByteArray)(hl:s.size<=1000000):aS pw 235 [.val (.string s)] (λr=>r = .val (.bool (lD s))):=by refine aQ [] func235 ?_;rw[ntmps235,results235];simp only[go_sem];refine aY (aw5 s hl) (by simp only[go_sem]<;>rfl) (b6 rfl) ?_;simp only[go_sem]
structure fM(t:Types):Prop where
 nodes:t.nodes.length<=20
 au:t.au.length<=30
 attrs:∀n∈t.nodes,n.attrs.length<=30
 name:∀n∈t.nodes,n.name.size<=40
 aBS:∀n∈t.nodes,∀a∈n.attrs,a.name.size<=40
 names:∀n∈t.nodes,∀a∈n.attrs,a.names.length<=25
 word:∀n∈t.nodes,∀a∈n.attrs,∀s∈a.names,s.size<=40
 aw6:∀e∈t.au,e.name.size<=40
def qp(t:Types)(n:Nat):Prop:=∀j,j<n->-1<=(t.nodes.getD j default).parent/\(t.nodes.getD j default).parent<j
def oU(t:Types):Nat->Nat->List Attr
 |0,_=>[]
 |k+1,a=>(if 0<=(t.nodes.getD a default).parent then oU t k (t.nodes.getD a default).parent.toNat else [])++(t.nodes.getD a default).attrs
def bg(t:Types)(a:Nat):List Attr:=oU t (a+1) a
theorem adL{t:Types} : ∀ (k k' a:Nat),qp t (a+1)->a<k->a<k'->oU t k a=oU t k' a
 |0,_,_,_,h,_=>by omega
 |_+1,0,_,_,_,h=>by omega
 |k+1,k'+1,a,hp,h,h'=>by
  unfold oU;split
  ·rename_i h0;have hq:=hp a (by omega);rw[adL k k' (t.nodes.getD a default).parent.toNat (λj hj=>hp j (by omega)) (by omega) (by omega)]
  ·rfl
theorem rz{t:Types}{a:Nat}(hp:qp t (a+1)):bg t a=(if 0<=(t.nodes.getD a default).parent then bg t (t.nodes.getD a default).parent.toNat else [])++(t.nodes.getD a default).attrs:=by
 conv=>lhs;unfold bg oU
 split
 ·rename_i h0;have hq:=hp a (by omega);unfold bg;rw[adL a ((t.nodes.getD a default).parent.toNat+1) _ (λj hj=>hp j (by omega)) (by omega) (by omega)]
 ·rfl
theorem ia{α:Type} [Inhabited α]{l:List α}{a:Nat}(ha:a<l.length):l.getD a default∈l:=by
 have:l.getD a default=l[a]:=by simp[ha]
 rw[this];exact nI _
theorem afi{t:Types}(hf:fM t):∀ (k a:Nat),a<t.nodes.length->qp t (a+1)->(oU t k a).length<=k * 30
 |0,_,_,_=>by simp[oU]
 |k+1,a,ha,hp=>by
  unfold oU;have h1:(t.nodes.getD a default).attrs.length<=30:=hf.attrs _ (ia ha);have hq:=hp a (by omega);rw[List.length_append];generalize hlx:(t.nodes.getD a default).attrs.length=lx at h1 ⊢;split
  ·have:=afi hf k (t.nodes.getD a default).parent.toNat (by omega) (λj hj=>hp j (by omega));omega
  ·simp;omega
theorem mL{t:Types}(hf:fM t){a:Nat}(ha:a<t.nodes.length)(hp:qp t (a+1)):(bg t a).length<=600:=by have:=afi hf (a+1) a ha hp;have:=hf.nodes;unfold bg;omega
theorem afj{t:Types}(hf:fM t):∀ (k a:Nat),a<t.nodes.length->qp t (a+1)->∀x∈oU t k a,∃n∈t.nodes,x∈n.attrs
 |0,_,_,_,x,hx=>by simp[oU] at hx
 |k+1,a,ha,hp,x,hx=>by
  unfold oU at hx;have hq:=hp a (by omega);rcases List.mem_append.1 hx with h|h
  ·split at h
   ·exact afj hf k (t.nodes.getD a default).parent.toNat (by omega) (λj hj=>hp j (by omega)) x h
   ·cases h
  ·exact⟨_,ia ha,h⟩
theorem yZ(l:List Attr):∀x∈l.map aU,x.length=4:=by intro x hx;obtain⟨a,_,rfl⟩:=List.mem_map.1 hx;rfl
theorem ali(t:Types)(hf:fM t):∀ (a:Nat),a<t.nodes.length->qp t (a+1)->br pw 221 [aD t,.val (.int .i64 a)] (λr=>r = .row 168 4 ((bg t a).map aU)):=by
 intro a
 induction a using Nat.strongRecOn with
 |_ a ih =>
  intro ha hp;have hq:=hp a (by omega);have h1:=hf.attrs _ (ia ha);have hlen:=mL hf ha hp;refine bB [25] func221 ?_;rw[ntmps221,results221];simp only[go_sem,aD,getD_map aJ ha,ha,aJ];refine aK (λh0=>?_) (λh0=>?_)<;>simp only[go_sem,getD_map aJ ha,ha,aJ]
  ·have h0':=cu h0;obtain⟨q,hqq⟩:∃q:Nat,(t.nodes.getD a default).parent=q:=⟨_,(Int.toNat_of_nonneg h0').symm⟩;have hqa:q<a:=by have:=hq.2;rw[hqq] at this;omega
   rw[hqq];refine wB 17 (ih q hqa (by omega) (λj hj=>hp j (by omega))) (by simp only[go_sem,getD_map aJ ha,ha,aJ]<;>rfl) (yX) (by simp only[go_sem,getD_map aJ ha,ha,aJ]) ?_;simp only[go_sem,getD_map aJ ha,ha,aJ];have e:bg t a=bg t q++(t.nodes.getD a default).attrs:=by rw[rz hp,if_pos h0',hqq];try rfl
   rw[e,List.length_append] at hlen;exact⟨⟨by omega,yZ _⟩,by decide,_,.refl _,by rw[e,List.map_append]⟩
  ·have h0':=en h0;have e:bg t a=(t.nodes.getD a default).attrs:=by rw[rz hp,if_neg h0'];try rfl
   exact⟨⟨by omega,yZ _⟩,by decide,_,.refl _,by rw[e]⟩
def kj(f:Nat->Int)(s n:Nat):Option Nat:=(List.range' s (n-s)).find? λi=>decide (f i≠0)
def pP(f:Nat->Int)(s n:Nat):Int:=match kj f s n with
 |some k=>f k
 |none=>0
theorem lV{f:Nat->Int}{s n k:Nat}(hs:s<=k)(hk:k<n)(h0:∀j,s<=j->j<k->f j=0)(h1:f k≠0):kj f s n=some k:=by unfold kj;rw[List.find?_range'_eq_some];refine⟨by simpa using h1,by simp[List.mem_range'_1];omega,λj hj1 hj2=>by simpa using h0 j hj1 hj2⟩
theorem gl{f:Nat->Int}{s n:Nat}(h0:∀j,s<=j->j<n->f j=0):kj f s n=none:=by unfold kj;rw[List.find?_eq_none];intro j hj;rw[List.mem_range'_1] at hj;have:=h0 j hj.1 (by omega);simpa using this
theorem wD{f:Nat->Int}{s n k:Nat}(hs:s<=k)(hk:k<n)(h0:∀j,s<=j->j<k->f j=0)(h1:f k≠0):pP f s n=f k:=by unfold pP;rw[lV hs hk h0 h1]
theorem sq{f:Nat->Int}{s n:Nat}(h0:∀j,s<=j->j<n->f j=0):pP f s n=0:=by unfold pP;rw[gl h0]
theorem rA{f:Nat->Int}{n k:Nat}(hk:k<n)(h0:∀j,j<k->f j=0)(h1:f k≠0):pP f 0 n=f k:=wD (Nat.zero_le _) hk (λj _=>h0 j) h1
theorem tC{f:Nat->Int}{n:Nat}(h0:∀j,j<n->f j=0):pP f 0 n=0:=sq λj _=>h0 j
theorem all_succ{f:Nat->Int}{x:Nat}(h:∀j,j<x->f j=0)(hx:f x=0):∀j,j<x+1->f j=0:=λj hj=>by
 rcases Nat.lt_succ_iff_lt_or_eq.1 hj with h'|h'
 ·exact h j h'
 ·rw[h'];exact hx
def uq(l:List ByteArray)(i:Nat):Int:=if lD (l.getD i default)=false then 2 else if (l.take i).any (λx=>decide (l.getD i default=x))=true then 5 else 0
def y3(l:List ByteArray):Int:=if 20<l.length then 3 else pP (uq l) 0 l.length
theorem aw7(l:List ByteArray)(hl:l.length<=25)(hw:∀s∈l,s.size<=40):aS pw 290 [.aV (l.map iG)] (λr=>r = .val (.int .i64 (y3 l))):=by
 unfold y3;refine aQ [] func290 ?_;rw[ntmps290,results290];simp only[go_sem];refine aK (λh0=>?_) (λh0=>?_)<;>simp only[go_sem]
 ·have h0':20<l.length:=by have:=cu h0;omega
  rw[if_pos h0']
 ·have h0':¬ 20<l.length:=by have:=en h0;omega
  rw[if_neg h0'];refine bL (σ:=Nat) (λx=>(cE (cE (cE (cE fT 0 (.p (.aV (l.map iG)))) 8 (.p (.aV (l.map iG)))) 9 (.p (.val (.int .i64 l.length)))) 10 (.p (.val (.int .i64 x))))) (λx=>cm)
   (λx=>x<=l.length/\∀j,j<x->uq l j=0) (λx=>l.length-x) 0 ⟨Nat.zero_le _,λj hj=>absurd hj (Nat.not_lt_zero j)⟩ bX ?_
  rintro x ⟨hx,hq⟩;simp only[go_sem];refine aK (λhc=>?_) (λhc=>?_)
  ·have hlt:x<l.length:=by simpa using hc
   simp only[go_sem,getD_map iG hlt,hlt,iG];refine aY (aao (l.getD x default) (Nat.le_trans (hw _ (ia hlt)) (by decide))) (by simp only[go_sem,getD_map iG hlt,hlt,iG]<;>rfl) (b6 rfl) ?_;simp only[go_sem,getD_map iG hlt,hlt,iG];refine aW (λh1=>?_) (λh1=>?_)<;>simp only[go_sem,getD_map iG hlt,hlt,iG]
   ·refine⟨⟨⟨by omega,by omega⟩,λx hx=>by obtain⟨a,_,rfl⟩:=List.mem_map.1 hx;rfl⟩,?_⟩;refine aY (aqh (l.take x) (l.getD x default) (by simp;omega)) (by simp only[go_sem,getD_map iG hlt,hlt,iG]<;>rfl) (b6 rfl) ?_;simp only[go_sem,getD_map iG hlt,hlt,iG];refine aK (λh2=>?_) (λh2=>?_)<;>simp only[go_sem,getD_map iG hlt,hlt,iG]
    ·have:uq l x=5:=by unfold uq;rw[if_neg (by rw[h1];decide),if_pos h2]
     rw[rA hlt hq (by rw[this];decide),this]
    ·have:uq l x=0:=by unfold uq;rw[if_neg (by rw[h1];decide),if_neg (by rw[h2];decide)]
     exact bM (x+1) ⟨hlt,all_succ hq this⟩ (by omega) (by rw[bz hlt (by omega)];exact bX)
   ·have:uq l x=2:=by unfold uq;rw[if_pos h1]
    rw[rA hlt hq (by rw[this];decide),this]
  ·have hge:l.length<=x:=by simpa using hc
   simp only[go_sem];rw[tC λj hj=>hq j (by omega)]
theorem agM(x y:Attr):aS pw 289 [.agg (aU y),.dU (aU x) 0] (λr=>r = .val (.bool (decide (y.name=x.name)))):=by refine aQ [] func289 ?_;rw[ntmps289,results289];simp only[go_sem,aU,cQ]
theorem aw8(x y:gB):aS pw 220 [.agg (aJ y),.dU (aJ x) 0] (λr=>r = .val (.bool (decide (y.name=x.name)))):=by refine aQ [] func220 ?_;rw[ntmps220,results220];simp only[go_sem,aJ,cQ]
theorem aw9(x y:lU):aS pw 225 [.agg (aL y),.dU (aL x) 0] (λr=>r = .val (.bool (decide (y.name=x.name)))):=by refine aQ [] func225 ?_;rw[ntmps225,results225];simp only[go_sem,aL,cQ]
structure aCD(x:Attr):Prop where
 name:x.name.size<=40
 names:x.names.length<=25
 word:∀s∈x.names,s.size<=40
def abi(x:Attr):Bool:=if 0<x.names.length then decide (x.low=0)&&decide (x.high=(x.names.length:Int)-1) else (decide (-1000000<=x.low)&&decide (x.low<=x.high))&&decide (x.high<=1000000)
theorem ur(x:Attr):abi x=true↔(0<x.names.length/\x.low=0/\x.high=(x.names.length:Int)-1)\/(x.names.length=0/\-1000000<=x.low/\x.low<=x.high/\x.high<=1000000):=by
 unfold abi;split
 ·simp only[Bool.and_eq_true,decide_eq_true_eq];omega
 ·simp only[Bool.and_eq_true,decide_eq_true_eq];omega
def vl(x:Attr):Int:=if y3 x.names≠0 then y3 x.names else if abi x=true then 0 else 6
def tc(before:List Attr)(x:Attr):Int:=if lD x.name=false then 2 else if before.any (λy=>decide (y.name=x.name))=true then 5 else vl x
theorem ai8(x:Attr)(before:List Attr)(hx:aCD x)(hb:before.length<=10000):aS pw 222 [.agg (aU x),.aV (before.map aU)] (λr=>r = .val (.int .i64 (tc before x))):=by
 have hn:=hx.names;refine aQ [] func222 ?_;rw[ntmps222,results222];simp only[go_sem,aU,cQ];refine aY (aao x.name (Nat.le_trans hx.name (by decide))) (by simp only[go_sem,aU,cQ]<;>rfl) (b6 rfl) ?_;simp only[go_sem,aU,cQ];refine aW (λh1=>?_) (λh1=>?_)<;>simp only[go_sem,aU,cQ]
 ·refine aY (agJ (λy=>decide (y.name=x.name)) before (by omega) _ [] [.dU (aU x) 0] (λy _=>agM x y)) (by simp only[go_sem,aU,cQ]<;>rfl) (b6 rfl) ?_;simp only[go_sem,aU,cQ];refine aK (λh2=>?_) (λh2=>?_)<;>simp only[go_sem,aU,cQ]
  ·unfold tc;rw[if_neg (by rw[h1];decide),if_pos h2]
  ·have e:tc before x=vl x:=by unfold tc;rw[if_neg (by rw[h1];decide),if_neg (by rw[h2];decide)]
   rw[e];refine aY (aw7 x.names hx.names hx.word) (by simp only[go_sem,aU,cQ]<;>rfl) (b6 rfl) ?_;simp only[go_sem,aU,cQ];refine aW (λh3=>?_) (λh3=>?_)<;>simp only[go_sem,aU,cQ]
   ·have h3':=cu h3;have e2:vl x=if abi x=true then 0 else 6:=by unfold vl;rw[if_neg (by rw[h3'];decide)]
    rw[e2];have hw:i64.wrap ((x.names.length:Int)-1)=(x.names.length:Int)-1:=IntWalk.i64_in _ (by omega)
    repeat' first|done|(refine bU (λh=>?_) (λh=>?_)<;>try simp only[go_sem,h,hw,aU,cQ])|(refine bP (λh=>?_) (λh=>?_)<;>try simp only[go_sem,h,hw,aU,cQ])|(refine aW (λh=>?_) (λh=>?_)<;>try simp only[go_sem,h,hw,aU,cQ])|(refine aK (λh=>?_) (λh=>?_)<;>try simp only[go_sem,h,hw,aU,cQ])
    all_goals
     simp only[Bool.not_eq_true',Bool.not_eq_false',decide_eq_true_eq,decide_eq_false_iff_not,Decidable.not_not] at *;split<;>rename_i hr<;>rw[ur] at hr<;>omega
   ·have h3':=en h3;unfold vl;rw[if_pos h3']
 ·unfold tc;rw[if_pos h1]
theorem fM.aAL{t:Types}(hf:fM t){a:Nat}(ha:a<t.nodes.length)(hp:qp t (a+1)){x:Attr}(hx:x∈bg t a):aCD x:=by obtain⟨n,hn,h⟩:=afj hf _ a ha hp x hx;exact⟨hf.aBS n hn x h,hf.names n hn x h,hf.word n hn x h⟩
def kF(t:Types)(i:Nat):Int :=
 if lD (t.nodes.getD i default).name=false then 2
 else if (t.nodes.take i).any (λy=>decide (y.name=(t.nodes.getD i default).name))=true then 5
 else if ¬ (-1<=(t.nodes.getD i default).parent/\(t.nodes.getD i default).parent<i) then 6
 else if 4<(t.nodes.getD i default).attrs.length then 3
 else if 8<(bg t i).length then 3
 else pP (λk=>tc ((bg t i).take k) ((bg t i).getD k default)) ((bg t i).length-(t.nodes.getD i default).attrs.length) (bg t i).length
theorem asO{t:Types}{i:Nat}(h:kF t i=0) : -1<=(t.nodes.getD i default).parent/\(t.nodes.getD i default).parent<i:=by
 unfold kF at h;split at h
 ·cases h
 ·split at h
  ·cases h
  ·split at h
   ·cases h
   ·rename_i h1;exact Decidable.of_not_not h1
theorem aAM(t:Types)(hf:fM t)(i:Nat)(hi:i<t.nodes.length)(hp:qp t i):aS pw 132 [aD t,.val (.int .i64 i)] (λr=>r = .val (.int .i64 (kF t i))):=by
 have hn:=hf.nodes;have mJ:=hf.attrs _ (ia hi);refine aQ [] func132 ?_;rw[ntmps132,results132];simp only[go_sem,aD,getD_map aJ hi,hi,aJ];refine aY (aao (t.nodes.getD i default).name (Nat.le_trans (hf.name _ (ia hi)) (by decide))) (by simp only[go_sem,aD,getD_map aJ hi,hi,aJ]<;>rfl) (b6 rfl) ?_;simp only[go_sem,aD,getD_map aJ hi,hi,aJ];refine aW (λh1=>?_) (λh1=>?_)<;>simp only[go_sem,aD,getD_map aJ hi,hi,aJ]
 ·refine⟨⟨⟨by omega,by omega⟩,λx hx=>by obtain⟨a,_,rfl⟩:=List.mem_map.1 hx;rfl⟩,?_⟩;refine aY (agK (λy=>decide (y.name=(t.nodes.getD i default).name)) (t.nodes.take i) (by simp;omega) _ [] [.dU (aJ (t.nodes.getD i default)) 0] (λy _=>aw8 _ y)) (by simp only[go_sem,aD,getD_map aJ hi,hi,aJ]<;>rfl) (b6 rfl) ?_;simp only[go_sem,aD,getD_map aJ hi,hi,aJ];refine aK (λh2=>?_) (λh2=>?_)<;>simp only[go_sem,aD,getD_map aJ hi,hi,aJ]
  ·unfold kF;rw[if_neg (by rw[h1];decide),if_pos h2]
  ·have e1 : kF t i = if ¬ (-1 ≤ (t.nodes.getD i default).parent ∧ (t.nodes.getD i default).parent < i) then 6
     else if 4<(t.nodes.getD i default).attrs.length then 3 else if 8<(bg t i).length then 3
     else pP (λk=>tc ((bg t i).take k) ((bg t i).getD k default)) ((bg t i).length-(t.nodes.getD i default).attrs.length) (bg t i).length:=by
    unfold kF;rw[if_neg (by rw[h1];decide),if_neg (by rw[h2];decide)]
   rw[e1];clear e1;refine bU (λh3=>?_) (λh3=>?_)<;>simp only[go_sem,h3,aD,getD_map aJ hi,hi,aJ]
   ·have h3':=cu h3;rw[if_pos (by omega)]
   ·have h3':=en h3;refine aK (λh4=>?_) (λh4=>?_)<;>simp only[go_sem,aD,getD_map aJ hi,hi,aJ]
    ·have y4:=cu h4;rw[if_pos (by omega)]
    ·have y4:=en h4;rw[if_neg (by omega)];refine aK (λh5=>?_) (λh5=>?_)<;>simp only[go_sem,aD,getD_map aJ hi,hi,aJ]
     ·have h5':=cu h5;rw[if_pos (by omega)]
     ·have h5':=en h5;rw[if_neg (by omega)];have hp':qp t (i+1):=λj hj=>by
       rcases Nat.lt_succ_iff_lt_or_eq.1 hj with h|h
       ·exact hp j h
       ·subst h;omega
      have hlen:=mL hf hi hp';have hat:(t.nodes.getD i default).attrs.length<=(bg t i).length:=by rw[rz hp',List.length_append];omega
      generalize hs:(bg t i).length-(t.nodes.getD i default).attrs.length=s;have hw:i64.wrap (((bg t i).length:Int)-((t.nodes.getD i default).attrs.length:Int))=s:=by rw[IntWalk.i64_in _ (by omega)];omega
      refine aY ((ali t hf i hi hp').toL) (by simp only[go_sem,aD,getD_map aJ hi,hi,aJ]<;>rfl) (yq) ?_;simp only[go_sem,aD,getD_map aJ hi,hi,aJ];refine aK (λh6=>?_) (λh6=>?_)<;>simp only[go_sem,aD,getD_map aJ hi,hi,aJ]
      ·have h6':=cu h6;rw[if_pos (by omega)]
      ·have h6':=en h6;rw[if_neg (by omega),hw];generalize hf':(λk=>tc ((bg t i).take k) ((bg t i).getD k default))=f;refine bL (σ:=Nat) (λx=>(cE (cE (cE (cE (cE fT 1 (.p (.val (.int .i64 i)))) 2 (.ptr 2 0)) 5 (.ptr 5 0)) 6 (.p (.aV ((bg t i).map aU)))) 7 (.p (.val (.int .i64 x)))))
        (λx=>(bk (bk cm 2 (.box [.p (.aV (t.nodes.map aJ)),.p (.aV (t.au.map aL))])) 5 (.box [.p (.val (.string (t.nodes.getD i default).name)),.p (.val (.int .i64 (t.nodes.getD i default).parent)),.p (.val (.bool (t.nodes.getD i default).abs)),.p (.aV ((t.nodes.getD i default).attrs.map aU))])))
        (λx=>(s<=x/\x<=(bg t i).length)/\∀j,s<=j->j<x->f j=0) (λx=>(bg t i).length-x) s ⟨⟨Nat.le_refl _,by omega⟩,λj hj hj'=>absurd hj' (by omega)⟩ bX ?_
       rintro x ⟨⟨hsx,hx⟩,hq⟩;simp only[go_sem,aD,getD_map aJ hi,hi,aJ];refine aK (λhc=>?_) (λhc=>?_)
       ·have hlt:x<(bg t i).length:=by have:=cu hc;omega
        simp only[go_sem,aD,getD_map aJ hi,hi,aJ,getD_map aU hlt,hlt,aU];refine dw [.q,.q,.q,.q,.q,.q,.q,.q,.q] (by kernel_rfl) ?_;simp only[go_sem,aD,getD_map aJ hi,hi,aJ,getD_map aU hlt,hlt,aU];refine⟨⟨⟨by omega,by omega⟩,yZ _⟩,?_⟩;refine jE (ai8 ((bg t i).getD x default) ((bg t i).take x) (hf.aAL hi hp' (ia hlt)) (by simp;omega)) (by simp only[go_sem,aD,getD_map aJ hi,hi,aJ,getD_map aU hlt,hlt,aU]<;>rfl) (b6 rfl) ?_;simp only[go_sem,aD,getD_map aJ hi,hi,aJ,getD_map aU hlt,hlt,aU];have e:f x=tc ((bg t i).take x) ((bg t i).getD x default):=by rw[<-hf']
        rw[<-e];refine aW (λh7=>?_) (λh7=>?_)<;>simp only[go_sem,aD,getD_map aJ hi,hi,aJ,getD_map aU hlt,hlt,aU]
        ·have h7':=cu h7;exact bM (x+1) ⟨⟨by omega,hlt⟩,λj hj hj'=>by
          rcases Nat.lt_succ_iff_lt_or_eq.1 hj' with h|h
          ·exact hq j hj h
          ·rw[h];exact h7'⟩ (by omega) (by rw[bz hlt (by omega)];exact bX)
        ·have h7':=en h7;rw[wD hsx hlt hq h7']
       ·have hge:(bg t i).length<=x:=by have:=en hc;omega
        simp only[go_sem,aD,getD_map aJ hi,hi,aJ];rw[sq λj hj hj'=>hq j hj (by omega)]
 ·unfold kF;rw[if_pos h1]
def inB(t:Types)(n:Int):Bool:=decide (0<=n)&&decide (n<t.nodes.length)
theorem aht(t:Types)(n:Int):aS pw 223 [.val (.int .i64 n),.dU [.aV (t.nodes.map aJ),.aV (t.au.map aL)] 0] (λr=>r = .val (.bool (inB t n))):=by
 unfold inB;refine aQ [] func223 ?_;rw[ntmps223,results223];simp only[go_sem]
 repeat' first|done|(refine bU (λh=>?_) (λh=>?_)<;>try simp only[go_sem,h])|(refine bP (λh=>?_) (λh=>?_)<;>try simp only[go_sem,h])|(refine aW (λh=>?_) (λh=>?_)<;>try simp only[go_sem,h])|(refine aK (λh=>?_) (λh=>?_)<;>try simp only[go_sem,h])
def nQ(t:Types)(i:Nat):Int :=
 if lD (t.au.getD i default).name=false then 2
 else if (t.au.take i).any (λy=>decide (y.name=(t.au.getD i default).name))=true then 5
 else if ((inB t (t.au.getD i default).src&&inB t (t.au.getD i default).dst)&&(vK (t.au.getD i default).nL (t.au.getD i default).jZ&&vK (t.au.getD i default).ta (t.au.getD i default).oe))=true then 0 else 6
theorem aAN(t:Types)(hf:fM t)(i:Nat)(hi:i<t.au.length):aS pw 133 [aD t,.val (.int .i64 i)] (λr=>r = .val (.int .i64 (nQ t i))):=by
 have hn:=hf.au;refine aQ [] func133 ?_;rw[ntmps133,results133];simp only[go_sem,aD,getD_map aL hi,hi,aL];refine aY (aao (t.au.getD i default).name (Nat.le_trans (hf.aw6 _ (ia hi)) (by decide))) (by simp only[go_sem,aD,getD_map aL hi,hi,aL]<;>rfl) (b6 rfl) ?_;simp only[go_sem,aD,getD_map aL hi,hi,aL];refine aW (λh1=>?_) (λh1=>?_)<;>simp only[go_sem,aD,getD_map aL hi,hi,aL]
 ·refine⟨⟨⟨by omega,by omega⟩,λx hx=>by obtain⟨a,_,rfl⟩:=List.mem_map.1 hx;rfl⟩,?_⟩;refine aY (aff (λy=>decide (y.name=(t.au.getD i default).name)) (t.au.take i) (by simp;omega) _ [] [.dU (aL (t.au.getD i default)) 0] (λy _=>aw9 _ y)) (by simp only[go_sem,aD,getD_map aL hi,hi,aL]<;>rfl) (b6 rfl) ?_;simp only[go_sem,aD,getD_map aL hi,hi,aL];refine aK (λh2=>?_) (λh2=>?_)<;>simp only[go_sem,aD,getD_map aL hi,hi,aL]
  ·unfold nQ;rw[if_neg (by rw[h1];decide),if_pos h2]
  ·have e1:nQ t i=if ((inB t (t.au.getD i default).src&&inB t (t.au.getD i default).dst)&&(vK (t.au.getD i default).nL (t.au.getD i default).jZ&&vK (t.au.getD i default).ta (t.au.getD i default).oe))=true then 0 else 6:=by unfold nQ;rw[if_neg (by rw[h1];decide),if_neg (by rw[h2];decide)]
   rw[e1];clear e1;refine aY (aht t (t.au.getD i default).src) (by simp only[go_sem,aD,getD_map aL hi,hi,aL]<;>rfl) (b6 rfl) ?_;simp only[go_sem,aD,getD_map aL hi,hi,aL];refine bP (λh3=>?_) (λh3=>?_)<;>simp only[go_sem,h3,aD,getD_map aL hi,hi,aL]
   refine aY (aht t (t.au.getD i default).dst) (by simp only[go_sem,aD,getD_map aL hi,hi,aL]<;>rfl) (b6 rfl) ?_;simp only[go_sem,h3,aD,getD_map aL hi,hi,aL];refine aW (λh4=>?_) (λh4=>?_)<;>simp only[go_sem,h4,aD,getD_map aL hi,hi,aL]
   refine aY (afe (t.au.getD i default).nL (t.au.getD i default).jZ) (by simp only[go_sem,aD,getD_map aL hi,hi,aL]<;>rfl) (b6 rfl) ?_;simp only[go_sem,aD,getD_map aL hi,hi,aL];refine bP (λh5=>?_) (λh5=>?_)<;>simp only[go_sem,h5,aD,getD_map aL hi,hi,aL]
   refine aY (afe (t.au.getD i default).ta (t.au.getD i default).oe) (by simp only[go_sem,aD,getD_map aL hi,hi,aL]<;>rfl) (b6 rfl) ?_;simp only[go_sem,aD,getD_map aL hi,hi,aL];refine aW (λh6=>?_) (λh6=>?_)<;>simp only[go_sem,h6,aD,getD_map aL hi,hi,aL]
 ·unfold nQ;rw[if_pos h1]
def gC(t:Types):ByteArray×Int :=
 if t.nodes.length=0 then (⟨#[]⟩,7)
 else if 12<t.nodes.length\/20<t.au.length then (⟨#[]⟩,3)
 else match kj (kF t) 0 t.nodes.length with
  |some k=>((t.nodes.getD k default).name,kF t k)
  |none=>match kj (nQ t) 0 t.au.length with
   |some k=>((t.au.getD k default).name,nQ t k)
   |none=>(⟨#[]⟩,0)
theorem afk{t:Types}{n:Nat}(h:∀j,j<n->kF t j=0):qp t n:=λj hj=>asO (h j hj)
theorem alj(t:Types)(hf:fM t):aS pw 73 [aD t] (λr=>r = .dQ [.val (.string (gC t).1),.val (.int .i64 (gC t).2)]):=by
 have hn:=hf.nodes;have hm:=hf.au;refine aQ [] func73 ?_;rw[ntmps73,results73];simp only[go_sem,aD];refine aK (λh1=>?_) (λh1=>?_)<;>simp only[go_sem,aD]
 ·have tA:=cu h1;unfold gC;rw[if_pos (by omega)];exact⟨rfl,rfl⟩
 ·have tA:=en h1;have hN:t.nodes.length≠0:=by omega
  have yB:12<t.nodes.length\/20<t.au.length->gC t=(⟨#[]⟩,3):=λh=>by unfold gC;rw[if_neg hN,if_pos h]
  refine bU (λh2=>?_) (λh2=>?_)<;>simp only[go_sem,h2,aD]
  ·have h2':=cu h2;rw[yB (by omega)];exact⟨rfl,rfl⟩
  ·have h2':=en h2;refine aK (λh3=>?_) (λh3=>?_)<;>simp only[go_sem,aD]
   ·have h3':=cu h3;rw[yB (by omega)];exact⟨rfl,rfl⟩
   ·have h3':=en h3
    have hV : gC t = match kj (kF t) 0 t.nodes.length with
      |some k=>((t.nodes.getD k default).name,kF t k)
      |none=>match kj (nQ t) 0 t.au.length with
       |some k=>((t.au.getD k default).name,nQ t k)
       |none=>(⟨#[]⟩,0):=by unfold gC;rw[if_neg hN,if_neg (by omega)]
    clear yB;refine bL (σ:=Nat) (λx=>(cE (cE (cE (cE fT 1 (.ptr 1 0)) 27 (.p (.aV (t.nodes.map aJ)))) 28 (.p (.val (.int .i64 t.nodes.length)))) 29 (.p (.val (.int .i64 x)))))
     (λx=>(bk cm 1 (.box [.p (.aV (t.nodes.map aJ)),.p (.aV (t.au.map aL))])))
     (λx=>x<=t.nodes.length/\∀j,j<x->kF t j=0) (λx=>t.nodes.length-x) 0 ⟨Nat.zero_le _,λj hj=>absurd hj (Nat.not_lt_zero j)⟩ bX ?_
    rintro x ⟨hx,hq⟩;simp only[go_sem,aD];refine aK (λhc=>?_) (λhc=>?_)
    ·have hlt:x<t.nodes.length:=by simpa using hc
     simp only[go_sem,aD,getD_map aJ hlt,hlt,aJ];refine aY (aAM t hf x hlt (afk hq)) (by simp only[go_sem,aD,getD_map aJ hlt,hlt,aJ]<;>rfl) (b6 rfl) ?_;simp only[go_sem,aD,getD_map aJ hlt,hlt,aJ];refine aW (λh4=>?_) (λh4=>?_)<;>simp only[go_sem,aD,getD_map aJ hlt,hlt,aJ]
     ·have y4:=cu h4;exact bM (x+1) ⟨hlt,all_succ hq y4⟩ (by omega) (by rw[bz hlt (by omega)];exact bX)
     ·have y4:=en h4;rw[hV,lV (Nat.zero_le _) hlt (λj _=>hq j) y4];exact⟨rfl,rfl⟩
    ·have hge:t.nodes.length<=x:=by simpa using hc
     have hN0:kj (kF t) 0 t.nodes.length=none:=gl λj _ hj=>hq j (by omega)
     rw[hN0] at hV;simp only[] at hV;simp only[go_sem,aD];refine bL (σ:=Nat) (λx=>(cE (cE (cE (cE fT 1 (.ptr 1 0)) 44 (.p (.aV (t.au.map aL)))) 45 (.p (.val (.int .i64 t.au.length)))) 46 (.p (.val (.int .i64 x)))))
      (λx=>(bk cm 1 (.box [.p (.aV (t.nodes.map aJ)),.p (.aV (t.au.map aL))])))
      (λx=>x<=t.au.length/\∀j,j<x->nQ t j=0) (λx=>t.au.length-x) 0 ⟨Nat.zero_le _,λj hj=>absurd hj (Nat.not_lt_zero j)⟩ bX ?_
     rintro y ⟨hy,hq'⟩;simp only[go_sem,aD];refine aK (λql=>?_) (λql=>?_)
     ·have hlt:y<t.au.length:=by simpa using ql
      simp only[go_sem,aD,getD_map aL hlt,hlt,aL];refine aY (aAN t hf y hlt) (by simp only[go_sem,aD,getD_map aL hlt,hlt,aL]<;>rfl) (b6 rfl) ?_;simp only[go_sem,aD,getD_map aL hlt,hlt,aL];refine aW (λh4=>?_) (λh4=>?_)<;>simp only[go_sem,aD,getD_map aL hlt,hlt,aL]
      ·have y4:=cu h4;exact bM (y+1) ⟨hlt,all_succ hq' y4⟩ (by omega) (by rw[bz hlt (by omega)];exact bX)
      ·have y4:=en h4;rw[hV,lV (Nat.zero_le _) hlt (λj _=>hq' j) y4];exact⟨rfl,rfl⟩
     ·have hge:t.au.length<=y:=by simpa using ql
      simp only[go_sem,aD];rw[hV,gl λj _ hj=>hq' j (by omega)];exact⟨rfl,rfl⟩
theorem rS{α:Type} [Inhabited α]{p:α->Bool}{l:List α}{x j:Nat}(hj:j<x)(hx:x<=l.length)(h:p (l.getD j default)=true):(l.take x).any p=true:=by
 have hjl:j<l.length:=by omega
 refine List.any_eq_true.2 ⟨l[j],List.mem_iff_getElem.2 ⟨j,by simp;omega,by simp⟩,?_⟩;simpa[hjl] using h
theorem oh{α:Type} [Inhabited α]{p:α->Bool}{l:List α}{x:Nat}(hx:x<=l.length)(h:∀j,j<x->p (l.getD j default)=false):(l.take x).any p=false:=by
 rw[List.any_eq_false];intro a ha;obtain⟨j,hj,rfl⟩:=List.mem_iff_getElem.1 ha;simp only[List.length_take] at hj;have:=h j (by omega);have hjl:j<l.length:=by omega
 simpa[hjl] using this
theorem alk{α:Type} [DecidableEq α]{a b:α}{c:Bool}(h:decide (a=b)=c):decide (b=a)=c:=by rw[<-h];simp[eq_comm]
theorem tR{p:Nat->Bool}{x:Nat}(h:∀j,j<x->p j=false)(hx:p x=false):∀j,j<x+1->p j=false:=λj hj=>by
 rcases Nat.lt_succ_iff_lt_or_eq.1 hj with h'|h'
 ·exact h j h'
 ·rw[h'];exact hx
theorem asP(l:List ByteArray)(hl:l.length<=25)(hw:∀s∈l,s.size<=40):aS pw 297 [.aV (l.map iG)] (λr=>r = .val (.int .i64 (y3 l))):=by
 unfold y3;refine aQ [] func297 ?_;rw[ntmps297,results297];simp only[go_sem];refine aK (λh0=>?_) (λh0=>?_)<;>simp only[go_sem]
 ·have h0':20<l.length:=by have:=cu h0;omega
  rw[if_pos h0']
 ·have h0':¬ 20<l.length:=by have:=en h0;omega
  rw[if_neg h0'];refine bL (σ:=Nat) (λx=>(cE (cE fT 0 (.p (.aV (l.map iG)))) 3 (.p (.val (.int .i64 x))))) (λx=>cm)
   (λx=>x<=l.length/\∀j,j<x->uq l j=0) (λx=>l.length-x) 0 ⟨Nat.zero_le _,λj hj=>absurd hj (Nat.not_lt_zero j)⟩ bX ?_
  rintro x ⟨hx,hq⟩;simp only[go_sem];refine aK (λhc=>?_) (λhc=>?_)
  ·have hlt:x<l.length:=by simpa using hc
   simp only[go_sem,getD_map iG hlt,hlt,iG];refine aY (xe (l.getD x default) (Nat.le_trans (hw _ (ia hlt)) (by decide))) (by simp only[go_sem,getD_map iG hlt,hlt,iG]<;>rfl) (b6 rfl) ?_;simp only[go_sem,getD_map iG hlt,hlt,iG];refine aW (λh1=>?_) (λh1=>?_)<;>simp only[go_sem,getD_map iG hlt,hlt,iG]
   ·refine bL (σ:=Nat) (λy=>(cE (cE (cE fT 0 (.p (.aV (l.map iG)))) 3 (.p (.val (.int .i64 x)))) 4 (.p (.val (.int .i64 y))))) (λ_=>cm)
     (λy=>y<=x/\∀j,j<y->decide (l.getD x default=l.getD j default)=false) (λy=>x-y) 0 ⟨Nat.zero_le _,λj hj=>absurd hj (Nat.not_lt_zero j)⟩ bX ?_
    rintro y ⟨hy,hqy⟩;simp only[go_sem,getD_map iG hlt,hlt,iG];refine aK (λql=>?_) (λql=>?_)
    ·have hlty:y<x:=by simpa using ql
     have ac4:y<l.length:=by omega
     simp only[go_sem,getD_map iG hlt,hlt,iG,getD_map iG ac4,ac4];refine dw [.q,.q,.q,.q,.q,.q,.q,.q,.q] (by kernel_rfl) ?_;simp only[go_sem,getD_map iG hlt,hlt,iG,getD_map iG ac4,ac4];refine aK (λh2=>?_) (λh2=>?_)<;>simp only[go_sem,getD_map iG hlt,hlt,iG,getD_map iG ac4,ac4]
     ·have:uq l x=5:=by unfold uq;rw[if_neg (by rw[h1];decide),if_pos (rS hlty hx (alk h2))]
      rw[rA hlt hq (by rw[this];decide),this]
     ·exact bM (y+1) ⟨hlty,tR hqy (alk h2)⟩ (by omega) (by rw[bz hlty (by omega)];exact bX)
    ·have hge:x<=y:=by simpa using ql
     simp only[go_sem,getD_map iG hlt,hlt,iG];have:uq l x=0:=by unfold uq;rw[if_neg (by rw[h1];decide),if_neg (by rw[oh (p:=λz=>decide (l.getD x default=z)) hx λj hj=>hqy j (by omega)];decide)]
     exact bM (x+1) ⟨hlt,all_succ hq this⟩ (by omega) (by rw[bz hlt (by omega)];exact bX)
   ·have:uq l x=2:=by unfold uq;rw[if_pos h1]
    rw[rA hlt hq (by rw[this];decide),this]
  ·have hge:l.length<=x:=by simpa using hc
   simp only[go_sem];rw[tC λj hj=>hq j (by omega)]
theorem agN(x:Attr)(hx:aCD x):aS pw 236 [.agg (aU x)] (λr=>r = .val (.int .i64 (vl x))):=by
 have hn:=hx.names;refine aQ [] func236 ?_;rw[ntmps236,results236];simp only[go_sem,aU,cQ];have hw:i64.wrap ((x.names.length:Int)-1)=(x.names.length:Int)-1:=IntWalk.i64_in _ (by omega);have hnil:x.names.length=0->y3 x.names=0:=λh=>by have:x.names=[]:=List.length_eq_zero_iff.1 h;rw[this];try rfl
 refine aK (λh1=>?_) (λh1=>?_)<;>simp only[go_sem,aU,cQ]
 ·have tA:=cu h1;have e:vl x=if abi x=true then 0 else 6:=by unfold vl;rw[if_neg (by rw[hnil (by omega)];decide)]
  rw[e];refine aY (aaM x.low (-1000000) 1000000) (by simp only[go_sem,aU,cQ]<;>rfl) (b6 rfl) ?_;simp only[go_sem,aU,cQ];refine bP (λh2=>?_) (λh2=>?_)<;>simp only[go_sem,h2,aU,cQ]
  ·refine aY (aaM x.high x.low 1000000) (by simp only[go_sem,aU,cQ]<;>rfl) (b6 rfl) ?_;simp only[go_sem,aU,cQ];refine aW (λh3=>?_) (λh3=>?_)<;>simp only[go_sem,aU,cQ]
   all_goals
    simp only[Bool.and_eq_true,Bool.and_eq_false_iff] at *;simp only[Bool.not_eq_true',Bool.not_eq_false',decide_eq_true_eq,decide_eq_false_iff_not,Decidable.not_not] at *;split<;>rename_i hr<;>rw[ur] at hr<;>omega
  ·simp only[Bool.and_eq_true,Bool.and_eq_false_iff] at *;simp only[Bool.not_eq_true',Bool.not_eq_false',decide_eq_true_eq,decide_eq_false_iff_not,Decidable.not_not] at *;split<;>rename_i hr<;>rw[ur] at hr<;>omega
 ·have tA:=en h1;refine aY (asP x.names hx.names hx.word) (by simp only[go_sem,aU,cQ]<;>rfl) (b6 rfl) ?_;simp only[go_sem,aU,cQ];refine aW (λh3=>?_) (λh3=>?_)<;>simp only[go_sem,aU,cQ]
  ·have h3':=cu h3;have e2:vl x=if abi x=true then 0 else 6:=by unfold vl;rw[if_neg (by rw[h3'];decide)]
   rw[e2]
   repeat' first|done|(refine bU (λh=>?_) (λh=>?_)<;>try simp only[go_sem,h,hw,aU,cQ])|(refine bP (λh=>?_) (λh=>?_)<;>try simp only[go_sem,h,hw,aU,cQ])|(refine aW (λh=>?_) (λh=>?_)<;>try simp only[go_sem,h,hw,aU,cQ])|(refine aK (λh=>?_) (λh=>?_)<;>try simp only[go_sem,h,hw,aU,cQ])
   all_goals
    simp only[Bool.not_eq_true',Bool.not_eq_false',decide_eq_true_eq,decide_eq_false_iff_not,Decidable.not_not] at *;split<;>rename_i hr<;>rw[ur] at hr<;>omega
  ·have h3':=en h3;unfold vl;rw[if_pos h3']
def afl(t:Types)(a:Int):List Attr:=if a<0 then [] else bg t a.toNat
theorem aoy(t:Types)(a:Int)(ha:a<0):br pw 153 [aD t,.val (.int .i64 a)] (λr=>r = .row 168 4 []):=by
 refine bB [7] func153 ?_;rw[ntmps153,results153];simp only[go_sem,aD];refine aK (λh0=>?_) (λh0=>?_)<;>simp only[go_sem]
 ·exact⟨by decide,_,.nil _ _ (by decide),rfl⟩
 ·have:=en h0;omega
theorem ahu(t:Types)(hf:fM t):∀ (a:Nat),a<t.nodes.length->qp t (a+1)->br pw 153 [aD t,.val (.int .i64 a)] (λr=>r = .row 168 4 ((bg t a).map aU)):=by
 intro a
 induction a using Nat.strongRecOn with
 |_ a ih =>
  intro ha hp;have hq:=hp a (by omega);have h1:=hf.attrs _ (ia ha);have hlen:=mL hf ha hp;have axa:br pw 153 [aD t,.val (.int .i64 (t.nodes.getD a default).parent)] (λr=>r = .row 168 4 ((afl t (t.nodes.getD a default).parent).map aU)):=by
   by_cases h0:(t.nodes.getD a default).parent<0
   ·have:=aoy t _ h0;unfold afl;rw[if_pos h0];exact this
   ·obtain⟨q,hqq⟩:∃q:Nat,(t.nodes.getD a default).parent=q:=⟨_,(Int.toNat_of_nonneg (by omega)).symm⟩;unfold afl;rw[if_neg h0,hqq,Int.toNat_natCast];have hqa:q<a:=by have:=hq.2;rw[hqq] at this;omega
    exact ih q hqa (by omega) (λj hj=>hp j (by omega))
  have e:bg t a=afl t (t.nodes.getD a default).parent++(t.nodes.getD a default).attrs:=by
   rw[rz hp];unfold afl;by_cases h0:(t.nodes.getD a default).parent<0
   ·rw[if_pos h0,if_neg (by omega)]
   ·rw[if_neg h0,if_pos (by omega)]
  rw[e,List.length_append] at hlen;rw[e];refine bB [7] func153 ?_;rw[ntmps153,results153];simp only[go_sem,aD,getD_map aJ ha,ha,aJ];refine aK (λh0=>?_) (λh0=>?_)<;>simp only[go_sem,getD_map aJ ha,ha,aJ]
  ·have:=cu h0;omega
  ·refine ai1 [(1,.q),(2,.q),(3,.q),(4,.q),(5,.q),(6,.q),(7,.q),(8,.q),(10,.b),(11,.b),(12,.b),(13,.b),(14,.b),(15,.b),(0,.w),(9,.s),(16,.w),(17,.q)] (by kernel_rfl) ?_;simp only[go_sem,getD_map aJ ha,ha,aJ];refine jE (axa.toL) (by simp only[go_sem,getD_map aJ ha,ha,aJ]<;>rfl) (yq) ?_;simp only[go_sem,getD_map aJ ha,ha,aJ];exact⟨⟨⟨_,rfl⟩,_,rfl⟩,⟨by omega,yZ _⟩,⟨by omega,yZ _⟩,by decide,_,.refl _,by rw[List.map_append]⟩
theorem axb(t:Types)(hf:fM t)(i:Nat)(hi:i<t.nodes.length)(hp:qp t i):aS pw 138 [aD t,.val (.int .i64 i)] (λr=>r = .val (.int .i64 (kF t i))):=by
 have hn:=hf.nodes;have mJ:=hf.attrs _ (ia hi);refine aQ [] func138 ?_;rw[ntmps138,results138];simp only[go_sem,aD,getD_map aJ hi,hi,aJ];refine aY (xe (t.nodes.getD i default).name (Nat.le_trans (hf.name _ (ia hi)) (by decide))) (by simp only[go_sem,aD,getD_map aJ hi,hi,aJ]<;>rfl) (b6 rfl) ?_;simp only[go_sem,aD,getD_map aJ hi,hi,aJ];refine aW (λh1=>?_) (λh1=>?_)<;>simp only[go_sem,aD,getD_map aJ hi,hi,aJ]
 ·refine bL (σ:=Nat) (λx=>(cE (cE (cE (cE fT 1 (.p (.val (.int .i64 i)))) 2 (.ptr 2 0)) 5 (.ptr 5 0)) 6 (.p (.val (.int .i64 x)))))
   (λx=>(bk (bk cm 2 (.box [.p (.aV (t.nodes.map aJ)),.p (.aV (t.au.map aL))])) 5 (.box [.p (.val (.string (t.nodes.getD i default).name)),.p (.val (.int .i64 (t.nodes.getD i default).parent)),.p (.val (.bool (t.nodes.getD i default).abs)),.p (.aV ((t.nodes.getD i default).attrs.map aU))])))
   (λx=>x<=i/\∀j,j<x->decide ((t.nodes.getD j default).name=(t.nodes.getD i default).name)=false) (λx=>i-x) 0 ⟨Nat.zero_le _,λj hj=>absurd hj (Nat.not_lt_zero j)⟩ bX ?_
  rintro x ⟨hx,hqx⟩;simp only[go_sem,aD,getD_map aJ hi,hi,aJ];refine aK (λhc=>?_) (λhc=>?_)
  ·have aoz:x<i:=by simpa using hc
   have hxl:x<t.nodes.length:=by omega
   simp only[go_sem,aD,getD_map aJ hi,hi,aJ,getD_map aJ hxl,hxl];refine dw [.q,.q,.q,.q,.q,.q,.q,.q,.q] (by kernel_rfl) ?_;simp only[go_sem,aD,getD_map aJ hi,hi,aJ,getD_map aJ hxl,hxl];refine aK (λh2=>?_) (λh2=>?_)<;>simp only[go_sem,aD,getD_map aJ hi,hi,aJ,getD_map aJ hxl,hxl]
   ·have:kF t i=5:=by unfold kF;rw[if_neg (by rw[h1];decide),if_pos (rS (p:=λy:gB=>decide (y.name=(t.nodes.getD i default).name)) aoz (by omega) h2)]
    rw[this]
   ·exact bM (x+1) ⟨aoz,tR hqx h2⟩ (by omega) (by rw[bz aoz (by omega)];exact bX)
  ·have hge:i<=x:=by simpa using hc
   have ae5:=oh (p:=λy:gB=>decide (y.name=(t.nodes.getD i default).name)) (Nat.le_of_lt hi) λj hj=>hqx j (by omega)
   have e1 : kF t i = if ¬ (-1 ≤ (t.nodes.getD i default).parent ∧ (t.nodes.getD i default).parent < i) then 6
     else if 4<(t.nodes.getD i default).attrs.length then 3 else if 8<(bg t i).length then 3
     else pP (λk=>tc ((bg t i).take k) ((bg t i).getD k default)) ((bg t i).length-(t.nodes.getD i default).attrs.length) (bg t i).length:=by
    unfold kF;rw[if_neg (by rw[h1];decide),if_neg (by rw[ae5];decide)]
   rw[e1];clear e1;have hwi:i64.wrap ((i:Int)-1)=(i:Int)-1:=IntWalk.i64_in _ (by omega);simp only[go_sem,hwi,aD,getD_map aJ hi,hi,aJ];refine aY (aaM (t.nodes.getD i default).parent (-1) (i-1)) (by simp only[go_sem,aD,getD_map aJ hi,hi,aJ]<;>rfl) (b6 rfl) ?_;simp only[go_sem,aD,getD_map aJ hi,hi,aJ];refine aW (λh3=>?_) (λh3=>?_)<;>simp only[go_sem,aD,getD_map aJ hi,hi,aJ]
   ·simp only[Bool.and_eq_true,decide_eq_true_eq] at h3;rw[if_neg (by omega)];have hp':qp t (i+1):=λj hj=>by
     rcases Nat.lt_succ_iff_lt_or_eq.1 hj with h|h
     ·exact hp j h
     ·subst h;omega
    have hlen:=mL hf hi hp';have hat:(t.nodes.getD i default).attrs.length<=(bg t i).length:=by rw[rz hp',List.length_append];omega
    generalize hs:(bg t i).length-(t.nodes.getD i default).attrs.length=s;have hw:i64.wrap (((bg t i).length:Int)-((t.nodes.getD i default).attrs.length:Int))=s:=by rw[IntWalk.i64_in _ (by omega)];omega
    refine aY ((ahu t hf i hi hp').toL) (by simp only[go_sem,aD,getD_map aJ hi,hi,aJ]<;>rfl) (yq) ?_;simp only[go_sem,aD,getD_map aJ hi,hi,aJ];refine bU (λh5=>?_) (λh5=>?_)<;>simp only[go_sem,h5,aD,getD_map aJ hi,hi,aJ]
    ·have h5':=cu h5;rw[if_pos (by omega)]
    ·have h5':=en h5;rw[if_neg (by omega)];refine aK (λh6=>?_) (λh6=>?_)<;>simp only[go_sem,aD,getD_map aJ hi,hi,aJ]
     ·have h6':=cu h6;rw[if_pos (by omega)]
     ·have h6':=en h6;rw[if_neg (by omega),hw];generalize hf':(λk=>tc ((bg t i).take k) ((bg t i).getD k default))=f;refine bL (σ:=Nat) (λx=>(cE (cE (cE (cE (cE fT 1 (.p (.val (.int .i64 i)))) 2 (.ptr 2 0)) 5 (.ptr 5 0)) 7 (.p (.aV ((bg t i).map aU)))) 8 (.p (.val (.int .i64 x)))))
       (λx=>(bk (bk cm 2 (.box [.p (.aV (t.nodes.map aJ)),.p (.aV (t.au.map aL))])) 5 (.box [.p (.val (.string (t.nodes.getD i default).name)),.p (.val (.int .i64 (t.nodes.getD i default).parent)),.p (.val (.bool (t.nodes.getD i default).abs)),.p (.aV ((t.nodes.getD i default).attrs.map aU))])))
       (λx=>(s<=x/\x<=(bg t i).length)/\∀j,s<=j->j<x->f j=0) (λx=>(bg t i).length-x) s ⟨⟨Nat.le_refl _,by omega⟩,λj hj hj'=>absurd hj' (by omega)⟩ bX ?_
      rintro x ⟨⟨hsx,hx⟩,hq⟩;simp only[go_sem,aD,getD_map aJ hi,hi,aJ];refine aK (λhc=>?_) (λhc=>?_)
      ·have hlt:x<(bg t i).length:=by have:=cu hc;omega
       have hA:=hf.aAL hi hp' (ia hlt);have e:f x=tc ((bg t i).take x) ((bg t i).getD x default):=by rw[<-hf']
       simp only[go_sem,aD,getD_map aJ hi,hi,aJ,getD_map aU hlt,hlt,aU];refine aY (xe ((bg t i).getD x default).name (Nat.le_trans hA.name (by decide))) (by simp only[go_sem,aD,getD_map aJ hi,hi,aJ,getD_map aU hlt,hlt,aU]<;>rfl) (b6 rfl) ?_;simp only[go_sem,aD,getD_map aJ hi,hi,aJ,getD_map aU hlt,hlt,aU];refine aW (λh7=>?_) (λh7=>?_)<;>simp only[go_sem,aD,getD_map aJ hi,hi,aJ,getD_map aU hlt,hlt,aU]
       ·refine bL (σ:=Nat) (λy=>(cE (cE (cE (cE (cE (cE fT 1 (.p (.val (.int .i64 i)))) 2 (.ptr 2 0)) 5 (.ptr 5 0)) 7 (.p (.aV ((bg t i).map aU)))) 8 (.p (.val (.int .i64 x)))) 9 (.p (.val (.int .i64 y)))))
         (λx=>(bk (bk cm 2 (.box [.p (.aV (t.nodes.map aJ)),.p (.aV (t.au.map aL))])) 5 (.box [.p (.val (.string (t.nodes.getD i default).name)),.p (.val (.int .i64 (t.nodes.getD i default).parent)),.p (.val (.bool (t.nodes.getD i default).abs)),.p (.aV ((t.nodes.getD i default).attrs.map aU))])))
         (λy=>y<=x/\∀j,j<y->decide (((bg t i).getD j default).name=((bg t i).getD x default).name)=false) (λy=>x-y) 0 ⟨Nat.zero_le _,λj hj=>absurd hj (Nat.not_lt_zero j)⟩ bX ?_
        rintro y ⟨hy,hqy⟩;simp only[go_sem,aD,getD_map aJ hi,hi,aJ,getD_map aU hlt,hlt,aU];refine aK (λql=>?_) (λql=>?_)
        ·have hlty:y<x:=by simpa using ql
         have ac4:y<(bg t i).length:=by omega
         simp only[go_sem,aD,getD_map aJ hi,hi,aJ,getD_map aU hlt,hlt,aU,getD_map aU ac4,ac4];refine dw [.q,.q,.q,.q,.q,.q,.q,.q,.q,.q,.q] (by kernel_rfl) ?_;simp only[go_sem,aD,getD_map aJ hi,hi,aJ,getD_map aU hlt,hlt,aU,getD_map aU ac4,ac4];refine aK (λh8=>?_) (λh8=>?_)<;>simp only[go_sem,aD,getD_map aJ hi,hi,aJ,getD_map aU hlt,hlt,aU,getD_map aU ac4,ac4]
         ·have e5:f x=5:=by rw[e];unfold tc;rw[if_neg (by rw[h7];decide),if_pos (rS (p:=λz:Attr=>decide (z.name=((bg t i).getD x default).name)) hlty hx h8)]
          rw[wD hsx hlt hq (by rw[e5];decide),e5]
         ·exact bM (y+1) ⟨hlty,tR hqy h8⟩ (by omega) (by rw[bz hlty (by omega)];exact bX)
        ·have aCE:x<=y:=by simpa using ql
         have e6:f x=vl ((bg t i).getD x default):=by rw[e];unfold tc;rw[if_neg (by rw[h7];decide),if_neg (by rw[oh (p:=λz:Attr=>decide (z.name=((bg t i).getD x default).name)) hx λj hj=>hqy j (by omega)];decide)]
         simp only[go_sem,aD,getD_map aJ hi,hi,aJ,getD_map aU hlt,hlt,aU];refine aY (agN ((bg t i).getD x default) hA) (by simp only[go_sem,aD,getD_map aJ hi,hi,aJ,getD_map aU hlt,hlt,aU]<;>rfl) (b6 rfl) ?_;simp only[go_sem,aD,getD_map aJ hi,hi,aJ,getD_map aU hlt,hlt,aU];rw[<-e6];refine aW (λh9=>?_) (λh9=>?_)<;>simp only[go_sem,aD,getD_map aJ hi,hi,aJ,getD_map aU hlt,hlt,aU]
         ·have h9':=cu h9;exact bM (x+1) ⟨⟨by omega,hlt⟩,λj hj hj'=>by
           rcases Nat.lt_succ_iff_lt_or_eq.1 hj' with h|h
           ·exact hq j hj h
           ·rw[h];exact h9'⟩ (by omega) (by rw[bz hlt (by omega)];exact bX)
         ·have h9':=en h9;rw[wD hsx hlt hq h9']
       ·have e2:f x=2:=by rw[e];unfold tc;rw[if_pos h7]
        rw[wD hsx hlt hq (by rw[e2];decide),e2]
      ·have hge:(bg t i).length<=x:=by have:=en hc;omega
       simp only[go_sem,aD,getD_map aJ hi,hi,aJ];rw[sq λj hj hj'=>hq j hj (by omega)]
   ·simp only[Bool.and_eq_false_iff,decide_eq_false_iff_not] at h3;rw[if_pos (by omega)]
 ·unfold kF;rw[if_pos h1]
def vM(l:List Int)(i:Nat):List Int:=(List.range l.length).map λk=>if k<i\/l.length-1-i<k then l.getD (l.length-1-k) default else l.getD k default
theorem ab3(l:List Int)(i:Nat):(vM l i).length=l.length:=by simp[vM]
theorem asQ(l:List Int):vM l 0=l:=by
 apply List.ext_getElem
 ·simp[vM]
 ·intro k h1 h2;simp only[vM,List.getElem_map,List.getElem_range,Nat.not_lt_zero,false_or,Nat.sub_zero];rw[if_neg (by omega)];simp[h2]
theorem axc(l:List Int)(i:Nat)(h:l.length<=2 * i+1):vM l i=l.reverse:=by
 apply List.ext_getElem
 ·simp[vM]
 ·intro k h1 h2;have hk:k<l.length:=by simpa using h2
  simp only[vM,List.getElem_map,List.getElem_range,List.getElem_reverse];have h3:l.length-1-k<l.length:=by omega
  split
  ·simp[h3]
  ·have e:k=l.length-1-k:=by omega
   have:l[l.length-1-k]=l[k]:=by congr 1;omega
   rw[this];simp[hk]
theorem aqj(l:List Int)(i k:Nat)(hk:k<l.length):(vM l i).getD k default=if k<i\/l.length-1-i<k then l.getD (l.length-1-k) default else l.getD k default:=by simp only[vM,List.getD_eq_getElem?_getD,List.getElem?_map,List.getElem?_range hk,Option.map_some,Option.getD_some]
theorem asR(l:List Int)(i:Nat)(h:2 * i+1<l.length):((vM l i).set i (l.getD (l.length-1-i) default)).set (l.length-1-i) (l.getD i default)=vM l (i+1):=by
 apply List.ext_getElem
 ·simp[vM]
 ·intro k h1 h2;have hk:k<l.length:=by simpa[vM] using h2
  simp only[List.getElem_set,vM,List.getElem_map,List.getElem_range];split
  ·rename_i e;rw[if_pos (by omega)];congr 1;omega
  ·split
   ·rename_i e;rw[if_pos (by omega),e]
   ·by_cases h3:k<i\/l.length-1-i<k
    ·rw[if_pos h3,if_pos (by omega)]
    ·rw[if_neg h3,if_neg (by omega)]
theorem ab4(l:List Int)(k:Nat)(y:Int):(l.map encI).set k [PV.val (.int .i64 y)]=(l.set k y).map encI:=by rw[List.map_set];try rfl
theorem aoA(l:List Int)(hl:l.length<=1000000)(v:Nat):kE pw 347 v 3 1 (l.map encI) [] (λa c=>a = .dQ []/\c=some (.row v 3 1 (l.reverse.map encI))):=by
 refine mK [] Ty.mixed func347 rfl (by kernel_rfl) (by simp[ntmps347]) ?_;rw[ntmps347,results347];simp only[go_sem];have hw:i64.wrap ((l.length:Int)-1)=(l.length:Int)-1:=IntWalk.i64_in _ (by omega);rw[hw];refine bL (σ:=Nat) (λx=>(cE (cE (cE fT 0 (.row 1000000 v)) 2 (.p (.val (.int .i64 x)))) 3 (.p (.val (.int .i64 ((l.length:Int)-1-x)))))) (λx=>(bk cm 1000000 (.row v 3 1 ((vM l x).map encI))))
  (λx=>2 * x<=l.length+1) (λx=>l.length-2 * x) 0 (by omega) ?_ ?_
 ·rw[asQ];exact bX
 rintro x hx;simp only[go_sem];refine aK (λhc=>?_) (λhc=>?_)
 ·have ql:=cu hc;have hx1:x<l.length:=by omega
  have hj1:((l.length:Int)-1-x).toNat=l.length-1-x:=by omega
  have hj2:l.length-1-x<l.length:=by omega
  have hlx:x<(vM l x).length:=by rw[ab3];exact hx1
  have hlj:l.length-1-x<(vM l x).length:=by rw[ab3];exact hj2
  have hv1:(vM l x).getD (l.length-1-x) default=l.getD (l.length-1-x) default:=by rw[aqj l x _ hj2,if_neg (by omega)]
  have hv2:(vM l x).getD x default=l.getD x default:=by rw[aqj l x _ hx1,if_neg (by omega)]
  have aEi:l.length-1-x<((vM l x).set x (l.getD (l.length-1-x) default)).length:=by rw[List.length_set];exact hlj
  simp only[go_sem,hv1,hv2,ab4,getD_map encI aEi,hj1,getD_map encI hlx,getD_map encI hlj,encI,ab3,List.length_set];refine dw [.q,.q,.p,.p,.q,.q,.q,.q,.q,.q,.q,.q,.q,.w,.q,.w] (by kernel_rfl) ?_;simp only[go_sem,hv1,hv2,ab4,getD_map encI aEi,hj1,getD_map encI hlx,getD_map encI hlj,encI,ab3,List.length_set];refine⟨by omega,hj2,hx1,hx1,hx1,hx1,by omega,hj2,?_⟩;rw[asR l x (by omega),bz (show x<l.length from hx1) (by omega)];have hw2:i64.wrap ((l.length:Int)-1-x-1)=(l.length:Int)-1-((x+1:Nat):Int):=by rw[IntWalk.i64_in _ (by omega)];omega
  rw[hw2];exact bM (x+1) (by omega) (by omega) bX
 ·have ql:=en hc;simp only[go_sem];rw[axc l x (by omega)]
theorem axd(l:List Int):∀x∈l.map encI,x.length=1:=by intro x hx;obtain⟨a,_,rfl⟩:=List.mem_map.1 hx;rfl
theorem ahv(l:List Int)(hl:l.length<=1000000):br pw 90 [.aV (l.map encI)] (λr=>r = .row 3 1 (l.map encI)):=by
 by_cases h0:l=[]
 ·subst h0;refine br.tB (by kernel_rfl) λao cap=>?_
  refine bB [5] func90 ?_;rw[ntmps90,results90];simp only[go_sem];cases ao with
  |none=>simp only[go_sem];exact⟨by decide,_,.nil _ _ (by decide),rfl⟩
  |some a=>simp only[go_sem];exact⟨λ_ h=>h.elim,by decide,_,.refl _,rfl⟩
 ·have hne:l.map encI≠[]:=by simpa using h0
  refine bB [5] func90 ?_;rw[ntmps90,results90];simp only[go_sem,hne];exact⟨⟨by omega,axd l⟩,by decide,_,.refl _,rfl⟩
theorem alm(l:List ByteArray):∀x∈l.map iG,x.length=1:=by intro x hx;obtain⟨a,_,rfl⟩:=List.mem_map.1 hx;rfl
theorem asS(l:List ByteArray)(hl:l.length<=1000000):br pw 293 [.aV (l.map iG)] (λr=>r = .row 9 1 (l.map iG)):=by
 by_cases h0:l=[]
 ·subst h0;refine br.tB (by kernel_rfl) λao cap=>?_
  refine bB [5] func293 ?_;rw[ntmps293,results293];simp only[go_sem];cases ao with
  |none=>simp only[go_sem];exact⟨by decide,_,.nil _ _ (by decide),rfl⟩
  |some a=>simp only[go_sem];exact⟨λ_ h=>h.elim,by decide,_,.refl _,rfl⟩
 ·have hne:l.map iG≠[]:=by simpa using h0
  refine bB [5] func293 ?_;rw[ntmps293,results293];simp only[go_sem,hne];exact⟨⟨by omega,alm l⟩,by decide,_,.refl _,rfl⟩
theorem axe(t:Types)(hf:fM t)(i:Nat)(hi:i<t.au.length):aS pw 139 [aD t,.val (.int .i64 i)] (λr=>r = .val (.int .i64 (nQ t i))):=by
 have hn:=hf.au;have hn':=hf.nodes;refine aQ [] func139 ?_;rw[ntmps139,results139];simp only[go_sem,aD,getD_map aL hi,hi,aL];refine aY (xe (t.au.getD i default).name (Nat.le_trans (hf.aw6 _ (ia hi)) (by decide))) (by simp only[go_sem,aD,getD_map aL hi,hi,aL]<;>rfl) (b6 rfl) ?_;simp only[go_sem,aD,getD_map aL hi,hi,aL];refine aW (λh1=>?_) (λh1=>?_)<;>simp only[go_sem,aD,getD_map aL hi,hi,aL]
 ·refine bL (σ:=Nat) (λx=>(cE (cE (cE (cE fT 1 (.p (.val (.int .i64 i)))) 2 (.ptr 2 0)) 5 (.ptr 5 0)) 6 (.p (.val (.int .i64 x)))))
   (λx=>(bk (bk cm 2 (.box [.p (.aV (t.nodes.map aJ)),.p (.aV (t.au.map aL))])) 5 (.box [.p (.val (.string (t.au.getD i default).name)),.p (.val (.int .i64 (t.au.getD i default).src)),.p (.val (.int .i64 (t.au.getD i default).dst)),.p (.val (.int .i64 (t.au.getD i default).nL)),.p (.val (.int .i64 (t.au.getD i default).jZ)),.p (.val (.int .i64 (t.au.getD i default).ta)),.p (.val (.int .i64 (t.au.getD i default).oe))])))
   (λx=>x<=i/\∀j,j<x->decide ((t.au.getD j default).name=(t.au.getD i default).name)=false) (λx=>i-x) 0 ⟨Nat.zero_le _,λj hj=>absurd hj (Nat.not_lt_zero j)⟩ bX ?_
  rintro x ⟨hx,hqx⟩;simp only[go_sem,aD,getD_map aL hi,hi,aL];refine aK (λhc=>?_) (λhc=>?_)
  ·have aoz:x<i:=by simpa using hc
   have hxl:x<t.au.length:=by omega
   simp only[go_sem,aD,getD_map aL hi,hi,aL,getD_map aL hxl,hxl];refine dw [.q,.q,.q,.q,.q,.q,.q,.q,.q] (by kernel_rfl) ?_;simp only[go_sem,aD,getD_map aL hi,hi,aL,getD_map aL hxl,hxl];refine aK (λh2=>?_) (λh2=>?_)<;>simp only[go_sem,aD,getD_map aL hi,hi,aL,getD_map aL hxl,hxl]
   ·have:nQ t i=5:=by unfold nQ;rw[if_neg (by rw[h1];decide),if_pos (rS (p:=λy:lU=>decide (y.name=(t.au.getD i default).name)) aoz (by omega) h2)]
    rw[this]
   ·exact bM (x+1) ⟨aoz,tR hqx h2⟩ (by omega) (by rw[bz aoz (by omega)];exact bX)
  ·have hge:i<=x:=by simpa using hc
   have ae5:=oh (p:=λy:lU=>decide (y.name=(t.au.getD i default).name)) (Nat.le_of_lt hi) λj hj=>hqx j (by omega)
   have e1:nQ t i=if ((inB t (t.au.getD i default).src&&inB t (t.au.getD i default).dst)&&(vK (t.au.getD i default).nL (t.au.getD i default).jZ&&vK (t.au.getD i default).ta (t.au.getD i default).oe))=true then 0 else 6:=by unfold nQ;rw[if_neg (by rw[h1];decide),if_neg (by rw[ae5];decide)]
   rw[e1];clear e1;have hw:i64.wrap ((t.nodes.length:Int)-1)=(t.nodes.length:Int)-1:=IntWalk.i64_in _ (by omega);have hin:∀n:Int,(decide (0<=n)&&decide (n<=(t.nodes.length:Int)-1))=inB t n:=λn=>by unfold inB;congr 1;rw[decide_eq_decide];omega
   simp only[go_sem,aD,getD_map aL hi,hi,aL,hw];refine aY (aaM (t.au.getD i default).src 0 ((t.nodes.length:Int)-1)) (by simp only[go_sem,aD,getD_map aL hi,hi,aL,hw]<;>rfl) (b6 rfl) ?_;simp only[go_sem,hin,aD,getD_map aL hi,hi,aL,hw];refine bP (λh3=>?_) (λh3=>?_)<;>simp only[go_sem,h3,aD,getD_map aL hi,hi,aL,hw]
   refine aY (aaM (t.au.getD i default).dst 0 ((t.nodes.length:Int)-1)) (by simp only[go_sem,aD,getD_map aL hi,hi,aL,hw]<;>rfl) (b6 rfl) ?_;simp only[go_sem,hin,h3,aD,getD_map aL hi,hi,aL,hw];refine bP (λh4=>?_) (λh4=>?_)<;>simp only[go_sem,h4,aD,getD_map aL hi,hi,aL,hw]
   refine aY (ald (t.au.getD i default).nL (t.au.getD i default).jZ) (by simp only[go_sem,aD,getD_map aL hi,hi,aL,hw]<;>rfl) (b6 rfl) ?_;simp only[go_sem,aD,getD_map aL hi,hi,aL,hw];refine bP (λh5=>?_) (λh5=>?_)<;>simp only[go_sem,h5,aD,getD_map aL hi,hi,aL,hw]
   refine aY (ald (t.au.getD i default).ta (t.au.getD i default).oe) (by simp only[go_sem,aD,getD_map aL hi,hi,aL,hw]<;>rfl) (b6 rfl) ?_;simp only[go_sem,aD,getD_map aL hi,hi,aL,hw];refine aW (λh6=>?_) (λh6=>?_)<;>simp only[go_sem,h6,aD,getD_map aL hi,hi,aL,hw]
 ·unfold nQ;rw[if_pos h1]
theorem ac5(t:Types)(hf:fM t):aS pw 78 [aD t] (λr=>r = .dQ [.val (.string (gC t).1),.val (.int .i64 (gC t).2)]):=by
 have hn:=hf.nodes;have hm:=hf.au;refine aQ [] func78 ?_;rw[ntmps78,results78];simp only[go_sem,aD];refine aK (λh1=>?_) (λh1=>?_)<;>simp only[go_sem,aD]
 ·have tA:=cu h1;unfold gC;rw[if_pos (by omega)];exact⟨rfl,rfl⟩
 ·have tA:=en h1;have hN:t.nodes.length≠0:=by omega
  have yB:12<t.nodes.length\/20<t.au.length->gC t=(⟨#[]⟩,3):=λh=>by unfold gC;rw[if_neg hN,if_pos h]
  refine bU (λh2=>?_) (λh2=>?_)<;>simp only[go_sem,h2,aD]
  ·have h2':=cu h2;rw[yB (by omega)];exact⟨rfl,rfl⟩
  ·have h2':=en h2;refine aK (λh3=>?_) (λh3=>?_)<;>simp only[go_sem,aD]
   ·have h3':=cu h3;rw[yB (by omega)];exact⟨rfl,rfl⟩
   ·have h3':=en h3
    have hV : gC t = match kj (kF t) 0 t.nodes.length with
      |some k=>((t.nodes.getD k default).name,kF t k)
      |none=>match kj (nQ t) 0 t.au.length with
       |some k=>((t.au.getD k default).name,nQ t k)
       |none=>(⟨#[]⟩,0):=by unfold gC;rw[if_neg hN,if_neg (by omega)];try rfl
    clear yB;refine bL (σ:=Nat) (λx=>(cE (cE fT 1 (.ptr 1 0)) 4 (.p (.val (.int .i64 x)))))
     (λx=>(bk cm 1 (.box [.p (.aV (t.nodes.map aJ)),.p (.aV (t.au.map aL))])))
     (λx=>x<=t.nodes.length/\∀j,j<x->kF t j=0) (λx=>t.nodes.length-x) 0 ⟨Nat.zero_le _,λj hj=>absurd hj (Nat.not_lt_zero j)⟩ bX ?_
    rintro x ⟨hx,hq⟩;simp only[go_sem,aD];refine aK (λhc=>?_) (λhc=>?_)
    ·have hlt:x<t.nodes.length:=by simpa using hc
     simp only[go_sem,aD,getD_map aJ hlt,hlt,aJ];refine aY (axb t hf x hlt (afk hq)) (by simp only[go_sem,aD,getD_map aJ hlt,hlt,aJ]<;>rfl) (b6 rfl) ?_;simp only[go_sem,aD,getD_map aJ hlt,hlt,aJ];refine aW (λh4=>?_) (λh4=>?_)<;>simp only[go_sem,aD,getD_map aJ hlt,hlt,aJ]
     ·have y4:=cu h4;exact bM (x+1) ⟨hlt,all_succ hq y4⟩ (by omega) (by rw[bz hlt (by omega)];exact bX)
     ·have y4:=en h4;rw[hV,lV (Nat.zero_le _) hlt (λj _=>hq j) y4];exact⟨rfl,rfl⟩
    ·have hge:t.nodes.length<=x:=by simpa using hc
     have hN0:kj (kF t) 0 t.nodes.length=none:=gl λj _ hj=>hq j (by omega)
     rw[hN0] at hV;simp only[] at hV;simp only[go_sem,aD];refine bL (σ:=Nat) (λx=>(cE (cE fT 1 (.ptr 1 0)) 6 (.p (.val (.int .i64 x)))))
      (λx=>(bk cm 1 (.box [.p (.aV (t.nodes.map aJ)),.p (.aV (t.au.map aL))])))
      (λx=>x<=t.au.length/\∀j,j<x->nQ t j=0) (λx=>t.au.length-x) 0 ⟨Nat.zero_le _,λj hj=>absurd hj (Nat.not_lt_zero j)⟩ bX ?_
     rintro y ⟨hy,hq'⟩;simp only[go_sem,aD];refine aK (λql=>?_) (λql=>?_)
     ·have hlt:y<t.au.length:=by simpa using ql
      simp only[go_sem,aD,getD_map aL hlt,hlt,aL];refine aY (axe t hf y hlt) (by simp only[go_sem,aD,getD_map aL hlt,hlt,aL]<;>rfl) (b6 rfl) ?_;simp only[go_sem,aD,getD_map aL hlt,hlt,aL];refine aW (λh4=>?_) (λh4=>?_)<;>simp only[go_sem,aD,getD_map aL hlt,hlt,aL]
      ·have y4:=cu h4;exact bM (y+1) ⟨hlt,all_succ hq' y4⟩ (by omega) (by rw[bz hlt (by omega)];exact bX)
      ·have y4:=en h4;rw[hV,lV (Nat.zero_le _) hlt (λj _=>hq' j) y4];exact⟨rfl,rfl⟩
     ·have hge:t.au.length<=y:=by simpa using ql
      simp only[go_sem,aD];rw[hV,gl λj _ hj=>hq' j (by omega)];exact⟨rfl,rfl⟩
theorem vm{f:Nat->Int}{s n k:Nat}(h:kj f s n=some k):f k≠0:=by unfold kj at h;have:=List.find?_some h;simpa using this
theorem xg{f:Nat->Int}{n:Nat}(h:kj f 0 n=none):∀j,j<n->f j=0:=by intro j hj;unfold kj at h;rw[List.find?_eq_none] at h;have:=h j (by rw[List.mem_range'_1];omega);simpa using this
structure OkT(t:Types):Prop where
 wU:fM t
 pos:0<t.nodes.length
 n12:t.nodes.length<=12
 m20:t.au.length<=20
 node:∀j,j<t.nodes.length->kF t j=0
 iu:∀j,j<t.au.length->nQ t j=0
theorem tD{t:Types}(hf:fM t)(h:(gC t).2=0):OkT t:=by
 unfold gC at h;split at h
 ·cases h
 ·split at h
  ·cases h
  ·split at h
   ·rename_i hk;exact absurd h (vm hk)
   ·split at h
    ·rename_i hk;exact absurd h (vm hk)
    ·rename_i h1 h2 _ h3 _ h4;exact⟨hf,by omega,by omega,by omega,xg h3,xg h4⟩
theorem OkT.par{t:Types}(h:OkT t):qp t t.nodes.length:=afk h.node
theorem OkT.par'{t:Types}(h:OkT t){a:Nat}(ha:a<t.nodes.length):qp t (a+1):=λj hj=>h.par j (by omega)
theorem OkT.ends{t:Types}(h:OkT t){i:Nat}(hi:i<t.au.length):inB t (t.au.getD i default).src=true/\inB t (t.au.getD i default).dst=true:=by
 have:=h.iu i hi;unfold nQ at this;split at this
 ·cases this
 ·split at this
  ·cases this
  ·split at this
   ·rename_i h1;simp only[Bool.and_eq_true] at h1;exact h1.1
   ·cases this
theorem xh{t:Types}{n:Int} : inB t n=true↔0<=n/\n<t.nodes.length:=by unfold inB;simp only[Bool.and_eq_true,decide_eq_true_eq]
def upK(t:Types):Nat->Int->List Int
 |0,_=>[]
 |k+1,a=>if a<0 then [] else a :: upK t k (t.nodes.getD a.toNat default).parent
def upL(t:Types)(a:Int):List Int:=upK t (a.toNat+1) a
def isB(t:Types)(a b:Int):Bool:=(upL t a).any λx=>decide (x=b)
theorem ai9{t:Types}{a:Int}(h:a<0):upL t a=[]:=by unfold upL upK;rw[if_pos h]
theorem aln{t:Types} : ∀ (k k':Nat) (a:Int),(∀j:Nat,(j:Int)<=a->-1<=(t.nodes.getD j default).parent/\(t.nodes.getD j default).parent<j)->a<k->a<k'->0<k->0<k'->upK t k a=upK t k' a
 |0,_,_,_,_,_,h,_=>by omega
 |_+1,0,_,_,_,_,_,h=>by omega
 |k+1,k'+1,a,hp,h,h',_,_=>by
  unfold upK;split
  ·rfl
  ·rename_i h0;have hq:=hp a.toNat (by omega);congr 1;cases k with
   |zero =>
    cases k' with
    |zero=>rfl
    |succ k' =>
     have:(t.nodes.getD a.toNat default).parent<0:=by omega
     unfold upK;rw[if_pos this]
   |succ k =>
    cases k' with
    |zero =>
     have:(t.nodes.getD a.toNat default).parent<0:=by omega
     unfold upK;rw[if_pos this]
    |succ k'=>exact aln (k+1) (k'+1) _ (λj hj=>hp j (by omega)) (by omega) (by omega) (by omega) (by omega)
theorem alo{t:Types}{a:Nat}(hp:qp t (a+1)):upL t a=(a:Int) :: upL t (t.nodes.getD a default).parent:=by
 have hq:=hp a (by omega);have e:upL t a=(a:Int) :: upK t a (t.nodes.getD a default).parent:=by
  unfold upL;rw[Int.toNat_natCast]
  conv=>lhs;unfold upK
  rw[if_neg (by omega),Int.toNat_natCast]
 rw[e];congr 1;by_cases h0:(t.nodes.getD a default).parent<0
 ·rw[ai9 h0];cases a with
  |zero=>rfl
  |succ a=>unfold upK;rw[if_pos h0]
 ·unfold upL;exact aln _ _ _ (λj hj=>hp j (by omega)) (by omega) (by omega) (by omega) (by omega)
theorem aqk{t:Types}{a b:Int}(h:a<0):isB t a b=false:=by unfold isB;rw[ai9 h];try rfl
theorem alp{t:Types}{a:Nat}(hp:qp t (a+1))(b:Int):isB t a b=(decide ((a:Int)=b)||isB t (t.nodes.getD a default).parent b):=by unfold isB;rw[alo hp];try rfl
def qq(t:Types)(l:List Int):Int:=if (gC t).2≠0 then (gC t).2 else if l.any (λa=>!inB t a)=true then 6 else 0
theorem ac6(t:Types)(b:Int)(hb:0<=b)(hf:fM t):∀ (n:Nat) (a:Int),a<n->-1<=a->a<t.nodes.length->qp t t.nodes.length->aS pw 155 [aD t,.val (.int .i64 a),.val (.int .i64 b)] (λr=>r = .val (.bool (isB t a b))):=by
 intro n
 induction n with
 |zero =>
  intro a hn ha hl hp;rw[aqk (by omega)];refine aQ [] func155 ?_;rw[ntmps155,results155];simp only[go_sem,aD];refine dw [.q,.q,.q,.q,.q,.q,.q,.q,.q,.q,.q,.q,.q,.q,.q,.q,.q,.q,.q] (by kernel_rfl) ?_;simp only[go_sem];refine pg (λh1=>?_) (λh1=>?_)<;>simp only[go_sem,h1]
  ·have:=cu h1;omega
  ·refine oB (λh2=>?_) (λh2=>?_)<;>simp only[go_sem,h1,h2]
   have:=cu h2;omega
 |succ n ih =>
  intro a hn ha hl hp;refine aQ [] func155 ?_;rw[ntmps155,results155];simp only[go_sem,aD];refine dw [.q,.q,.q,.q,.q,.q,.q,.q,.q,.q,.q,.q,.q,.q,.q,.q,.q,.q,.q] (by kernel_rfl) ?_;simp only[go_sem,aD];refine pg (λh1=>?_) (λh1=>?_)<;>simp only[go_sem,h1,aD]
  ·have tA:=cu h1;subst tA;obtain⟨q,rfl⟩:∃q:Nat,a=q:=⟨_,(Int.toNat_of_nonneg hb).symm⟩;rw[alp (λj hj=>hp j (by omega))];simp
  ·have tA:=en h1;refine oB (λh2=>?_) (λh2=>?_)<;>simp only[go_sem,h1,h2,aD]
   ·have h2':=cu h2;obtain⟨q,rfl⟩:∃q:Nat,a=q:=⟨_,(Int.toNat_of_nonneg h2').symm⟩;have hq:q<t.nodes.length:=by omega
    have hpq:=hp q hq;simp only[go_sem,aD,getD_map aJ hq,hq,aJ];refine jE (ih (t.nodes.getD q default).parent (by omega) hpq.1 (by omega) hp) (by simp only[go_sem,aD,getD_map aJ hq,hq,aJ]<;>rfl) (b6 rfl) ?_;simp only[go_sem,h1,h2,aD,getD_map aJ hq,hq,aJ];rw[alp (λj hj=>hp j (by omega)),h1,Bool.false_or]
   ·have h2':=en h2;rw[aqk (by omega)]
theorem asT(t:Types)(n:Int):aS pw 294 [.val (.int .i64 n),.dU [.aV (t.nodes.map aJ),.aV (t.au.map aL)] 0] (λr=>r = .val (.bool (!inB t n))):=by
 refine aQ [] func294 ?_;rw[ntmps294,results294];simp only[go_sem];unfold inB
 repeat' first|done|(refine bU (λh=>?_) (λh=>?_)<;>try simp only[go_sem,h])|(refine bP (λh=>?_) (λh=>?_)<;>try simp only[go_sem,h])|(refine aW (λh=>?_) (λh=>?_)<;>try simp only[go_sem,h])|(refine aK (λh=>?_) (λh=>?_)<;>try simp only[go_sem,h])
 all_goals(simp only[decide_eq_true_eq,decide_eq_false_iff_not,Bool.not_eq_true',Bool.not_eq_false'] at *;rw[Bool.eq_iff_iff];simp only[Bool.not_eq_true',Bool.not_eq_false',Bool.and_eq_true,Bool.or_eq_true,Bool.and_eq_false_iff,Bool.or_eq_false_iff,decide_eq_true_eq,decide_eq_false_iff_not,Bool.false_eq_true,true_iff,iff_true,false_iff,iff_false];omega)
theorem afm(t:Types)(hf:fM t)(l:List Int)(hl:l.length<=1000000):aS pw 233 [aD t,.aV (l.map encI)] (λr=>r = .val (.int .i64 (qq t l))):=by
 unfold qq;refine aQ [] func233 ?_;rw[ntmps233,results233];simp only[go_sem,aD];refine aY (alj t hf) (by simp only[go_sem,aD]<;>rfl) (b6 rfl) ?_;simp only[go_sem,aD];refine aW (λh1=>?_) (λh1=>?_)<;>simp only[go_sem,aD]
 ·have tA:=cu h1;rw[if_neg (by rw[tA];decide)];refine aY (ab1 (λa=>!inB t a) l hl _ [] [.dU [.aV (t.nodes.map aJ),.aV (t.au.map aL)] 0] (λy _=>asT t y)) (by simp only[go_sem,aD]<;>rfl) (b6 rfl) ?_;simp only[go_sem,aD];refine aK (λh2=>?_) (λh2=>?_)<;>simp only[go_sem,aD]
  ·rw[if_pos h2]
  ·rw[if_neg (by rw[h2];decide)]
 ·have tA:=en h1;rw[if_pos tA]
theorem ahw(t:Types)(hf:fM t)(a b:Int):aS pw 152 [aD t,.val (.int .i64 a),.val (.int .i64 b)] (λr=>r = .val (.int .i64 (qq t [a,b]))):=by
 have hn':=hf.nodes;have hw:i64.wrap ((t.nodes.length:Int)-1)=(t.nodes.length:Int)-1:=IntWalk.i64_in _ (by omega);have hin:∀n:Int,(decide (0<=n)&&decide (n<=(t.nodes.length:Int)-1))=inB t n:=λn=>by unfold inB;congr 1;rw[decide_eq_decide];omega
 unfold qq;refine aQ [] func152 ?_;rw[ntmps152,results152];simp only[go_sem,aD];refine aY (ac5 t hf) (by simp only[go_sem,aD]<;>rfl) (b6 rfl) ?_;simp only[go_sem,aD];refine aW (λh1=>?_) (λh1=>?_)<;>simp only[go_sem,aD]
 ·have tA:=cu h1;rw[if_neg (by rw[tA];decide)];simp only[go_sem,hw,aD];refine aY (aaM a 0 ((t.nodes.length:Int)-1)) (by simp only[go_sem,aD]<;>rfl) (b6 rfl) ?_;simp only[go_sem,hin,aD];refine bP (λh2=>?_) (λh2=>?_)<;>simp only[go_sem,h2,hw,aD]
  case refine_2=>simp[h2]
  refine aY (aaM b 0 ((t.nodes.length:Int)-1)) (by simp only[go_sem,aD]<;>rfl) (b6 rfl) ?_;simp only[go_sem,hin,aD];refine aW (λh3=>?_) (λh3=>?_)<;>simp only[go_sem,h3,aD]
  all_goals simp[h2,h3]
 ·have tA:=en h1;rw[if_pos tA]
theorem aAO(t:Types)(ht:OkT t)(a:Nat)(ha:a<t.nodes.length):aS pw 295 [aD t,.val (.int .i64 a)] (λr=>r = .aV ((upL t a).reverse.map encI)):=by
 have hn:=ht.n12;refine aQ [] func295 ?_;rw[ntmps295,results295];simp only[go_sem,aD];refine bL (σ:=Int×List Int×Nat) (λx=>(cE (cE (cE fT 1 (.p (.val (.int .i64 x.1)))) 2 (.ptr 2 0)) 5 (.row 5 x.2.2)))
  (λx=>(bk (bk cm 2 (.box [.p (.aV (t.nodes.map aJ)),.p (.aV (t.au.map aL))])) 5 (.row x.2.2 3 1 (x.2.1.map encI))))
  (λx=>(-1<=x.1/\x.1<t.nodes.length/\x.2.1.length+(x.1+1).toNat<=20)/\x.2.1++upL t x.1=upL t a) (λx=>(x.1+1).toNat) ((a:Int),[],0) ⟨⟨by omega,by omega,by simp;omega⟩,by simp⟩
  ((iF 5 5 3 1 rfl rfl (by decide)).trans bX) ?_
 rintro⟨c,acc,v⟩ ⟨⟨h1,h2,h3⟩,h4⟩;simp only at h1 h2 h3 h4;simp only[go_sem];refine aK (λhc=>?_) (λhc=>?_)
 ·have ql:=cu hc;obtain⟨q,rfl⟩:∃q:Nat,c=q:=⟨_,(Int.toNat_of_nonneg ql).symm⟩;have hq:q<t.nodes.length:=by omega
  have hpq:=ht.par q hq;simp only[go_sem,getD_map aJ hq,hq,aJ];refine⟨by omega,?_⟩;rw[alo (ht.par' hq)] at h4;generalize (t.nodes.getD q default).parent=par at hpq h4 ⊢;refine bM (par,acc++[(q:Int)],v+1) ⟨⟨by dsimp only;omega,by dsimp only;omega,by simp only[List.length_append,List.length_cons,List.length_nil];omega⟩,?_⟩ (by dsimp only;omega) ?_
  ·rw[<-h4,List.append_assoc];try rfl
  ·rw[List.map_append];exact bX
 ·have ql:=en hc;rw[ai9 (by omega),List.append_nil] at h4;subst h4;simp only[go_sem];refine ab0 (aoA (upL t a) (by omega) v) (by simp only[go_sem]<;>rfl) (by simp only[go_sem]<;>rfl) (by simp only[go_sem]<;>rfl) (λh=>by cases h) ?_;simp only[go_sem]
theorem aoB(t:Types)(ht:OkT t)(a:Nat)(ha:a<t.nodes.length)(b:Int):aS pw 234 [aD t,.val (.int .i64 a),.val (.int .i64 b)] (λr=>r = .val (.bool (isB t a b))):=by
 have hl:∀n:Int,-1<=n->n<t.nodes.length->(upL t n).length<=n.toNat+1:=by
  intro n h1 h2;have:∀ (k:Nat) (n:Int),(upK t k n).length<=k:=by
   intro k
   induction k with
   |zero=>intro n;simp[upK]
   |succ k ih =>
    intro n;unfold upK;split
    ·simp
    ·simp only[List.length_cons];exact Nat.succ_le_succ (ih _)
  exact this _ _
 have hla:=hl a (by omega) (by omega);have hn:=ht.n12;refine aQ [] func234 ?_;rw[ntmps234,results234];simp only[go_sem,aD];refine aY (aAO t ht a ha) (by simp only[go_sem]<;>rfl) (yq) ?_;simp only[go_sem];refine aY (aAD ((upL t a).reverse) b (by simp;omega)) (by simp only[go_sem]<;>rfl) (b6 rfl) ?_;simp only[go_sem];unfold isB;rw[Bool.eq_iff_iff];simp only[List.any_eq_true,List.mem_reverse,decide_eq_true_eq];constructor
 ·rintro⟨x,h1,h2⟩;exact⟨x,h1,h2.symm⟩
 ·rintro⟨x,h1,h2⟩;exact⟨x,h1,h2.symm⟩
theorem ahx{t:Types}{a b:Int}(hf:fM t)(h:qq t [a,b]=0):OkT t/\(0<=a/\a<t.nodes.length)/\(0<=b/\b<t.nodes.length):=by
 unfold qq at h;split at h
 ·rename_i h1;exact absurd h h1
 ·rename_i h1;split at h
  ·cases h
  ·rename_i h2;refine⟨tD hf (Decidable.of_not_not h1),?_⟩;simp only[List.any_cons,List.any_nil,Bool.or_false,Bool.or_eq_true,Bool.not_eq_true',not_or,Bool.not_eq_false] at h2;exact⟨xh.1 h2.1,xh.1 h2.2⟩
def qU(t:Types)(e a b:Int):Bool:=decide (qq t [a,b]=0)&&((decide (0<=e)&&decide (e<t.au.length))&&(isB t a (t.au.getD e.toNat default).src&&isB t b (t.au.getD e.toNat default).dst))
theorem aAP(t:Types)(hf:fM t)(e a b:Int):aS pw 136 [aD t,.val (.int .i64 e),.val (.int .i64 a),.val (.int .i64 b)] (λr=>r = .val (.bool (qU t e a b))):=by
 refine aQ [] func136 ?_;rw[ntmps136,results136];simp only[go_sem,aD];refine aY (afm t hf [a,b] (by simp)) (by simp only[go_sem,aD]<;>rfl) (b6 rfl) ?_;simp only[go_sem,aD];refine bP (λh1=>?_) (λh1=>?_)<;>simp only[go_sem,h1,aD]
 ·have tA:=cu h1;obtain⟨ht,ha,hb⟩:=ahx hf tA;refine bU (λh2=>?_) (λh2=>?_)<;>simp only[go_sem,h1,h2,aD]
  ·have h2':=cu h2;unfold qU;rw[eZ (show ¬ 0<=e by omega)];simp
  ·have h2':=en h2;refine aK (λh3=>?_) (λh3=>?_)<;>simp only[go_sem,h1,h2,h3,aD]
   ·have h3':=cu h3;unfold qU;rw[eZ (show ¬ e<t.au.length by omega)];simp
   ·have h3':=en h3;obtain⟨k,rfl⟩:∃k:Nat,e=k:=⟨_,(Int.toNat_of_nonneg (by omega)).symm⟩;obtain⟨x,rfl⟩:∃k:Nat,a=k:=⟨_,(Int.toNat_of_nonneg ha.1).symm⟩;obtain⟨y,rfl⟩:∃k:Nat,b=k:=⟨_,(Int.toNat_of_nonneg hb.1).symm⟩;have hk:k<t.au.length:=by omega
    have e0:qU t k x y=(isB t x (t.au.getD k default).src&&isB t y (t.au.getD k default).dst):=by unfold qU;rw[h1,dK (show (0:Int)<=k by omega),dK (show (k:Int)<t.au.length by omega)];simp
    rw[e0];refine dw [.q,.q,.q,.q,.q,.q,.q,.q,.q,.q,.q,.q,.q,.q,.q,.q,.q,.q,.q,.q,.q] (by kernel_rfl) ?_;simp only[go_sem,aD,getD_map aL hk,hk,aL];refine jE (aoB t ht x (by omega) (t.au.getD k default).src) (by simp only[go_sem,aD,getD_map aL hk,hk,aL]<;>rfl) (b6 rfl) ?_;simp only[go_sem,aD,getD_map aL hk,hk,aL];refine oB (λh4=>?_) (λh4=>?_)<;>simp only[go_sem,h4,aD,getD_map aL hk,hk,aL]
    refine jE (aoB t ht y (by omega) (t.au.getD k default).dst) (by simp only[go_sem,aD,getD_map aL hk,hk,aL]<;>rfl) (b6 rfl) ?_;simp only[go_sem,h4,aD,getD_map aL hk,hk,aL]
 ·unfold qU;rw[h1];try rfl
theorem alq(t:Types)(hf:fM t)(e a b:Int):aS pw 94 [aD t,.val (.int .i64 e),.val (.int .i64 a),.val (.int .i64 b)] (λr=>r = .val (.bool (qU t e a b))):=by
 have hm:=hf.au;have hw:i64.wrap ((t.au.length:Int)-1)=(t.au.length:Int)-1:=IntWalk.i64_in _ (by omega);refine aQ [] func94 ?_;rw[ntmps94,results94];simp only[go_sem,aD];refine aY (ahw t hf a b) (by simp only[go_sem,aD]<;>rfl) (b6 rfl) ?_;simp only[go_sem,aD];refine bP (λh1=>?_) (λh1=>?_)<;>simp only[go_sem,h1,aD]
 ·have tA:=cu h1;obtain⟨ht,ha,hb⟩:=ahx hf tA;simp only[go_sem,hw,aD];refine aY (aaM e 0 ((t.au.length:Int)-1)) (by simp only[go_sem,aD]<;>rfl) (b6 rfl) ?_;simp only[go_sem,h1,aD];refine aW (λh2=>?_) (λh2=>?_)<;>simp only[go_sem,h1,h2,aD]
  ·have h2':0<=e/\e<=(t.au.length:Int)-1:=by simpa only[Bool.and_eq_true,decide_eq_true_eq] using h2
   obtain⟨k,rfl⟩:∃k:Nat,e=k:=⟨_,(Int.toNat_of_nonneg (by omega)).symm⟩;obtain⟨x,rfl⟩:∃k:Nat,a=k:=⟨_,(Int.toNat_of_nonneg ha.1).symm⟩;obtain⟨y,rfl⟩:∃k:Nat,b=k:=⟨_,(Int.toNat_of_nonneg hb.1).symm⟩;have hk:k<t.au.length:=by omega
   have e0:qU t k x y=(isB t x (t.au.getD k default).src&&isB t y (t.au.getD k default).dst):=by unfold qU;rw[h1,dK (show (0:Int)<=k by omega),dK (show (k:Int)<t.au.length by omega)];simp
   rw[e0];have axf:=ht.ends hk;rw[xh,xh] at axf;refine dw [.q,.q,.q,.q,.q,.q,.q,.q,.q,.q,.q,.q,.q,.q,.q,.q,.q,.q,.q,.q,.q] (by kernel_rfl) ?_;simp only[go_sem,aD,getD_map aL hk,hk,aL];refine jE (ac6 t (t.au.getD k default).src axf.1.1 hf t.nodes.length x (by omega) (by omega) (by omega) ht.par) (by simp only[go_sem,aD,getD_map aL hk,hk,aL]<;>rfl) (b6 rfl) ?_;simp only[go_sem,aD,getD_map aL hk,hk,aL];refine oB (λh4=>?_) (λh4=>?_)<;>simp only[go_sem,h4,aD,getD_map aL hk,hk,aL]
   refine jE (ac6 t (t.au.getD k default).dst axf.2.1 hf t.nodes.length y (by omega) (by omega) (by omega) ht.par) (by simp only[go_sem,aD,getD_map aL hk,hk,aL]<;>rfl) (b6 rfl) ?_;simp only[go_sem,h4,aD,getD_map aL hk,hk,aL]
  ·unfold qU;rw[h1];by_cases h0:0<=e
   ·have:¬ e<t.au.length:=by rw[dK h0,Bool.true_and] at h2;have:=en h2;omega
    rw[eZ this];simp
   ·rw[eZ h0];simp
 ·unfold qU;rw[h1];try rfl
theorem axg{α:Type} [Inhabited α](f:α->List PV){l:List α}{x:Nat}(h:x<l.length):(l.take x).map f++[f (l.getD x default)]=(l.take (x+1)).map f:=by rw[og h,List.map_append];try rfl
theorem alr(l:List Attr){x:Nat}(hx:x<l.length):(l.map aU).set x [.val (.string (l.getD x default).name),.val (.int .i64 (l.getD x default).low),.val (.int .i64 (l.getD x default).high),.aV ((l.getD x default).names.map iG)]=l.map aU:=by
 have:[PV.val (.string (l.getD x default).name),.val (.int .i64 (l.getD x default).low),.val (.int .i64 (l.getD x default).high),.aV ((l.getD x default).names.map iG)]=aU (l.getD x default):=rfl;rw[this,<-List.map_set];congr 1;have h2:l.getD x default=l[x]:=by simp[hx]
 rw[h2];simp
theorem OkT.valid{t:Types}(ht:OkT t):(gC t).2=0:=by unfold gC;rw[if_neg (by have:=ht.pos;omega),if_neg (by have:=ht.n12;have:=ht.m20;omega),gl λj _ hj=>ht.node j hj];simp only[];rw[gl λj _ hj=>ht.iu j hj]
theorem OkT.given{t:Types}(ht:OkT t){l:List Int}(hl:∀a∈l,0<=a/\a<t.nodes.length):qq t l=0:=by unfold qq;rw[if_neg (by rw[ht.valid];decide),if_neg];simp only[List.any_eq_true,Bool.not_eq_true',not_exists,not_and,Bool.not_eq_false];exact λa ha=>xh.2 (hl a ha)
theorem ahy(t:Types)(ht:OkT t)(a:Nat)(ha:a<t.nodes.length):aS pw 232 [aD t,.val (.int .i64 a)] (λr=>r = .dQ [.aV ((bg t a).map aU),.val (.int .i64 0)]):=by
 have hlen:=mL ht.wU ha (ht.par' ha);have hg:qq t [(a:Int)]=0:=ht.given (by simp;omega);refine aQ [] func232 ?_;rw[ntmps232,results232];simp only[go_sem,aD];refine aY (afm t ht.wU [(a:Int)] (by simp)) (by simp only[go_sem]<;>rfl) (b6 rfl) ?_;simp only[go_sem,hg];refine wB 18 (ali t ht.wU a ha (ht.par' ha)) (by simp only[go_sem]<;>rfl) (yX) (by simp only[go_sem]) ?_;simp only[go_sem];refine bL (σ:=Nat) (λx=>(cE (cE (cE fT 7 (.row 18 0)) 20 (.p (.val (.int .i64 (bg t a).length)))) 21 (.p (.val (.int .i64 x)))))
  (λx=>(bk cm 18 (.row 0 168 4 ((bg t a).map aU))))
  (λx=>x<=(bg t a).length) (λx=>(bg t a).length-x) 0 (Nat.zero_le _) bX ?_
 rintro x hx;simp only[go_sem];refine aK (λhc=>?_) (λhc=>?_)
 ·have hlt:x<(bg t a).length:=by simpa using hc
  have hA:=ht.wU.aAL ha (ht.par' ha) (ia hlt);have hn:=hA.names;simp only[go_sem,getD_map aU hlt,hlt,aU,cQ];refine aY ((asS (((bg t a).getD x default).names) (by omega)).toL) (by simp only[go_sem,getD_map aU hlt,hlt,aU,cQ]<;>rfl) (yq) ?_;simp only[go_sem,getD_map aU hlt,hlt,aU,cQ];rw[alr _ hlt];exact bM (x+1) hlt (by omega) (by rw[bz hlt (by omega)];exact bX)
 ·simp only[go_sem]
theorem afn(t:Types)(ht:OkT t)(a:Nat)(ha:a<t.nodes.length):aS pw 93 [aD t,.val (.int .i64 a)] (λr=>r = .dQ [.aV ((bg t a).map aU),.val (.int .i64 0)]):=by
 have hlen:=mL ht.wU ha (ht.par' ha);have hg:qq t [(a:Int),(a:Int)]=0:=ht.given (by simp;omega);refine aQ [] func93 ?_;rw[ntmps93,results93];simp only[go_sem,aD];refine aY (ahw t ht.wU (a:Int) (a:Int)) (by simp only[go_sem]<;>rfl) (b6 rfl) ?_;simp only[go_sem,hg];refine aY ((ahu t ht.wU a ha (ht.par' ha)).toL) (by simp only[go_sem]<;>rfl) (yq) ?_;simp only[go_sem];refine bL (σ:=Nat) (λx=>(cE (cE (cE fT 7 (.row 7 x)) 8 (.p (.aV ((bg t a).map aU)))) 9 (.p (.val (.int .i64 x)))))
  (λx=>(bk cm 7 (.row x 168 4 (((bg t a).take x).map aU))))
  (λx=>x<=(bg t a).length) (λx=>(bg t a).length-x) 0 (Nat.zero_le _) ((iF 7 7 168 4 rfl rfl (by decide)).trans bX) ?_
 rintro x hx;simp only[go_sem];refine aK (λhc=>?_) (λhc=>?_)
 ·have hlt:x<(bg t a).length:=by simpa using hc
  have hA:=ht.wU.aAL ha (ht.par' ha) (ia hlt);have hn:=hA.names;simp only[go_sem,getD_map aU hlt,hlt,aU,cQ];have e:=axg aU hlt;simp only[aU,cQ] at e;rw[e];refine⟨⟨by omega,alm _⟩,by simp;omega,?_⟩;exact bM (x+1) hlt (by omega) (by rw[bz hlt (by omega)];exact bX)
 ·have hge:(bg t a).length<=x:=by simpa using hc
  simp only[go_sem];rw[List.take_of_length_le hge]
structure axh(g:eS):Prop where
 nodes:g.nodes.length<=45
 au:g.au.length<=90
structure alu(g:eS):Prop where
 nodes:g.nodes.length<=1000
 au:g.au.length<=1000
theorem axh.yB{g:eS}(h:axh g):alu g:=⟨by have:=h.nodes;omega,by have:=h.au;omega⟩
def td(n:Int):Bool:=decide (0<=n)&&decide (n<=99)
def uu(n:Nat)(e:Edge):Bool:=(td e.type&&(decide (0<=e.src)&&decide (e.src<=(n:Int)-1)))&&(decide (0<=e.dst)&&decide (e.dst<=(n:Int)-1))
def qt(g:eS):Int:=if 40<g.nodes.length\/80<g.au.length then 3 else if g.nodes.any (λn=>!td n)=true then 6 else if g.au.any (λe=>!uu g.nodes.length e)=true then 6 else 0
structure OkG(g:eS):Prop where
 nodes:g.nodes.length<=40
 au:g.au.length<=80
 kind:∀i,i<g.nodes.length->0<=g.nodes.getD i default/\g.nodes.getD i default<=99
 iu:∀i,i<g.au.length->(0<=(g.au.getD i default).type/\(g.au.getD i default).type<=99)/\(0<=(g.au.getD i default).src/\(g.au.getD i default).src<g.nodes.length)/\(0<=(g.au.getD i default).dst/\(g.au.getD i default).dst<g.nodes.length)
theorem okG{g:eS}(h:qt g=0):OkG g:=by
 unfold qt at h;split at h
 ·cases h
 ·split at h
  ·cases h
  ·split at h
   ·cases h
   ·rename_i h1 h2 h3;simp only[List.any_eq_true,not_exists,not_and,Bool.not_eq_true',Bool.not_eq_false] at h2 h3;refine⟨by omega,by omega,λi hi=>?_,λi hi=>?_⟩
    ·have:=h2 _ (ia hi);simpa only[td,Bool.and_eq_true,decide_eq_true_eq] using this
    ·have:=h3 _ (ia hi);simp only[uu,td,Bool.and_eq_true,decide_eq_true_eq] at this;omega
theorem axi(e:Edge)(n:Nat)(hn:n<=1000):aS pw 231 [.agg (aZ e),.val (.int .i64 n)] (λr=>r = .val (.bool (uu n e))):=by
 have hw:i64.wrap ((n:Int)-1)=(n:Int)-1:=IntWalk.i64_in _ (by omega);unfold uu;refine aQ [] func231 ?_;rw[ntmps231,results231];simp only[go_sem,aZ,hw];refine aY (aam e.type 99) (by simp only[go_sem,aZ,hw]<;>rfl) (b6 rfl) ?_;simp only[go_sem,aZ,hw];have hk:(decide (0<=e.type)&&decide (e.type<=99))=td e.type:=rfl;rw[hk];refine bP (λh1=>?_) (λh1=>?_)<;>simp only[go_sem,h1,aZ,hw]
 refine aY (aam e.src ((n:Int)-1)) (by simp only[go_sem,aZ,hw]<;>rfl) (b6 rfl) ?_;simp only[go_sem,aZ,hw];generalize (decide (0<=e.src)&&decide (e.src<=(n:Int)-1))=b1;refine bP (λh2=>?_) (λh2=>?_)<;>simp only[go_sem,h2,aZ,hw]
 refine aY (aam e.dst ((n:Int)-1)) (by simp only[go_sem,aZ,hw]<;>rfl) (b6 rfl) ?_;simp only[go_sem,aZ,hw]
theorem aoC(n:Int):aS pw 227 [.val (.int .i64 n)] (λr=>r = .val (.bool (!td n))):=by unfold td;refine aQ [] func227 ?_;rw[ntmps227,results227];simp only[go_sem];refine aY (aam n 99) (by simp only[go_sem]<;>rfl) (b6 rfl) ?_;simp only[go_sem]
theorem aoD(g:eS)(hg:alu g)(e:Edge):aS pw 230 [.agg (aZ e),.dU [bl g.nodes,.aV (g.au.map aZ)] 0] (λr=>r = .val (.bool (!uu g.nodes.length e))):=by refine aQ [] func230 ?_;rw[ntmps230,results230];simp only[go_sem,aZ,bl];refine aY (axi e g.nodes.length hg.nodes) (by simp only[go_sem]<;>rfl) (b6 rfl) ?_;simp only[go_sem]
theorem asU(g:eS)(hg:alu g):aS pw 134 [fe g] (λr=>r = .val (.int .i64 (qt g))):=by
 have h1:=hg.nodes;have h2:=hg.au;unfold qt;refine aQ [] func134 ?_;rw[ntmps134,results134];simp only[go_sem,fe,bl];refine bU (λh3=>?_) (λh3=>?_)<;>simp only[go_sem,h3,fe,bl]
 ·have h3':=cu h3;rw[if_pos (by omega)]
 ·have h3':=en h3;refine aK (λh4=>?_) (λh4=>?_)<;>simp only[go_sem,fe,bl]
  ·have y4:=cu h4;rw[if_pos (by omega)]
  ·have y4:=en h4;rw[if_neg (by omega)];refine aY (ab1 (λn=>!td n) g.nodes (by omega) _ [] [] (λy _=>aoC y)) (by simp only[go_sem,fe,bl]<;>rfl) (b6 rfl) ?_;simp only[go_sem,fe,bl];refine aK (λh5=>?_) (λh5=>?_)<;>simp only[go_sem,fe,bl]
   ·rw[if_pos h5]
   ·rw[if_neg (by rw[h5];decide)];refine aY (agL (λe=>!uu g.nodes.length e) g.au (by omega) _ [] [.dU [bl g.nodes,.aV (g.au.map aZ)] 0] (λy _=>aoD g hg y)) (by simp only[go_sem,fe,bl]<;>rfl) (b6 rfl) ?_;simp only[go_sem,fe,bl];refine aK (λh6=>?_) (λh6=>?_)<;>simp only[go_sem,fe,bl]
    ·rw[if_pos h6]
    ·rw[if_neg (by rw[h6];decide)]
theorem alv(n:Int):aS pw 189 [.val (.int .i64 n)] (λr=>r = .val (.bool (td n))):=by
 unfold td;refine aQ [] func189 ?_;rw[ntmps189,results189];simp only[go_sem]
 repeat' first|done|(refine bU (λh=>?_) (λh=>?_)<;>try simp only[go_sem,h])|(refine bP (λh=>?_) (λh=>?_)<;>try simp only[go_sem,h])|(refine aW (λh=>?_) (λh=>?_)<;>try simp only[go_sem,h])|(refine aK (λh=>?_) (λh=>?_)<;>try simp only[go_sem,h])
theorem asV(e:Edge)(n:Nat):aS pw 190 [.agg (aZ e),.val (.int .i64 n)] (λr=>r = .val (.bool (uu n e))):=by
 refine aQ [] func190 ?_;rw[ntmps190,results190];simp only[go_sem,aZ];refine aY (alv e.type) (by simp only[go_sem,aZ]<;>rfl) (b6 rfl) ?_;simp only[go_sem,aZ];refine bP (λh1=>?_) (λh1=>?_)<;>simp only[go_sem,h1,aZ]
 ·have e0:uu n e=((decide (0<=e.src)&&decide (e.src<=(n:Int)-1))&&(decide (0<=e.dst)&&decide (e.dst<=(n:Int)-1))):=by unfold uu;rw[h1,Bool.true_and]
  rw[e0]
  repeat' first|done|(refine bU (λh=>?_) (λh=>?_)<;>try simp only[go_sem,h,h1,aZ])|(refine bP (λh=>?_) (λh=>?_)<;>try simp only[go_sem,h,h1,aZ])|(refine aW (λh=>?_) (λh=>?_)<;>try simp only[go_sem,h,h1,aZ])|(refine aK (λh=>?_) (λh=>?_)<;>try simp only[go_sem,h,h1,aZ])
  all_goals(simp only[decide_eq_true_eq,decide_eq_false_iff_not,Bool.not_eq_true',Bool.not_eq_false'] at *;rw[Bool.eq_iff_iff];simp only[Bool.not_eq_true',Bool.not_eq_false',Bool.and_eq_true,Bool.or_eq_true,Bool.and_eq_false_iff,Bool.or_eq_false_iff,decide_eq_true_eq,decide_eq_false_iff_not,Bool.false_eq_true,true_iff,iff_true,false_iff,iff_false];omega)
 ·unfold uu;rw[h1];try rfl
theorem any_true{α:Type} [Inhabited α]{p:α->Bool}{l:List α}{j:Nat}(hj:j<l.length)(h:p (l.getD j default)=true):l.any p=true:=List.any_eq_true.2 ⟨_,ia hj,h⟩
theorem any_false{α:Type} [Inhabited α]{p:α->Bool}{l:List α}(h:∀j,j<l.length->p (l.getD j default)=false):l.any p=false:=by rw[<-List.take_length (l:=l)];exact oh (Nat.le_refl _) h
theorem aoE(g:eS)(hg:alu g):aS pw 109 [fe g] (λr=>r = .val (.int .i64 (qt g))):=by
 have h1:=hg.nodes;have h2:=hg.au;unfold qt;refine aQ [] func109 ?_;rw[ntmps109,results109];simp only[go_sem,fe,bl];refine bU (λh3=>?_) (λh3=>?_)<;>simp only[go_sem,h3,fe,bl]
 ·have h3':=cu h3;rw[if_pos (by omega)]
 ·have h3':=en h3;refine aK (λh4=>?_) (λh4=>?_)<;>simp only[go_sem,fe,bl]
  ·have y4:=cu h4;rw[if_pos (by omega)]
  ·have y4:=en h4;rw[if_neg (by omega)];refine bL (σ:=Nat) (λx=>(cE (cE fT 1 (.ptr 1 0)) 3 (.p (.val (.int .i64 x)))))
    (λx=>(bk cm 1 (.box [.p (.aV (g.nodes.map encI)),.p (.aV (g.au.map aZ))])))
    (λx=>x<=g.nodes.length/\∀j,j<x->(!td (g.nodes.getD j default))=false) (λx=>g.nodes.length-x) 0 ⟨Nat.zero_le _,λj hj=>absurd hj (Nat.not_lt_zero j)⟩ bX ?_
   rintro x ⟨hx,hq⟩;simp only[go_sem,fe,bl];refine aK (λhc=>?_) (λhc=>?_)
   ·have hlt:x<g.nodes.length:=by simpa using hc
    simp only[go_sem,fe,bl,getD_map encI hlt,hlt,encI];refine aY (alv (g.nodes.getD x default)) (by simp only[go_sem,fe,bl,getD_map encI hlt,hlt,encI]<;>rfl) (b6 rfl) ?_;simp only[go_sem,fe,bl,getD_map encI hlt,hlt,encI];refine aW (λh5=>?_) (λh5=>?_)<;>simp only[go_sem,fe,bl,getD_map encI hlt,hlt,encI]
    ·exact bM (x+1) ⟨hlt,tR (p:=λj=>!td (g.nodes.getD j default)) (λj hj=>by have:=hq j hj;simpa using this) (by rw[h5];rfl)⟩ (by omega) (by rw[bz hlt (by omega)];exact bX)
    ·rw[if_pos (any_true (p:=λn=>!td n) hlt (by rw[h5];rfl))]
   ·have hge:g.nodes.length<=x:=by simpa using hc
    rw[if_neg (by rw[any_false (p:=λn=>!td n) λj hj=>hq j (by omega)];decide)];simp only[go_sem,fe,bl];refine bL (σ:=Nat) (λx=>(cE (cE fT 1 (.ptr 1 0)) 4 (.p (.val (.int .i64 x)))))
     (λx=>(bk cm 1 (.box [.p (.aV (g.nodes.map encI)),.p (.aV (g.au.map aZ))])))
     (λx=>x<=g.au.length/\∀j,j<x->(!uu g.nodes.length (g.au.getD j default))=false) (λx=>g.au.length-x) 0 ⟨Nat.zero_le _,λj hj=>absurd hj (Nat.not_lt_zero j)⟩ bX ?_
    rintro y ⟨hy,hq'⟩;simp only[go_sem,fe,bl];refine aK (λql=>?_) (λql=>?_)
    ·have hlt:y<g.au.length:=by simpa using ql
     simp only[go_sem,fe,bl,getD_map aZ hlt,hlt,aZ];refine dw [.q,.q,.q,.q,.q,.q,.q,.q,.q,.q] (by kernel_rfl) ?_;simp only[go_sem,fe,bl,getD_map aZ hlt,hlt,aZ];refine jE (asV (g.au.getD y default) g.nodes.length) (by simp only[go_sem,fe,bl,getD_map aZ hlt,hlt,aZ]<;>rfl) (b6 rfl) ?_;simp only[go_sem,fe,bl,getD_map aZ hlt,hlt,aZ];refine aW (λh5=>?_) (λh5=>?_)<;>simp only[go_sem,fe,bl,getD_map aZ hlt,hlt,aZ]
     ·exact bM (y+1) ⟨hlt,tR (p:=λj=>!uu g.nodes.length (g.au.getD j default)) (λj hj=>by have:=hq' j hj;simpa using this) (by rw[h5];rfl)⟩ (by omega) (by rw[bz hlt (by omega)];exact bX)
     ·rw[if_pos (any_true (p:=λe=>!uu g.nodes.length e) hlt (by rw[h5];rfl))]
    ·have aCE:g.au.length<=y:=by simpa using ql
     rw[if_neg (by rw[any_false (p:=λe=>!uu g.nodes.length e) λj hj=>hq' j (by omega)];decide)];simp only[go_sem,fe,bl]
structure aCF(h:Host):Prop where
 graph:axh h.graph
 values:h.values.length<=45
 row:∀l∈h.values,l.length<=12
structure sM(h:Host):Prop where
 graph:alu h.graph
 values:h.values.length<=1000
 row:∀l∈h.values,l.length<=1000
theorem aCF.yB{h:Host}(hh:aCF h):sM h:=⟨hh.graph.yB,by have:=hh.values;omega,λl hl=>by have:=hh.row l hl;omega⟩
def nM(t:Types)(kind:Nat)(values:List Int)(k:Nat):Int:=if values.getD k default<((bg t kind).getD k default).low\/((bg t kind).getD k default).high<values.getD k default then 6 else 0
def ni(t:Types)(kind:Int)(values:List Int):Int :=
 if (t.nodes.length:Int)<=kind then 6
 else if (t.nodes.getD kind.toNat default).abs=true then 13
 else if values.length≠(bg t kind.toNat).length then 20
 else pP (nM t kind.toNat values) 0 values.length
def tf(t:Types)(h:Host)(i:Nat):Int :=
 if (t.au.length:Int)<=(h.graph.au.getD i default).type then 6
 else if qU t (h.graph.au.getD i default).type (h.graph.nodes.getD (h.graph.au.getD i default).src.toNat default) (h.graph.nodes.getD (h.graph.au.getD i default).dst.toNat default)=true then 0 else 13
def jU(t:Types)(h:Host):Int×Int :=
 if (gC t).2≠0 then (-1,(gC t).2)
 else if qt h.graph≠0 then (-1,qt h.graph)
 else if h.values.length≠h.graph.nodes.length then (-1,20)
 else match kj (λi=>ni t (h.graph.nodes.getD i default) (h.values.getD i default)) 0 h.graph.nodes.length with
  |some k=>((k:Int),ni t (h.graph.nodes.getD k default) (h.values.getD k default))
  |none=>match kj (tf t h) 0 h.graph.au.length with
   |some k=>((k:Int),tf t h k)
   |none=>(-1,0)
theorem axj(t:Types)(ht:OkT t)(kind:Int)(hk:0<=kind)(values:List Int)(hv:values.length<=1000):aS pw 135 [aD t,.val (.int .i64 kind),.aV (values.map encI)] (λr=>r = .val (.int .i64 (ni t kind values))):=by
 obtain⟨k,rfl⟩:∃k:Nat,kind=k:=⟨_,(Int.toNat_of_nonneg hk).symm⟩;refine aQ [] func135 ?_;rw[ntmps135,results135];simp only[go_sem,aD];refine aK (λh1=>?_) (λh1=>?_)<;>simp only[go_sem,aD]
 ·have tA:=cu h1;unfold ni;rw[if_pos (by omega)]
 ·have tA:=en h1;have qJ:k<t.nodes.length:=by omega
  have hlen:=mL ht.wU qJ (ht.par' qJ);have e0:ni t k values=if (t.nodes.getD k default).abs=true then 13 else if values.length≠(bg t k).length then 20 else pP (nM t k values) 0 values.length:=by unfold ni;rw[if_neg (by omega),Int.toNat_natCast]
  rw[e0];clear e0;simp only[go_sem,aD,getD_map aJ qJ,qJ,aJ];refine aK (λh2=>?_) (λh2=>?_)<;>simp only[go_sem,aD,getD_map aJ qJ,qJ,aJ]
  ·rw[if_pos h2]
  ·rw[if_neg (by rw[h2];decide)];refine aY (ahy t ht k qJ) (by simp only[go_sem,aD,getD_map aJ qJ,qJ,aJ]<;>rfl) (yq) ?_;simp only[go_sem,aD,getD_map aJ qJ,qJ,aJ];refine aW (λh3=>?_) (λh3=>?_)<;>simp only[go_sem,aD,getD_map aJ qJ,qJ,aJ]
   ·have h3':=cu h3;have hvl:values.length=(bg t k).length:=by omega
    rw[if_neg (by omega)];refine bL (σ:=Nat) (λx=>(cE (cE (cE (cE fT 2 (.p (.aV (values.map encI)))) 33 (.p (.aV ((bg t k).map aU)))) 34 (.p (.val (.int .i64 (bg t k).length)))) 35 (.p (.val (.int .i64 x))))) (λx=>cm)
     (λx=>x<=values.length/\∀j,j<x->nM t k values j=0) (λx=>values.length-x) 0 ⟨Nat.zero_le _,λj hj=>absurd hj (Nat.not_lt_zero j)⟩ bX ?_
    rintro x ⟨hx,hq⟩;simp only[go_sem,aD,getD_map aJ qJ,qJ,aJ];refine aK (λhc=>?_) (λhc=>?_)
    ·have hlt:x<(bg t k).length:=by simpa using hc
     have kr:x<values.length:=by omega
     simp only[go_sem,aD,getD_map aJ qJ,qJ,aJ,getD_map aU hlt,hlt,aU,cQ,getD_map encI kr,kr,encI];refine dw [.q,.q,.q,.q,.q,.q,.q,.q,.q,.q,.q,.q,.q,.q,.q,.q] (by kernel_rfl) ?_;simp only[go_sem,aD,getD_map aJ qJ,qJ,aJ,getD_map aU hlt,hlt,aU,cQ,getD_map encI kr,kr,encI];have bad:∀p:Prop,nM t k values x=6->p=p->(6:Int)=pP (nM t k values) 0 values.length:=λp e _=>by rw[rA kr hq (by rw[e];decide),e]
     refine pg (λh4=>?_) (λh4=>?_)<;>simp only[go_sem,h4,aD,getD_map aJ qJ,qJ,aJ,getD_map aU hlt,hlt,aU,cQ,getD_map encI kr,kr,encI]
     ·have y4:=cu h4;exact bad True (by unfold nM;rw[if_pos (.inl y4)]) rfl
     ·have y4:=en h4;refine aK (λh5=>?_) (λh5=>?_)<;>simp only[go_sem,h5,aD,getD_map aJ qJ,qJ,aJ,getD_map aU hlt,hlt,aU,cQ,getD_map encI kr,kr,encI]
      ·have h5':=cu h5;exact bad True (by unfold nM;rw[if_pos (.inr h5')]) rfl
      ·have h5':=en h5;have e:nM t k values x=0:=by unfold nM;rw[if_neg (by omega)]
       exact bM (x+1) ⟨kr,all_succ hq e⟩ (by omega) (by rw[bz kr (by omega)];exact bX)
    ·have hge:(bg t k).length<=x:=by simpa using hc
     simp only[go_sem,aD,getD_map aJ qJ,qJ,aJ];rw[tC λj hj=>hq j (by omega)]
   ·have h3':=en h3;rw[if_pos (by omega)]
theorem asW(t:Types)(ht:OkT t)(kind:Int)(hk:0<=kind)(values:List Int)(hv:values.length<=1000):aS pw 110 [aD t,.val (.int .i64 kind),.aV (values.map encI)] (λr=>r = .val (.int .i64 (ni t kind values))):=by
 obtain⟨k,rfl⟩:∃k:Nat,kind=k:=⟨_,(Int.toNat_of_nonneg hk).symm⟩;refine aQ [] func110 ?_;rw[ntmps110,results110];simp only[go_sem,aD];refine aK (λh1=>?_) (λh1=>?_)<;>simp only[go_sem,aD]
 ·have tA:=cu h1;unfold ni;rw[if_pos (by omega)]
 ·have tA:=en h1;have qJ:k<t.nodes.length:=by omega
  have hlen:=mL ht.wU qJ (ht.par' qJ);have e0:ni t k values=if (t.nodes.getD k default).abs=true then 13 else if values.length≠(bg t k).length then 20 else pP (nM t k values) 0 values.length:=by unfold ni;rw[if_neg (by omega),Int.toNat_natCast]
  rw[e0];clear e0;simp only[go_sem,aD,getD_map aJ qJ,qJ,aJ];refine aK (λh2=>?_) (λh2=>?_)<;>simp only[go_sem,aD,getD_map aJ qJ,qJ,aJ]
  ·rw[if_pos h2]
  ·rw[if_neg (by rw[h2];decide)];refine aY (afn t ht k qJ) (by simp only[go_sem,aD,getD_map aJ qJ,qJ,aJ]<;>rfl) (yq) ?_;simp only[go_sem,aD,getD_map aJ qJ,qJ,aJ];refine aW (λh3=>?_) (λh3=>?_)<;>simp only[go_sem,aD,getD_map aJ qJ,qJ,aJ]
   ·have h3':=cu h3;have hvl:values.length=(bg t k).length:=by omega
    rw[if_neg (by omega)];refine bL (σ:=Nat) (λx=>(cE (cE (cE fT 2 (.p (.aV (values.map encI)))) 7 (.p (.aV ((bg t k).map aU)))) 9 (.p (.val (.int .i64 x))))) (λx=>cm)
     (λx=>x<=values.length/\∀j,j<x->nM t k values j=0) (λx=>values.length-x) 0 ⟨Nat.zero_le _,λj hj=>absurd hj (Nat.not_lt_zero j)⟩ bX ?_
    rintro x ⟨hx,hq⟩;simp only[go_sem,aD,getD_map aJ qJ,qJ,aJ];refine aK (λhc=>?_) (λhc=>?_)
    ·have hlt:x<(bg t k).length:=by simpa using hc
     have kr:x<values.length:=by omega
     simp only[go_sem,aD,getD_map aJ qJ,qJ,aJ,getD_map aU hlt,hlt,aU,cQ,getD_map encI kr,kr,encI];refine dw [.q,.q,.q,.q,.q,.q,.q,.q,.q,.q,.q,.q,.q,.q,.q,.q,.q,.q,.q,.q,.q,.q] (by kernel_rfl) ?_;simp only[go_sem,aD,getD_map aJ qJ,qJ,aJ,getD_map aU hlt,hlt,aU,cQ,getD_map encI kr,kr,encI];have bad:∀p:Prop,nM t k values x=6->p=p->(6:Int)=pP (nM t k values) 0 values.length:=λp e _=>by rw[rA kr hq (by rw[e];decide),e]
     refine pg (λh4=>?_) (λh4=>?_)<;>simp only[go_sem,h4,aD,getD_map aJ qJ,qJ,aJ,getD_map aU hlt,hlt,aU,cQ,getD_map encI kr,kr,encI]
     ·have y4:=cu h4;exact bad True (by unfold nM;rw[if_pos (.inl y4)]) rfl
     ·have y4:=en h4;refine aK (λh5=>?_) (λh5=>?_)<;>simp only[go_sem,h5,aD,getD_map aJ qJ,qJ,aJ,getD_map aU hlt,hlt,aU,cQ,getD_map encI kr,kr,encI]
      ·have h5':=cu h5;exact bad True (by unfold nM;rw[if_pos (.inr h5')]) rfl
      ·have h5':=en h5;have e:nM t k values x=0:=by unfold nM;rw[if_neg (by omega)]
       exact bM (x+1) ⟨kr,all_succ hq e⟩ (by omega) (by rw[bz kr (by omega)];exact bX)
    ·have hge:(bg t k).length<=x:=by simpa using hc
     simp only[go_sem,aD,getD_map aJ qJ,qJ,aJ];rw[tC λj hj=>hq j (by omega)]
   ·have h3':=en h3;rw[if_pos (by omega)]
end Go.Proofs.YtjhkgjlmiolfoaaGreat
