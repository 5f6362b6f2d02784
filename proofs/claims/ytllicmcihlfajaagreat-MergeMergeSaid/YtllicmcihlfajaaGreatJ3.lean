/- Joined texts, part 3: lemmas for the statement. No condition. -/
import Derived.Test.YtllicmcihlfajaaGreatJ2
import Derived.Test.YtllicmcihlfajaaGreatProg
import Derived.KernelRfl
import Derived.Lib.Bytealg
set_option maxHeartbeats 4000000
set_option linter.unusedSimpArgs false
set_option linter.unusedVariables false
open Nat (reduceEqDiff reduceLT reduceLeDiff reduceMul reduceAdd reduceSub)
open Go.Proofs.Tryz
namespace Go.cE
open Go.RowKit
variable {P:Program} {N:Nat} {own:List Nat} {ops:Array Oper} {K:Env->ay->Prop} {env:Env} {H:ay}
def agB (P:Program) (o:Oper) (W:Env->ay->Prop) (env:Env) (H:ay):Prop:=∃x,ya P o (ev env) H x/\W (cA env o.dst (.p x)) H
def auJ (P:Program) (own:List Nat) (ops:Array Oper) (o:Oper) (W:Env->ay->Prop) (env:Env) (H:ay):Prop:=∃x,ya P o (ev env) (ou own ops H) x/\W (cA env o.dst (.p x)) H
def aeE (P:Program) (own:List Nat) (ops:Array Oper) (o:Oper) (W:Env->ay->Prop) (env:Env) (H:ay):Prop:=∃v H',aez P own ops o (ev env) H v H'/\W (cA env o.dst v) H'
def agC (own:List Nat) (o:Oper) (env:Env):Prop:=match o.op with
 | .store _ (.tmp d) _=>∃off,env d = .ptr d off
 | _=>adn own o env
def isS:og->Bool
 | .s=>true
 | _=>false
def aeF (own:List Nat) (ops:Array Oper) (l:List (Oper×og)):Bool:=l.all λx=>!oW own ops x.1||isS x.2
theorem ah1 {o:Oper} {env:Env} (h:oW own ops o=true->agC own o env):acF own ops o env:=by
 obtain⟨dst,op,t,pos,af,g⟩:=o; refine⟨?_,λha=>?_⟩
 ·cases op<;>try trivial
  case store e a x =>
   cases a<;>try trivial
   rename_i k; intro hn; have h1:oW own ops ⟨dst,.store e (.tmp k) x,t,pos,af,g⟩=true:=by unfold oW; simp only[hn,Bool.true_or]
   exact h h1
 ·have h1:oW own ops ⟨dst,op,t,pos,af,g⟩=true:=by unfold oW; rw[ha,Bool.or_true]
  have h2:=h h1; cases op<;>first | exact h2 | skip
  case store e a x=>simp[yf,appArg] at ha
def aaE (own:List Nat) (o:Oper):Bool:=match o.dst with
 | some d=>!own.contains d
 | none=>true
def fJ (P:Program) (N:Nat) (own:List Nat) (ops:Array Oper):List (Oper×og)->(Env->ay->Prop)->Env->ay->Prop
 | [],K,env,H=>K env H
 | (o,c) :: rest,K,env,H=>vn N o.dst/\match l8 ops o env with
  | some true=>(match c with
   | .p=>me o=true/\aaE own o=true/\(match fW P o (ev env) b8 with
    | some (pre,v,_)=>pre/\fJ P N own ops rest K (cA env o.dst v) H
    | none=>False)
   | .q=>bM own o=true/\(match fW P o (ev env) H with
    | some (pre,v,_)=>pre/\fJ P N own ops rest K (cA env o.dst v) H
    | none=>agB P o (fJ P N own ops rest K) env H)
   | .b=>bM own o=true/\(match fW P o (ev env) (rN H) with
    | some (pre,v,_)=>pre/\fJ P N own ops rest K (cA env o.dst v) H
    | none=>False)
   | .o=>bM own o=true/\(match fW P o (ev env) (ou own ops H) with
    | some (pre,v,_)=>pre/\fJ P N own ops rest K (cA env o.dst v) H
    | none=>auJ P own ops o (fJ P N own ops rest K) env H)
   | .w=>(match fI P own o (ev env) H with
    | some (pre,v,H')=>pre/\fJ P N own ops rest K (cA env o.dst v) H'
    | none=>False)
   | .s=>agC own o env/\(match fI P own o (ev env) H with
    | some (pre,v,H')=>pre/\fJ P N own ops rest K (cA env o.dst v) H'
    | none=>False)
   | .f=>bM own o=true/\aeE P own ops o (fJ P N own ops rest K) env H
   | .t=>opK P own o (fJ P N own ops rest K) env H)
  | some false=>fJ P N own ops rest K (cA env o.dst (.dB [])) H
  | none=>False
theorem iA:∀ (l:List (Oper×og)) (env:Env) (H:ay),aeF own ops l=true->fJ P N own ops l K env H->ajL P N own ops l K env H
 | [],env,H,_,h=>h
 | (o,c) :: rest,env,H,hcl,h=>by
  obtain⟨hd,h⟩:=h; refine⟨hd,?_⟩; have qz:aeF own ops rest=true:=by unfold aeF at hcl ⊢; rw[List.all_cons,Bool.and_eq_true] at hcl; exact hcl.2
  have hc1:isS c=false->acF own ops o env:=λhc=>ah1 λhn=>by unfold aeF at hcl; rw[List.all_cons,Bool.and_eq_true] at hcl; have:=hcl.1; simp only[hn,hc] at this; cases this
  split at h
  ·rename_i hg; cases c with
   | p =>
    simp only at h; obtain⟨h1,h2,h⟩:=h; split at h
    ·rename_i pre v H' hx; exact .inr ⟨rfl,v,H,.inr ⟨hg,hc1 rfl,pre,aqI h1 hx,h.1,rfl,h2⟩,rfl,iA rest _ H qz h.2⟩
    ·exact h.elim
   | q =>
    simp only at h; obtain⟨h1,h⟩:=h; have hno:aaE own o=true:=by unfold bM at h1; rw[Bool.and_eq_true] at h1; exact h1.1
    have hall:fI P own o (ev env) H=fW P o (ev env) H:=jN hno; split at h
    ·rename_i pre v H' hx; have:H'=H:=rj h1 (hall.trans hx); subst this; exact .inr ⟨rfl,v,_,.inr ⟨hg,hc1 rfl,h1,rfl,.inl ⟨pre,hx,h.1⟩⟩,rfl,iA rest _ _ qz h.2⟩
    ·rename_i hx; obtain⟨x,hc,hw⟩:=h; exact .inr ⟨rfl,.p x,H,.inr ⟨hg,hc1 rfl,h1,rfl,.inr ⟨x,rfl,hc,hall.trans hx⟩⟩,rfl,iA rest _ H qz hw⟩
   | b =>
    simp only at h; obtain⟨h1,h⟩:=h; have hno:aaE own o=true:=by unfold bM at h1; rw[Bool.and_eq_true] at h1; exact h1.1
    split at h
    ·rename_i pre v H' hx; have:H'=rN H:=rj h1 ((jN (H:=rN H) hno).trans hx); subst this; exact .inr ⟨rfl,v,H,.inr ⟨hg,hc1 rfl,h1,rfl,pre,hx,h.1⟩,rfl,iA rest _ _ qz h.2⟩
    ·exact h.elim
   | w =>
    simp only at h; split at h
    ·rename_i pre v H' hx; exact .inr ⟨rfl,v,H',.inr ⟨hg,hc1 rfl,pre,hx,h.1⟩,trivial,iA rest _ H' qz h.2⟩
    ·exact h.elim
   | s =>
    simp only at h; obtain⟨hp,h⟩:=h; split at h
    ·rename_i pre v H' hx; exact .inr ⟨rfl,v,H',.inr ⟨hg,ah1 λ_=>hp,pre,hx,h.1⟩,trivial,iA rest _ H' qz h.2⟩
    ·exact h.elim
   | f=>simp only at h; obtain⟨h1,v,H',hc,hw⟩:=h; exact .inr ⟨rfl,v,H',.inr ⟨hg,hc1 rfl,h1,hc⟩,trivial,iA rest _ H' qz hw⟩
   | t=>exact .inl ⟨rfl,.inr ⟨hg,ajH (λe G hw=>iA rest e G qz hw) h⟩⟩
   | o =>
    simp only at h; obtain⟨h1,h⟩:=h; have hno:aaE own o=true:=by unfold bM at h1; rw[Bool.and_eq_true] at h1; exact h1.1
    have hall:fI P own o (ev env) (ou own ops H)=fW P o (ev env) (ou own ops H):=jN hno; split at h
    ·rename_i pre v H' hx; have:H'=ou own ops H:=rj h1 (hall.trans hx); subst this; exact .inr ⟨rfl,v,H,.inr ⟨hg,hc1 rfl,h1,rfl,.inl ⟨pre,hx,h.1⟩⟩,rfl,iA rest _ _ qz h.2⟩
    ·rename_i hx; obtain⟨x,hc,hw⟩:=h; exact .inr ⟨rfl,.p x,H,.inr ⟨hg,hc1 rfl,h1,rfl,.inr ⟨x,rfl,hc,hall.trans hx⟩⟩,rfl,iA rest _ H qz hw⟩
  ·rename_i hg; cases hc:isT c with
   | true=>exact .inl ⟨rfl,.inl ⟨hg,iA rest _ H qz h⟩⟩
   | false=>exact .inr ⟨rfl,.dB [],H,.inl ⟨hg,rfl,rfl⟩,by cases c<;>trivial,iA rest _ H qz h⟩
  ·exact h.elim
def aeG (N:Nat) (ops:Array Oper):Bool:=ops.toList.all λo=>match o.dst with
 | some d=>decide (d<N)
 | none=>true
theorem ym (h:aeG N ops=true):∀ (i:Nat) o,ops[i]? = some o->vn N o.dst:=λi o ho=>by
 have:=List.all_eq_true.1 h o (by
  have:=Array.mem_of_getElem? ho; simpa using this)
 cases hd:o.dst with
 | none=>trivial
 | some d=>rw[hd] at this; show d<N; exact of_decide_eq_true this
def auK (cs:List og):List (Nat×og):=(List.range cs.length).zip cs
def abz (N:Nat) (own:List Nat) (ops:Array Oper) (m:List Nat) (cs:List og):Bool:=aeC own ops m (auK cs)&&aeG N ops&&cs.length == ops.size&&aeF own ops (ops.toList.zip cs)
theorem adK {l:List Oper} {cs:List og} (h:cs.length=l.length):((List.range cs.length).zip cs).filterMap (λx=>l.toArray[x.1]?)=l:=by
 have:((List.range cs.length).zip cs).filterMap (λx=>l.toArray[x.1]?)=(((List.range cs.length).zip cs).map (·.1)).filterMap (λi=>l.toArray[i]?):=by rw[List.filterMap_map]; rfl
 rw[this,List.map_fst_zip (by simp),h]; apply List.ext_getElem?; intro j; have hf:(List.range l.length).filterMap (λi=>l.toArray[i]?)=l:=by
  have e:∀k,k<=l.length->(List.range k).filterMap (λi=>l.toArray[i]?)=l.take k:=by
   intro k
   induction k with
   | zero=>intro _; simp
   | succ k ih =>
    intro hk; rw[List.range_succ,List.filterMap_append,ih (by omega),List.take_add_one]; congr 1; have:l[k]? = some (l[k]'(by omega)):=by simp
    simp[this]
  rw[e l.length (Nat.le_refl _),List.take_length]
 rw[hf]
theorem aqO {l:List Oper} (m:List Nat) (cs:List og) (hok:abz N own l.toArray m cs=true) (hw:fJ P N own l.toArray (l.zip cs) K env H):xd P N own l.toArray K env H:=by
 unfold abz at hok; simp only[Bool.and_eq_true,beq_iff_eq] at hok; obtain⟨⟨⟨h1,h2⟩,h3⟩,h4⟩:=hok; have h3:cs.length=l.length:=by simpa using h3
 refine agA m (auK cs) (l.zip cs) h1 ?_ ?_ (ym h2) (iA _ _ _ (by simpa using h4) hw)
 ·rw[List.map_fst_zip (by omega)]; exact (adK h3).symm
 ·rw[List.map_snd_zip (by omega)]; unfold auK; rw[List.map_snd_zip (by simp)]
theorem aqP {l:List Oper} (m:List Nat) (pc:List (Nat×og)) (hok:(aeC own l.toArray m pc&&aeG N l.toArray)=true) (os:List (Oper×og)) (hcl:aeF own l.toArray os=true) (h1:os.map (·.1)=pc.filterMap (λx=>l.toArray[x.1]?)) (h2:os.map (·.2)=pc.map (·.2))
  (hw:fJ P N own l.toArray os K env H):xd P N own l.toArray K env H:=by
 rw[Bool.and_eq_true] at hok; exact agA m pc os hok.1 h1 h2 (ym hok.2) (iA _ _ _ hcl hw)
def td (P : Program) (N : Nat) (own : List Nat) (ops : Array Oper) (c : og) (o : Oper) (rest : List (Oper × og)) (K : Env → ay → Prop) (env : Env) (H : ay) : Prop := match c with
   | .p=>me o=true/\aaE own o=true/\(match fW P o (ev env) b8 with
    | some (pre,v,_)=>pre/\fJ P N own ops rest K (cA env o.dst v) H
    | none=>False)
   | .q=>bM own o=true/\(match fW P o (ev env) H with
    | some (pre,v,_)=>pre/\fJ P N own ops rest K (cA env o.dst v) H
    | none=>agB P o (fJ P N own ops rest K) env H)
   | .b=>bM own o=true/\(match fW P o (ev env) (rN H) with
    | some (pre,v,_)=>pre/\fJ P N own ops rest K (cA env o.dst v) H
    | none=>False)
   | .o=>bM own o=true/\(match fW P o (ev env) (ou own ops H) with
    | some (pre,v,_)=>pre/\fJ P N own ops rest K (cA env o.dst v) H
    | none=>auJ P own ops o (fJ P N own ops rest K) env H)
   | .w=>(match fI P own o (ev env) H with
    | some (pre,v,H')=>pre/\fJ P N own ops rest K (cA env o.dst v) H'
    | none=>False)
   | .s=>agC own o env/\(match fI P own o (ev env) H with
    | some (pre,v,H')=>pre/\fJ P N own ops rest K (cA env o.dst v) H'
    | none=>False)
   | .f=>bM own o=true/\aeE P own ops o (fJ P N own ops rest K) env H
   | .t=>opK P own o (fJ P N own ops rest K) env H
def amz (P:Program) (N:Nat) (own:List Nat) (ops:Array Oper) (r:Option (Prop×AV×ay)) (o:Oper) (rest:List (Oper×og)) (K:Env->ay->Prop) (env:Env) (H:ay):Prop:=match r with
 | some (pre,v,H')=>pre/\fJ P N own ops rest K (cA env o.dst v) H'
 | none=>iL P o (fJ P N own ops rest K) env H
def auL (P:Program) (N:Nat) (own:List Nat) (ops:Array Oper) (r:Option (Prop×AV×ay)) (o:Oper) (rest:List (Oper×og)) (K:Env->ay->Prop) (env:Env) (H:ay):Prop:=match r with
 | some (pre,v,_)=>pre/\fJ P N own ops rest K (cA env o.dst v) H
 | none=>auJ P own ops o (fJ P N own ops rest K) env H
def uO (P : Program) (N : Nat) (own : List Nat) (ops : Array Oper) (g : Option Bool) (c : og) (o : Oper) (rest : List (Oper × og)) (K : Env → ay → Prop) (env : Env) (H : ay) : Prop := match g with
  | some true=>td P N own ops c o rest K env H
  | some false=>fJ P N own ops rest K (cA env o.dst (.dB [])) H
  | none=>False
def amA (P:Program) (N:Nat) (own:List Nat) (ops:Array Oper) (r:Option (Prop×AV×ay)) (o:Oper) (rest:List (Oper×og)) (K:Env->ay->Prop) (env:Env) (H:ay):Prop:=match r with
 | some (pre,v,_)=>pre/\fJ P N own ops rest K (cA env o.dst v) H
 | none=>agB P o (fJ P N own ops rest K) env H
def amB (P:Program) (N:Nat) (own:List Nat) (ops:Array Oper) (r:Option (Prop×AV×ay)) (o:Oper) (rest:List (Oper×og)) (K:Env->ay->Prop) (env:Env):Prop:=match r with
 | some (pre,v,H')=>pre/\fJ P N own ops rest K (cA env o.dst v) H'
 | none=>False
def amC (P:Program) (N:Nat) (own:List Nat) (ops:Array Oper) (r:Option (Prop×AV×ay)) (o:Oper) (rest:List (Oper×og)) (K:Env->ay->Prop) (env:Env) (H:ay):Prop:=match r with
 | some (pre,v,_)=>pre/\fJ P N own ops rest K (cA env o.dst v) H
 | none=>False
section
variable (o:Oper) (rest:List (Oper×og))
theorem aqQ:fJ P N own ops [] K env H=K env H:=rfl
theorem amD (c:og):fJ P N own ops ((o,c) :: rest) K env H=(vn N o.dst/\uO P N own ops (l8 ops o env) c o rest K env H):=by rw[fJ.eq_def]; unfold uO td; rfl
theorem ajM (c:og):uO P N own ops (some true) c o rest K env H=td P N own ops c o rest K env H:=rfl
theorem ah2 (c:og):uO P N own ops (some false) c o rest K env H=fJ P N own ops rest K (cA env o.dst (.dB [])) H:=rfl
theorem auM:td P N own ops .p o rest K env H=(me o=true/\aaE own o=true/\amC P N own ops (fW P o (ev env) b8) o rest K env H):=rfl
theorem auN:td P N own ops .q o rest K env H=(bM own o=true/\amA P N own ops (fW P o (ev env) H) o rest K env H):=rfl
theorem auO:td P N own ops .b o rest K env H=(bM own o=true/\amC P N own ops (fW P o (ev env) (rN H)) o rest K env H):=rfl
theorem auP:td P N own ops .w o rest K env H=amB P N own ops (fI P own o (ev env) H) o rest K env:=rfl
theorem auQ:td P N own ops .o o rest K env H=(bM own o=true/\auL P N own ops (fW P o (ev env) (ou own ops H)) o rest K env H):=rfl
theorem auR:td P N own ops .s o rest K env H=(agC own o env/\amB P N own ops (fI P own o (ev env) H) o rest K env):=rfl
theorem auS:td P N own ops .f o rest K env H=(bM own o=true/\aeE P own ops o (fJ P N own ops rest K) env H):=rfl
theorem auT:td P N own ops .t o rest K env H=amz P N own ops (fI P own o (ev env) H) o rest K env H:=rfl
theorem ajN (pre:Prop) (v:AV) (H':ay):amz P N own ops (some (pre,v,H')) o rest K env H=(pre/\fJ P N own ops rest K (cA env o.dst v) H'):=rfl
theorem ajO:amz P N own ops none o rest K env H=iL P o (fJ P N own ops rest K) env H:=rfl
attribute [go_sem] auT ajN ajO
theorem ajP (pre:Prop) (v:AV) (H':ay):auL P N own ops (some (pre,v,H')) o rest K env H=(pre/\fJ P N own ops rest K (cA env o.dst v) H):=rfl
theorem ajQ (pre:Prop) (v:AV) (H':ay):amC P N own ops (some (pre,v,H')) o rest K env H=(pre/\fJ P N own ops rest K (cA env o.dst v) H):=rfl
theorem ajR (pre:Prop) (v:AV) (H':ay):amA P N own ops (some (pre,v,H')) o rest K env H=(pre/\fJ P N own ops rest K (cA env o.dst v) H):=rfl
theorem ajS:amA P N own ops none o rest K env H=agB P o (fJ P N own ops rest K) env H:=rfl
theorem ajT (pre:Prop) (v:AV) (H':ay):amB P N own ops (some (pre,v,H')) o rest K env=(pre/\fJ P N own ops rest K (cA env o.dst v) H'):=rfl
end
section
variable (d:Option Tmp) (t u:TypeId) (pos:String) (af:Array Edge) (g:Option (Nat×Bool))
def pn (own:List Nat):Option Tmp->Bool
 | some d=>!own.contains d
 | none=>true
theorem aqR (k:Nat):pn own (some k) = !own.contains k:=rfl
theorem aqS (o:Oper):aaE own o=pn own o.dst:=rfl
theorem ajU (e:TypeId) (k:Nat) (x:Operand):agC own ⟨d,.store e (.tmp k) x,t,pos,af,g⟩ env = ∃off,env k = .ptr k off:=rfl
theorem ayw (own:List Nat) (ops:Array Oper) (H:ay) (i:Nat):ou own ops H i=if kO own ops i=true then none else H i:=rfl
def bxC:Option Chunk->Option Chunk
 | some (.box cs)=>some (.box cs)
 | _=>none
theorem ayx (H:ay) (i:Nat):rN H i=bxC (H i):=by
 unfold rN bxC; cases H i with
 | none=>rfl
 | some c=>cases c<;>rfl
theorem ayy (cs:List AV):bxC (some (.box cs))=some (.box cs):=rfl
theorem ajV (x:Operand):me ⟨d,.move x,t,pos,af,g⟩=true:=rfl
theorem afV (x:Operand):me ⟨d,.assign x,t,pos,af,g⟩=true:=rfl
theorem ajW (x y z:Operand):me ⟨d,.pick x y z,t,pos,af,g⟩=true:=rfl
theorem ajX (x:Operand):me ⟨d,.load u x,t,pos,af,g⟩=true:=rfl
theorem acH (x:Operand) (k:Nat):me ⟨d,.fieldAddr u x k,t,pos,af,g⟩=true:=rfl
theorem acI (x y:Operand):me ⟨d,.indexAddr u x y,t,pos,af,g⟩=true:=rfl
theorem aeH (x:Operand) (k:Nat):me ⟨d,.extract x k,t,pos,af,g⟩=true:=rfl
theorem ah3 (op:BinOp) (x y:Operand) (v:TypeId):me ⟨d,.binOp op u x y v,t,pos,af,g⟩=true:=rfl
theorem ajY (op:UnOp) (x:Operand):me ⟨d,.unOp op u x,t,pos,af,g⟩=true:=rfl
theorem ah4 (x:Array (Nat×Operand)):me ⟨d,.build u x,t,pos,af,g⟩=true:=rfl
theorem abA (n:Nat) (x:Array (Nat×Operand)):me ⟨d,.buildSlice u n x,t,pos,af,g⟩=true:=rfl
theorem ah5 (x:Operand) (l h m:Option Operand):me ⟨d,.slice u x l h m,t,pos,af,g⟩=true:=rfl
theorem adL (x:Operand):me ⟨d,.nilCheck x,t,pos,af,g⟩=true:=rfl
theorem ajZ (c:Call):me ⟨d,.call c,t,pos,af,g⟩=true:=rfl
theorem quiet_move (x:Operand):bM own ⟨d,.move x,t,pos,af,g⟩=pn own d:=by cases d<;>simp only[bM,pn,Bool.and_true]
theorem quiet_assign (x:Operand):bM own ⟨d,.assign x,t,pos,af,g⟩=pn own d:=by cases d<;>simp only[bM,pn,Bool.and_true]
theorem amE (x y z:Operand):bM own ⟨d,.pick x y z,t,pos,af,g⟩=pn own d:=by cases d<;>simp only[bM,pn,Bool.and_true]
theorem amF (x:Operand):bM own ⟨d,.load u x,t,pos,af,g⟩=pn own d:=by cases d<;>simp only[bM,pn,Bool.and_true]
theorem adM (x:Operand) (k:Nat):bM own ⟨d,.fieldAddr u x k,t,pos,af,g⟩=pn own d:=by cases d<;>simp only[bM,pn,Bool.and_true]
theorem adN (x y:Operand):bM own ⟨d,.indexAddr u x y,t,pos,af,g⟩=pn own d:=by cases d<;>simp only[bM,pn,Bool.and_true]
theorem afW (x:Operand) (k:Nat):bM own ⟨d,.extract x k,t,pos,af,g⟩=pn own d:=by cases d<;>simp only[bM,pn,Bool.and_true]
theorem aj0 (op:BinOp) (x y:Operand) (v:TypeId):bM own ⟨d,.binOp op u x y v,t,pos,af,g⟩=pn own d:=by cases d<;>simp only[bM,pn,Bool.and_true]
theorem amG (op:UnOp) (x:Operand):bM own ⟨d,.unOp op u x,t,pos,af,g⟩=pn own d:=by cases d<;>simp only[bM,pn,Bool.and_true]
theorem aj1 (x:Array (Nat×Operand)):bM own ⟨d,.build u x,t,pos,af,g⟩=pn own d:=by cases d<;>simp only[bM,pn,Bool.and_true]
theorem aj2 (x:Operand) (l h m:Option Operand):bM own ⟨d,.slice u x l h m,t,pos,af,g⟩=pn own d:=by cases d<;>simp only[bM,pn,Bool.and_true]
theorem aeI (x:Operand):bM own ⟨d,.nilCheck x,t,pos,af,g⟩=pn own d:=by cases d<;>simp only[bM,pn,Bool.and_true]
theorem aj3 (f:Operand) (xs:Array Operand) (ts:Array TypeId):bM own ⟨d,.call ⟨.value f,xs,ts⟩,t,pos,af,g⟩=pn own d:=by cases d<;>simp only[bM,pn,Bool.and_true]
theorem aqT (xs:Array Operand) (ts:Array TypeId):bM own ⟨d,.call ⟨.builtin .len,xs,ts⟩,t,pos,af,g⟩=pn own d:=by cases d<;>simp only[bM,pn,Bool.and_true]
end
def jF (o:Oper) (ρ:Operand->AV) (H:ay):Option (FuncId×List PV×Bool):=match di o ρ with
 | some (k,en)=>(match dS (fZ H) en with
  | some (ps,b)=>some (k,ps,b)
  | none=>none)
 | none=>none
def aeJ (k:FuncId) (r:Option (List PV×Bool)):Option (FuncId×List PV×Bool):=match r with
 | some (ps,b)=>some (k,ps,b)
 | none=>none
def ah6 (f:AV) (en:List AV) (H:ay):Option (FuncId×List PV×Bool):=match f with
 | .p (.gR (.func k) fs cs)=>aeJ k (dS (fZ H) (fs.map AV.p++en++cs.map AV.p))
 | .gR (.func k) fs cs=>aeJ k (dS (fZ H) (fs++en++cs))
 | _=>none
theorem ah7 (d:Option Tmp) (t:TypeId) (pos:String) (af:Array Edge) (g:Option (Nat×Bool)) (f:Operand) (xs:Array Operand) (ts:Array TypeId) (ρ:Operand->AV) :
  jF ⟨d,.call ⟨.value f,xs,ts⟩,t,pos,af,g⟩ ρ H=ah6 (ρ f) (xs.toList.map ρ) H:=by
 unfold jF di ah6; simp only[]; cases ρ f with
 | p x=>cases x with
  | gR fn fs cs=>cases fn<;>rfl
  | _=>rfl
 | gR fn fs cs=>cases fn<;>rfl
 | _=>rfl
theorem auU (k:FuncId) (fs cs:List PV) (en:List AV):ah6 (.p (.gR (.func k) fs cs)) en H=aeJ k (dS (fZ H) (fs.map AV.p++en++cs.map AV.p)):=rfl
theorem amH (k:FuncId) (fs cs en:List AV):ah6 (.gR (.func k) fs cs) en H=aeJ k (dS (fZ H) (fs++en++cs)):=rfl
theorem aj4 (k:FuncId) (ps:List PV) (b:Bool):aeJ k (some (ps,b))=some (k,ps,b):=rfl
theorem abB {o:Oper} {ρ:Operand->AV} {k:FuncId} {ps:List PV} {b:Bool} {x:PV} (c:aS P k ps λr=>r=x) (he:jF o ρ H=some (k,ps,b)) (hb:b=true->x.scalar=true):ya P o ρ H x:=by
 unfold jF at he; cases ha:di o ρ with
 | none=>rw[ha] at he; cases he
 | some r =>
  obtain⟨k',en⟩:=r; rw[ha] at he; simp only[] at he; cases hl:dS (fZ H) en with
  | none=>rw[hl] at he; cases he
  | some q=>obtain⟨ps',b'⟩:=q; rw[hl] at he; simp only[Option.some.injEq,Prod.mk.injEq] at he; obtain⟨rfl,rfl,rfl⟩:=he; exact⟨_,en,_,_,ha,hl,c,hb⟩
theorem aY {o:Oper} {W:Env->ay->Prop} {k:FuncId} {ps:List PV} {b:Bool} {x:PV} (c:aS P k ps λr=>r=x) (he:jF o (ev env) H=some (k,ps,b)) (hb:b=true->x.scalar=true)
  (hW:W (cA env o.dst (.p x)) H):iL P o W env H:=.inl (.inl ⟨[],vW (abB c he hb) hW⟩)
theorem jk {o:Oper} {W:Env->ay->Prop} {k:FuncId} {ps:List PV} {b:Bool} {x:PV} (c:aS P k ps λr=>r=x) (he:jF o (ev env) H=some (k,ps,b)) (hb:b=true->x.scalar=true)
  (hW:W (cA env o.dst (.p x)) H):agB P o W env H:=⟨x,abB c he hb,hW⟩
theorem aqU {o:Oper} {W:Env->ay->Prop} {k:FuncId} {ps:List PV} {b:Bool} {x:PV} (ids:List Nat) (c:aS P k ps λr=>r=x) (he:jF o (ev env) (cO ids H)=some (k,ps,b)) (hb:b=true->x.scalar=true)
  (hW:W (cA env o.dst (.p x)) (cO ids H)):iL P o W env H:=.inl (.inl ⟨ids,vW (abB c he hb) hW⟩)
theorem rm {o:Oper} {W:Env->ay->Prop} {k:FuncId} {ps:List PV} {b:Bool} {Q:PV->Prop} (c:aS P k ps Q) (he:jF o (ev env) H=some (k,ps,b))
  (hW:∀r,Q r->(b=true->r.scalar=true)/\W (cA env o.dst (.p r)) H):iL P o W env H:=by
 unfold jF at he; cases ha:di o (ev env) with
 | none=>rw[ha] at he; cases he
 | some r =>
  obtain⟨k',en⟩:=r; rw[ha] at he; simp only[] at he; cases hl:dS (fZ H) en with
  | none=>rw[hl] at he; cases he
  | some q=>obtain⟨ps',b'⟩:=q; rw[hl] at he; simp only[Option.some.injEq,Prod.mk.injEq] at he; obtain⟨rfl,rfl,rfl⟩:=he; exact .inl (.inl ⟨[],_,en,_,_,Q,ha,hl,c,hW⟩)
theorem auV {o:Oper} {W:Env->ay->Prop} {k:FuncId} {ps:List PV} {x:PV} (c:aAh P k ps x) (he:di o (ev env)=some (k,ps.map AV.p)) (hW:W (cA env o.dst (.p x)) H):iL P o W env H:=.inl (.inr (.inl ⟨k,ps,x,he,c,hW⟩))
theorem bY {b:Bool} {x:PV} (h:x.scalar=true):b=true->x.scalar=true:=λ_=>h
theorem yo {x:PV} : false=true->x.scalar=true:=λh=>by cases h
def nwH (o:Oper) (k:Nat):Bool:=o.dst == some k&&match o.op with
 | .alloc _=>true
 | .box ..=>true
 | .buildSlice ..=>true
 | .makeSlice ..=>true
 | _=>false
theorem aqV (k:Nat):kO own (List.toArray []) k=own.contains (2000000+k):=rfl
theorem amI (o:Oper) (l:List Oper) (k:Nat):kO own (List.toArray (o :: l)) k=(nwH o k||kO own (List.toArray l) k):=by unfold kO; simp only[List.any_cons,Bool.or_assoc]; try rfl
section
variable (d:Option Tmp) (t u:TypeId) (pos:String) (af:Array Edge) (g:Option (Nat×Bool))
theorem aqW (j k:Nat):nwH ⟨some j,.alloc u,t,pos,af,g⟩ k=(j == k):=by unfold nwH; simp only[Bool.and_true]; rw[Bool.eq_iff_iff]; simp
theorem auW (x:Operand) (k0:Nat):nwH ⟨d,.move x,t,pos,af,g⟩ k0=false:=by unfold nwH; simp only[Bool.and_false]
theorem amJ (x:Operand) (k0:Nat):nwH ⟨d,.assign x,t,pos,af,g⟩ k0=false:=by unfold nwH; simp only[Bool.and_false]
theorem auX (x:Operand) (k0:Nat):nwH ⟨d,.load u x,t,pos,af,g⟩ k0=false:=by unfold nwH; simp only[Bool.and_false]
theorem afX (x:Operand) (k:Nat) (k0:Nat):nwH ⟨d,.fieldAddr u x k,t,pos,af,g⟩ k0=false:=by unfold nwH; simp only[Bool.and_false]
theorem afY (x y:Operand) (k0:Nat):nwH ⟨d,.indexAddr u x y,t,pos,af,g⟩ k0=false:=by unfold nwH; simp only[Bool.and_false]
theorem aj5 (x:Operand) (k:Nat) (k0:Nat):nwH ⟨d,.extract x k,t,pos,af,g⟩ k0=false:=by unfold nwH; simp only[Bool.and_false]
theorem aqX (x:Array (Nat×Operand)) (k0:Nat):nwH ⟨d,.build u x,t,pos,af,g⟩ k0=false:=by unfold nwH; simp only[Bool.and_false]
theorem aeK (n:Nat) (x:Array (Nat×Operand)) (j k:Nat):nwH ⟨some j,.buildSlice u n x,t,pos,af,g⟩ k=(j == k):=by unfold nwH; simp only[Bool.and_true]; rw[Bool.eq_iff_iff]; simp
theorem auY (c:Call) (k0:Nat):nwH ⟨d,.call c,t,pos,af,g⟩ k0=false:=by unfold nwH; simp only[Bool.and_false]
theorem aqY (x y:Operand) (k0:Nat):nwH ⟨d,.store u x y,t,pos,af,g⟩ k0=false:=by unfold nwH; simp only[Bool.and_false]
end
attribute [go_sem] aqV amI aqW auW amJ auX afX afY aj5 aqX aeK auY aqY Bool.false_or Bool.or_false Bool.true_or Bool.or_true auQ auR auS ajP ajU amv ajF AV.ptr.injEq ayw ah7 auU amH aj4 aqQ amD ajM ah2 auM auN auO auP ayx ayy ajQ ajR ajS ajT aqS aqR List.contains_cons List.contains_nil ajV afV ajW ajX acH acI aeH ah3 ajY ah4 abA ah5 adL ajZ quiet_move quiet_assign amE amF adM adN afW aj0 amG aj1 aj2 aeI aj3 aqT List.zip_cons_cons List.zip_nil_left
end Go.cE
namespace Go.cE
open Go.RowKit
variable {P:Program} {t:TypeId}
theorem auZ (d:Int):bnd d none=some d:=rfl
theorem ayz (d:Int) (k:IntKind) (n:Int):bnd d (some (.p (.val (.int k n))))=some n:=rfl
def slS (a b:Option Int) (s:ByteArray):Option (Prop×AV):=match a,b with
 | some l,some h=>some (0<=l/\l<=h/\h<=s.size,.p (.val (.string (s.extract l.toNat h.toNat))))
 | _,_=>none
theorem amK {s:ByteArray} {lo hi:Option AV} (h:xS P t=true):rJ P t (.p (.val (.string s))) lo hi none=slS (bnd 0 lo) (bnd s.size hi) s:=by unfold rJ slS; simp only[h]; all_goals(cases bnd 0 lo<;>cases bnd s.size hi<;>rfl)
theorem au0 (l h:Int) (s:ByteArray):slS (some l) (some h) s=some (0<=l/\l<=h/\h<=s.size,.p (.val (.string (s.extract l.toNat h.toNat)))):=rfl
def slL (e:Option TypeId) (f:TypeId->Option Nat) (a b:Option Int) (es:List (List PV)):Option (Prop×AV):=match e,a,b with
 | some e,some l,some h=>(match f e with
  | some sz=>some ((0<=l/\l<=h/\h<=es.length)/\∀x∈es,x.length=sz,.p (.aU ((es.take h.toNat).drop l.toNat)))
  | none=>none)
 | _,_,_=>none
theorem amL {es:List (List PV)} {lo hi:Option AV} : rJ P t (.p (.aU es)) lo hi none=slL (cH P t) (bw P) (bnd 0 lo) (bnd es.length hi) es:=by unfold rJ slL; simp only[]; all_goals(cases cH P t<;>cases bnd 0 lo<;>cases bnd es.length hi<;>rfl)
theorem au1 (e:TypeId) (f:TypeId->Option Nat) (l h:Int) (es:List (List PV)):slL (some e) f (some l) (some h) es=(match f e with
  | some sz=>some ((0<=l/\l<=h/\h<=es.length)/\∀x∈es,x.length=sz,.p (.aU ((es.take h.toNat).drop l.toNat)))
  | none=>none):=rfl
theorem au2 (i:Nat):b8 i=none:=rfl
attribute [go_sem] au2 auZ ayz amK au0 amL au1 Option.map_none Option.map_some
theorem cV {N:Nat} {own:List Nat} {K:Env->ay->Prop} {env:Env} {H:ay} {l:List Oper} (cs:List og) (hok:abz N own l.toArray (masks l.toArray) cs=true) (hw:fJ P N own l.toArray (l.zip cs) K env H):xd P N own l.toArray K env H:=aqO (masks l.toArray) cs hok hw
theorem VR.ayA {I:Mem} {v:Value} (h:VR I v (.val (.slice none 0 0))):VR I v (.aU []):=by cases h; exact .aU none 0 0 [] [] 1 rfl (by simp) rfl (by simp) (by simp) (.inl rfl) (λ_=>⟨rfl,rfl⟩) (Nat.le_refl _)
theorem VR.ayB {I:Mem} {v:Value} (h:VR I v .emp):VR I v (.aU []):=by cases h; rename_i a; exact .aU a 0 0 [] [] 1 rfl (by simp) rfl (by simp) (by simp) (.inl rfl) (λ_=>⟨rfl,rfl⟩) (Nat.le_refl _)
def PLe (p' p:PV):Prop:=∀I v,VR I v p'->VR I v p
theorem PLe.refl (p:PV):PLe p p:=λ_ _ h=>h
theorem PLe.nil:PLe (.val (.slice none 0 0)) (.aU []):=λ_ _ h=>h.ayA
theorem PLe.emp:PLe .emp (.aU []):=λ_ _ h=>h.ayB
def rq:List PV->List PV->Prop
 | [],[]=>True
 | a :: r,b :: s=>PLe a b/\rq r s
 | _,_=>False
theorem rq.vrs {I:Mem} : ∀ {ps' ps:List PV},rq ps' ps->∀ {vs:List Value},VRs I vs ps'->VRs I vs ps
 | [],[],_,vs,h=>h
 | [],_ :: _,h,_,_=>h.elim
 | _ :: _,[],h,_,_=>h.elim
 | a :: r,b :: s,h,[],hv=>by have:=hv.1; simp at this
 | a :: r,b :: s,h,v :: vs,hv=>by
  have ih:=rq.vrs (I:=I) h.2 (vs:=vs) ⟨by simpa using hv.1,λj u c hu hc=>hv.2 (j+1) u c hu hc⟩; refine⟨by simpa using ih.1,λj u c hu hc=>?_⟩; cases j with
  | zero=>simp at hu hc; subst hu hc; exact h.1 _ _ (hv.2 0 v a rfl rfl)
  | succ j=>exact ih.2 j u c (by simpa using hu) (by simpa using hc)
theorem aS.args {f:FuncId} {ps ps':List PV} {Q:PV->Prop} (h:aS P f ps Q) (hp:rq ps' ps):aS P f ps' Q:=⟨h.1,λI w vs hI hv=>h.2 I w vs hI (hp.vrs hv)⟩
end Go.cE
namespace Go.cE
open Go.RowKit
variable {P:Program} {own:List Nat} {env:Env} {H:ay}
def xe (l:List Oper):List (Nat×og)->List (Oper×og)
 | []=>[]
 | (i,c) :: r=>(match l[i]? with
  | some o=>(o,c) :: xe l r
  | none=>xe l r)
theorem aqZ (l:List Oper):xe l []=[]:=rfl
theorem aaF (l:List Oper) (i:Nat) (c:og) (r:List (Nat×og)):xe l ((i,c) :: r)=(match l[i]? with
  | some o=>(o,c) :: xe l r
  | none=>xe l r):=rfl
theorem acJ (l:List Oper):∀pc:List (Nat×og),(xe l pc).map (·.1)=pc.filterMap (λx=>l.toArray[x.1]?)
 | []=>rfl
 | (i,c) :: r=>by
  rw[aaF,List.filterMap_cons]; cases h:l[i]? with
  | none=>simp[h,acJ l r]
  | some o=>simp[h,acJ l r]
theorem agD (l:List Oper):∀pc:List (Nat×og),(pc.all λx=>decide (x.1<l.length))=true->(xe l pc).map (·.2)=pc.map (·.2)
 | [],_=>rfl
 | (i,c) :: r,h=>by simp only[List.all_cons,Bool.and_eq_true,decide_eq_true_eq] at h; rw[aaF,List.getElem?_eq_getElem h.1]; simp[agD l r h.2]
def amM (N:Nat) (own:List Nat) (l:List Oper) (pc:List (Nat×og)):Bool:=aeC own l.toArray (masks l.toArray) pc&&aeG N l.toArray&&aeF own l.toArray (xe l pc)&&pc.all λx=>decide (x.1<l.length)
theorem ah8 {N:Nat} {K:Env->ay->Prop} {l:List Oper} (pc:List (Nat×og)) (hok:amM N own l pc=true) (hw:fJ P N own l.toArray (xe l pc) K env H):xd P N own l.toArray K env H:=by unfold amM at hok; rw[Bool.and_eq_true,Bool.and_eq_true] at hok; exact aqP (masks l.toArray) pc hok.1.1 (xe l pc) hok.1.2 (acJ l pc) (agD l pc hok.2) hw
def nG (c:Option Chunk) (r:Option (Prop×AV×ay)):Option (Prop×AV×ay):=match c with
 | some _=>none
 | none=>r
theorem au3 (r:Prop×AV×ay) (b:Bool) (y:Option (Prop×AV×ay)):orE (some r) b y=some r:=rfl
theorem aBB (y:Option (Prop×AV×ay)):orE none true y=y:=rfl
theorem aq0 (t:TypeId) (n:Nat) (ps:Array (Nat×Operand)):isApp (.buildSlice t n ps)=false:=rfl
theorem aq1 (xs:Array Operand) (ts:Array TypeId):isApp (.call ⟨.builtin .append,xs,ts⟩)=true:=rfl
theorem amN (f:Operand) (xs:Array Operand) (ts:Array TypeId):isApp (.call ⟨.value f,xs,ts⟩)=false:=rfl
theorem ayC (r:Option (Prop×AV×ay)):nG none r=r:=rfl
def ayD (P:Program) (r:Option (TypeId×List (List PV))) (d:Nat) (H:ay) (n:Nat) (c:Option (TypeId×List AV)):Option (Prop×AV×ay):=match r with
 | some (e,es)=>(match bw P e with
  | some sz=>some (True,.row d 0,bl H d (.row 0 e sz es))
  | none=>none)
 | none=>(match c with
  | some (_,cs)=>some (True,.zz d n,bl H d (.box cs))
  | none=>none)
theorem aq2 (d n:Nat) (e:TypeId) (cs:List AV):ayD P none d H n (some (e,cs))=some (True,.zz d n,bl H d (.box cs)):=rfl
theorem aq3 (e:TypeId) (es:List (List PV)) (d n:Nat) (c:Option (TypeId×List AV)):ayD P (some (e,es)) d H n c=(match bw P e with
  | some sz=>some (True,.row d 0,bl H d (.row 0 e sz es))
  | none=>none):=rfl
def aGl (P:Program) (e:Option TypeId) (a b:AV) (d:Nat) (H:ay):Option (Prop×AV×ay):=match a,b,e with
 | .p (.val (.int _ n)), .p (.val (.int _ m)), some e => (match bw P e, cI P e, abg P e with
    | some sz, some zs, some qf => if zs.length = sz ∧ 0 < sz ∧ 0 < qf ∧ zs.all (·.oneCell') = true then
      some ((0<=n/\m=n)/\n * qf<=140737488355328,.row d 0,bl H d (.row 0 e sz (List.replicate n.toNat (zs.map PV.val)))) else none
    | _,_,_=>none)
 | _,_,_=>none
def ayE (a:AV) (ty:Option (TypeId×Nat×Nat)) (b:Option (List (List PV))) (d:Nat) (H:ay):Option (Prop×AV×ay):=match a,ty,b with
 | .p (.val (.slice none 0 0)),some (e,sz,qf),some es=>some (es.length * qf<=140737488355328/\∀x∈es,x.length=sz,.row d 0,bl H d (.row 0 e sz es))
 | _,_,_=>none
theorem au4 (i v:Nat) (ty:Option (TypeId×Nat×Nat)) (b:Option (List (List PV))) (d:Nat):ayE (.row i v) ty b d H=none:=rfl
theorem aq4 (e:TypeId) (sz qf:Nat) (es:List (List PV)) (d:Nat):ayE (.p (.val (.slice none 0 0))) (some (e,sz,qf)) (some es) d H=some (es.length * qf<=140737488355328/\∀x∈es,x.length=sz,.row d 0,bl H d (.row 0 e sz es)):=rfl
section
variable (dd:Option Tmp) (ty:TypeId) (pos:String) (af:Array Edge) (g:Option (Nat×Bool)) (ρ:Operand->AV)
theorem ayF (t:TypeId) (n:Nat) (ps:Array (Nat×Operand)) (d:Nat):exN P ⟨dd,.buildSlice t n ps,ty,pos,af,g⟩ ρ H d=nG (H d) (ayD P (kW P t n (ps.toList.map λx=>(x.1,ρ x.2))) d H n (uj P t n (ps.toList.map λx=>(x.1,ρ x.2)))):=by
 unfold exN nG ayD; cases H d with
 | some c=>rfl
 | none=>rfl
theorem ayG (t1 t2:TypeId) (a b:Operand) (d:Nat):exN P ⟨dd,.call ⟨.builtin .append,#[a,b],#[t1,t2]⟩,ty,pos,af,g⟩ ρ H d=nG (H d) (ayE (ρ a) (dg P t1 t2) (uk H (ρ b)) d H):=by
 unfold exN nG ayE; cases H d with
 | some c=>rfl
 | none=>rfl
end
def azP (H:ay) (Q:RV->Prop) (a:Option AV):Prop:=match a with
 | some a => (match oN H a with
   | some (r,ids)=>ids.Nodup/\∃r',RLe r r'/\Q r'
   | none=>False)
 | none=>False
theorem au5 (rs:List ResultVar) (Q:RV->Prop):aAm P rs Q .ret env H=azP H Q (oo P env H rs):=rfl
def azQ (Q : RV → Prop) (x : Option (RV × List Nat)) : Prop := match x with
   | some (r,ids)=>ids.Nodup/\∃r',RLe r r'/\Q r'
   | none=>False
theorem amO (a:AV) (Q:RV->Prop):azP H Q (some a)=azQ Q (oN H a):=rfl
theorem amP (Q:RV->Prop) (r:RV) (ids:List Nat):azQ Q (some (r,ids))=(ids.Nodup/\∃r',RLe r r'/\Q r'):=rfl
theorem aAy (x:PV):oN H (.p x)=some (.p x,[]):=by simp only[oN]
def rvR (c : Option Chunk) (id bg : Nat) : Option (RV × List Nat) := match c with
  | some (.row v e sz es)=>if v=bg then some (.row e sz es,[id]) else none
  | some (.shut v es)=>if v=bg then some (.p (.aU es),[]) else none
  | _=>none
theorem au6 (id bg:Nat):oN H (.row id bg)=rvR (H id) id bg:=by unfold rvR; simp only[oN]; try rfl
theorem ayH (v:Nat) (e:TypeId) (sz:Nat) (es:List (List PV)) (id bg:Nat):rvR (some (.row v e sz es)) id bg=if v=bg then some (.row e sz es,[id]) else none:=rfl
theorem au7 (cs:List AV):oN H (.agg cs)=(match vp H cs with
  | some (rs,ids)=>some (.agg rs,ids)
  | none=>none):=by simp only[oN]; try rfl
theorem au8 (cs:List AV):oN H (.dB cs)=(match vp H cs with
  | some (rs,ids)=>some (.dB rs,ids)
  | none=>none):=by simp only[oN]; try rfl
theorem aq5:vp H []=some ([],[]):=by simp only[vp]
theorem amQ (a:AV) (r:List AV):vp H (a :: r)=(match oN H a,vp H r with
  | some (x,i),some (xs,j)=>some (x :: xs,i++j)
  | _,_=>none):=by simp only[vp]; try rfl
theorem au9 (k:Nat) (x:PV):cF k (.p x)=(.p x,k):=by simp only[cF]
theorem amR (k:Nat) (e:TypeId) (sz:Nat) (es:List (List PV)):cF k (.row e sz es)=(.row k 0,k+1):=by simp only[cF]
theorem amS (k:Nat) (rs:List RV):cF k (.agg rs)=(w6 (iX k rs).1,(iX k rs).2):=by simp only[cF]
theorem amT (k:Nat) (rs:List RV):cF k (.dB rs)=(.dB (iX k rs).1,(iX k rs).2):=by simp only[cF]
theorem amU (k:Nat):iX k []=([],k):=by simp only[iX]
theorem aj6 (k:Nat) (r:RV) (rs:List RV):iX k (r :: rs)=((cF k r).1 :: (iX (cF k r).2 rs).1,(iX (cF k r).2 rs).2):=by simp only[iX]
theorem ava (k:Nat) (x:PV):fR k H (.p x)=H:=by simp only[fR]
theorem amV (k:Nat) (e:TypeId) (sz:Nat) (es:List (List PV)):fR k H (.row e sz es)=bl H k (.row 0 e sz es):=by simp only[fR]
theorem amW (k:Nat) (rs:List RV):fR k H (.agg rs)=kz k H rs:=by simp only[fR]
theorem amX (k:Nat) (rs:List RV):fR k H (.dB rs)=kz k H rs:=by simp only[fR]
theorem aj7 (k:Nat):kz k H []=H:=by simp only[kz]
theorem ah9 (k:Nat) (r:RV) (rs:List RV):kz k H (r :: rs)=kz (cF k r).2 (fR k H r) rs:=by simp only[kz]
def ry (H:ay) (id:Nat):Nat->Prop
 | 0=>True
 | n+1=>H id=none/\ry H (id+1) n
theorem aq6 (id:Nat):ry H id 1=(H id=none/\True):=rfl
theorem aq7 (id:Nat):ry H id 2=(H id=none/\H (id+1)=none/\True):=rfl
theorem aj8 (id:Nat):ry H id 3=(H id=none/\H (id+1)=none/\H (id+1+1)=none/\True):=rfl
theorem amY (id:Nat):ry H id 4=(H id=none/\H (id+1)=none/\H (id+1+1)=none/\H (id+1+1+1)=none/\True):=rfl
theorem aaG:∀ (n id:Nat),ry H id n->∀i,id<=i->i<id+n->H i=none
 | 0,id,_,i,h1,h2=>by omega
 | n+1,id,h,i,h1,h2=>by
  by_cases e:i=id
  ·rw[e]; exact h.1
  ·exact aaG n (id+1) h.2 i (by omega) (by omega)
section
variable {o:Oper} {W:Env->ay->Prop} {k:FuncId} {ps:List PV} {b:Bool}
theorem aia (he:jF o (ev env) H=some (k,ps,b)):∃en,di o (ev env)=some (k,en)/\dS (fZ H) en=some (ps,b):=by
 unfold jF at he; cases ha:di o (ev env) with
 | none=>rw[ha] at he; cases he
 | some r =>
  obtain⟨k',en⟩:=r; rw[ha] at he; simp only[] at he; cases hl:dS (fZ H) en with
  | none=>rw[hl] at he; cases he
  | some q=>obtain⟨ps',b'⟩:=q; rw[hl] at he; simp only[Option.some.injEq,Prod.mk.injEq] at he; obtain⟨rfl,rfl,rfl⟩:=he; exact⟨en,rfl,hl⟩
theorem agE (ids:List Nat) (id:Nat) {Q:RV->Prop} (c:bu P k ps Q) (he:jF o (ev env) (cO ids H)=some (k,ps,b))
  (hW:∀r,Q r->(b=true->r.flat=true)/\ry (cO ids H) id ((cF id r).2 - id)/\W (cA env o.dst (cF id r).1) (fR id (cO ids H) r)):iL P o W env H:=by
 obtain⟨en,h1,h2⟩:=aia he; refine .inl (.inr (.inr ⟨ids,.inl ⟨k,en,ps,b,Q,id,h1,h2,c,λr hr=>?_⟩⟩)); obtain⟨q1,q2,q3⟩:=hW r hr; exact⟨q1,λi hi1 hi2=>aaG _ id q2 i hi1 (by omega),q3⟩
theorem vr (id:Nat) {r:RV} (c:bu P k ps λx=>x=r) (he:jF o (ev env) H=some (k,ps,b)) (hb:b=true->r.flat=true)
  (hf:ry H id ((cF id r).2 - id)) (hW:W (cA env o.dst (cF id r).1) (fR id H r)):iL P o W env H :=
 agE [] id c he λx hx=>by subst hx; exact⟨hb,hf,hW⟩
theorem amZ (ids:List Nat) (id:Nat) {r:RV} (c:bu P k ps λx=>x=r) (he:jF o (ev env) (cO ids H)=some (k,ps,b)) (hb:b=true->r.flat=true)
  (hf:ry (cO ids H) id ((cF id r).2 - id)) (hW:W (cA env o.dst (cF id r).1) (fR id (cO ids H) r)):iL P o W env H :=
 agE ids id c he λx hx=>by subst hx; exact⟨hb,hf,hW⟩
theorem agF (ids:List Nat) {id v:Nat} {e:TypeId} {sz:Nat} {es:List (List PV)} {en:List AV} {Q:AV->Option Chunk->Prop} (c:j5 P k v e sz es ps Q) (ha:di o (ev env)=some (k,.row id v :: en)) (hH:cO ids H id=some (.row v e sz es))
  (he:dS (fZ (afN (cO ids H) id)) en=some (ps,b))
  (hW:∀a c,Q a c->∃v' e' sz' es' a',c=some (.row v' e' sz' es')/\aoM id a=some a'/\(b=true->(es'.all λx=>x.all isVal)=true/\(match a' with | .p x=>x.scalar | _=>true)=true)/\W (cA env o.dst a') (bl (cO ids H) id (.row v' e' sz' es'))):iL P o W env H :=
 .inl (.inr (.inr ⟨ids,.inr ⟨k,id,v,e,sz,es,en,ps,b,Q,ha,hH,he,c,hW⟩⟩))
theorem abC {id v:Nat} {e:TypeId} {sz:Nat} {es es':List (List PV)} {en:List AV} (c:j5 P k v e sz es ps λa c=>a = .dB []/\c=some (.row v e sz es')) (ha:di o (ev env)=some (k,.row id v :: en)) (hH:H id=some (.row v e sz es))
  (he:dS (fZ (afN H id)) en=some (ps,b)) (hb:b=true->(es'.all λx=>x.all isVal)=true) (hW:W (cA env o.dst (.dB [])) (bl H id (.row v e sz es'))):iL P o W env H :=
 agF [] c ha hH he λa c ⟨h1,h2⟩=>by subst h1 h2; exact⟨v,e,sz,es',.dB [],rfl,rfl,λh=>⟨hb h,rfl⟩,hW⟩
theorem yp {r:RV} : false=true->r.flat=true:=λh=>by cases h
theorem agG {b:Bool} {r:RV} (h:r.flat=true):b=true->r.flat=true:=λ_=>h
end
def am0 (f:AV) (en:List AV):Option (FuncId×List AV):=match f with
 | .p (.gR (.func k) fs cs)=>some (k,fs.map AV.p++en++cs.map AV.p)
 | .gR (.func k) fs cs=>some (k,fs++en++cs)
 | _=>none
theorem bu.toL {f:FuncId} {args:List PV} {e:TypeId} {sz:Nat} {es:List (List PV)} (h:bu P f args λr=>r = .row e sz es):aS P f args λx=>x = .aU es:=h.aAi.mono λx hx=>by rw[hx]; simp only[RV.pv]
def avb:Option AV->AV
 | some a=>a
 | none=>.dead
theorem avc (en:List AV) (t:Nat):adm en t=avb en[t]?:=by unfold adm avb; cases en[t]?<;>rfl
theorem am1 (a:AV):avb (some a)=a:=rfl
def avd (H:ay) (Q:AV->Option Chunk->Prop) (a:Option AV):Prop:=match a with
 | some a=>Q a (H 1000000)
 | none=>False
theorem aj9 (rs:List ResultVar) (Q:AV->Option Chunk->Prop):aAn P rs Q .normal env H=avd H Q (oo P env H rs):=rfl
theorem ave (rs:List ResultVar) (Q:AV->Option Chunk->Prop):aAn P rs Q .ret env H=avd H Q (oo P env H rs):=rfl
theorem am2 (a:AV) (Q:AV->Option Chunk->Prop):avd H Q (some a)=Q a (H 1000000):=rfl
theorem aq8:oo P env H []=some (.dB []):=rfl
theorem aeL (d:Option Tmp) (t:TypeId) (pos:String) (af:Array Edge) (g:Option (Nat×Bool)) (f:Operand) (xs:Array Operand) (ts:Array TypeId) (ρ:Operand->AV) :
  di ⟨d,.call ⟨.value f,xs,ts⟩,t,pos,af,g⟩ ρ=am0 (ρ f) (xs.toList.map ρ):=by
 unfold di am0; simp only[]; generalize ρ f=v; cases v with
 | p x=>cases x with
  | gR fn fs cs=>cases fn<;>rfl
  | _=>rfl
 | gR fn fs cs=>cases fn<;>rfl
 | _=>rfl
theorem avf (k:FuncId) (fs cs:List PV) (en:List AV):am0 (.p (.gR (.func k) fs cs)) en=some (k,fs.map AV.p++en++cs.map AV.p):=rfl
theorem VR.su {I:Mem} {v:Value} (h:VR I v (.aU [])):∃ao cap,v = .slice ao 0 cap/\VR I v (.val (.slice ao 0 cap)):=by
 cases h with
 | aU ao n cap _ us sz hn=>simp only[List.length_nil] at hn; subst hn; exact⟨ao,cap,rfl,.val _ rfl⟩
theorem bu.su {f:FuncId} {rest:List PV} {Q:RV->Prop} (hc:gL P f=true) (h:∀ao cap,bu P f (.val (.slice ao 0 cap) :: rest) Q):bu P f (.aU [] :: rest) Q:=by
 refine⟨hc,λI w vs hI hv=>?_⟩; cases vs with
 | nil=>have:=hv.1; simp at this
 | cons v vs =>
  obtain⟨ao,cap,rfl,h1⟩:=(hv.2 0 v _ rfl rfl).su; refine (h ao cap).2 I w _ hI ⟨by simpa using hv.1,λj u c hu hc=>?_⟩; cases j with
  | zero=>simp at hu hc; subst hu hc; exact h1
  | succ j=>exact hv.2 (j+1) u c hu hc
theorem aS.su {f:FuncId} {rest:List PV} {Q:PV->Prop} (hc:gL P f=true) (h:∀ao cap,aS P f (.val (.slice ao 0 cap) :: rest) Q):aS P f (.aU [] :: rest) Q:=by
 refine⟨hc,λI w vs hI hv=>?_⟩; cases vs with
 | nil=>have:=hv.1; simp at this
 | cons v vs =>
  obtain⟨ao,cap,rfl,h1⟩:=(hv.2 0 v _ rfl rfl).su; refine (h ao cap).2 I w _ hI ⟨by simpa using hv.1,λj u c hu hc=>?_⟩; cases j with
  | zero=>simp at hu hc; subst hu hc; exact h1
  | succ j=>exact hv.2 (j+1) u c hu hc
theorem aka:cO [] H=H:=rfl
theorem aib (id:Nat) (r:List Nat):cO (id :: r) H=cO r (aoN H id):=rfl
def azR (H:ay) (id:Nat) (c:Option Chunk):ay:=match c with
 | some (.row v _ _ es)=>bl H id (.shut v es)
 | _=>H
theorem avg (id:Nat):aoN H id=azR H id (H id):=rfl
theorem aq9 (id v:Nat) (e:TypeId) (sz:Nat) (es:List (List PV)):azR H id (some (.row v e sz es))=bl H id (.shut v es):=rfl
def avh:List AV->Option (Prop×AV)
 | .p (.val (.int k n)) :: r=>afM k n r
 | _=>none
section
variable (d:Option Tmp) (ty:TypeId) (pos:String) (af:Array Edge) (g:Option (Nat×Bool)) (ρ:Operand->AV)
theorem ayI (xs:Array Operand) (ts:Array TypeId):fW P ⟨d,.call ⟨.builtin .max,xs,ts⟩,ty,pos,af,g⟩ ρ H=up3 (avh (xs.toList.map ρ)) H:=by
 have e:nH P ⟨d,.call ⟨.builtin .max,xs,ts⟩,ty,pos,af,g⟩ ρ=avh (xs.toList.map ρ):=by simp only[nH,sZ,avh]; generalize xs.toList.map ρ=l; split<;>first | rfl | (split<;>simp_all)
 simp only[fW,e,ri,mw,w8,xO,vP,xb,up3]; all_goals(cases avh (xs.toList.map ρ)<;>rfl)
end
theorem avi (k:IntKind) (n:Int) (r:List AV):avh (.p (.val (.int k n)) :: r)=afM k n r:=rfl
theorem avj (k:IntKind) (n:Int):afM k n []=some (True,.p (.val (.int k n))):=rfl
theorem ara (k k':IntKind) (n m:Int) (r:List AV):afM k n (.p (.val (.int k' m)) :: r)=afM k (max n m) r:=rfl
theorem arb (xs:Array Operand) (ts:Array TypeId):isApp (.call ⟨.builtin .max,xs,ts⟩)=false:=rfl
attribute [go_sem] ayI avi avj ara arb
theorem am3:oa []=[]:=rfl
theorem am4 (k id v:Nat) (r:List (Nat×AV)):oa ((k,.row id v) :: r)=id :: oa r:=rfl
theorem am5 (k:Nat) (cs:List AV) (r:List (Nat×AV)):oa ((k,.agg cs) :: r)=sq cs++oa r:=rfl
theorem akb:sq []=[]:=rfl
theorem akc (id v:Nat) (r:List AV):sq (.row id v :: r)=id :: sq r:=rfl
theorem arc (x:PV) (r:List AV):sq (.p x :: r)=sq r:=rfl
def avk (c:Option Chunk) (id bg:Nat):AV:=match c with
 | some (.shut v es)=>if v=bg then .p (.aU es) else .row id bg
 | _=>.row id bg
theorem ard (id bg:Nat):w9 H (.row id bg)=avk (H id) id bg:=rfl
theorem arf (id bg:Nat):z7 H (.row id bg)=avk (H id) id bg:=rfl
theorem am6 (v:Nat) (es:List (List PV)) (id bg:Nat):avk (some (.shut v es)) id bg=if v=bg then .p (.aU es) else .row id bg:=rfl
theorem ayJ (x:PV):z7 H (.p x) = .p x:=rfl
theorem arh (cs:List AV):w9 H (.agg cs) = .agg (cs.map (z7 H)):=rfl
theorem yq (n:Int):(n<=n)=True:=eq_true (Int.le_refl n)
attribute [go_sem] am3 am4 am5 akb akc arc ard arf am6 ayJ arh
theorem sv {o:Oper} {W:Env->ay->Prop} (rM:Env) (H2:ay) {pre:Prop} {v:AV} {H':ay} (hw:dP env H rM H2) (hx:fW P o (ev rM) H2=some (pre,v,H')) (hp:pre) (hW:W (cA rM o.dst v) H'):iL P o W env H :=
 .inr (.inl ⟨rM,H2,hw,.inl ⟨pre,v,H',hx,hp,hW⟩⟩)
theorem agH {env:Env} {H:ay} (id v:Nat) (e:TypeId) (sz:Nat) (es:List (List PV)) (ts:List Nat) (hH:H id=some (.row v e sz es)) (ht:holds env id v ts) (hn:ts.Nodup):dP env H (alT (.p (.aU es)) ts env) (bl H id (.shut v es)):=λC I L tm w hs=>⟨_,L,acw (es:=es) (by simp[bl]) ts _ hn (Fr.shut C I L w hH env tm hs) ht⟩
theorem sL {o:Oper} {W:Env->ay->Prop} {rM:Env} {H2:ay} (hw:dP env H rM H2) (h:acy P o W rM H2\/agp P o W rM H2\/abq P o W rM H2):iL P o W env H:=.inr (.inl ⟨rM,H2,hw,.inr h⟩)
theorem am7 (t:TypeId) (i v:Nat) (lo hi mx:Option AV):rJ P t (.row i v) lo hi mx=none:=by cases mx<;>rfl
attribute [go_sem] am7 atG apM apN alU
theorem vt {o:Oper} {W:Env->ay->Prop} {k:FuncId} {ps:List PV} {b:Bool} {id v:Nat} {e:TypeId} {sz:Nat} {es es':List (List PV)} {en:List AV} (c:j5 P k v e sz es ps λa c=>a = .row 1000000 (v+1)/\c=some (.row (v+1) e sz es'))
  (ha:di o (ev env)=some (k,.row id v :: en)) (hH:H id=some (.row v e sz es))
  (he:dS (fZ (afN H id)) en=some (ps,b)) (hb:b=true->(es'.all λx=>x.all isVal)=true) (hW:W (cA env o.dst (.row id (v+1))) (bl H id (.row (v+1) e sz es'))):iL P o W env H :=
 agF [] c ha hH he λa c ⟨h1,h2⟩=>by subst h1 h2; exact⟨v+1,e,sz,es',.row id (v+1),rfl,rfl,λh=>⟨hb h,rfl⟩,hW⟩
attribute [go_sem] avc am1 aj9 ave am2 aq8 aeL avf aqZ aaF apR al4 au4 au3 aBB aq0 aq1 amN ayC aq3 aq2 aq4 ayF ayG au5 amO amP aAy au6 ayH au7 au8 aq5 amQ au9 amR amS amT amU aj6 ava amV amW amX aj7 ah9 aq6 aq7 aj8 amY aka aib avg aq9 Nat.add_sub_cancel_left Nat.sub_self
end Go.cE
namespace Go.Proofs.YtllicmcihlfajaaGreat.Ty
open Go Go.cE
theorem mixed:Tryz.prog.follows .mixedOrders=true:=by kernel_rfl
@[go_sem] theorem aGm:bw Tryz.prog 3=some 1:=by kernel_rfl
@[go_sem] theorem agg3:gF Tryz.prog 3=some false:=by kernel_rfl
@[go_sem] theorem aGn:cI Tryz.prog 3=some [.int .i64 0]:=by kernel_rfl
@[go_sem] theorem aGo:bw Tryz.prog 4=some 1:=by kernel_rfl
@[go_sem] theorem agg4:gF Tryz.prog 4=some false:=by kernel_rfl
@[go_sem] theorem aGp:bw Tryz.prog 9=some 1:=by kernel_rfl
@[go_sem] theorem agg9:gF Tryz.prog 9=some false:=by kernel_rfl
@[go_sem] theorem aGq:cI Tryz.prog 9=some [.string ⟨#[]⟩]:=by kernel_rfl
@[go_sem] theorem str9:xS Tryz.prog 9=true:=by kernel_rfl
@[go_sem] theorem aEM:bw Tryz.prog 22=some 1:=by kernel_rfl
@[go_sem] theorem aGr:gF Tryz.prog 22=some false:=by kernel_rfl
@[go_sem] theorem aEN:cH Tryz.prog 22=some 129:=by kernel_rfl
@[go_sem] theorem aEO:isSlice Tryz.prog 22=true:=by kernel_rfl
@[go_sem] theorem aEP:bw Tryz.prog 23=some 1:=by kernel_rfl
@[go_sem] theorem aGs:gF Tryz.prog 23=some false:=by kernel_rfl
@[go_sem] theorem aEQ:cH Tryz.prog 23=some 131:=by kernel_rfl
@[go_sem] theorem aER:isSlice Tryz.prog 23=true:=by kernel_rfl
@[go_sem] theorem aES:bw Tryz.prog 25=some 2:=by kernel_rfl
@[go_sem] theorem aGt:gF Tryz.prog 25=some true:=by kernel_rfl
@[go_sem] theorem aET:cI Tryz.prog 25=some [.slice none 0 0,.slice none 0 0]:=by kernel_rfl
@[go_sem] theorem pl25:fH Tryz.prog 25=some [(0,1),(1,1)]:=by kernel_rfl
@[go_sem] theorem aDl:bV Tryz.prog 25 0=some (0,1):=by kernel_rfl
@[go_sem] theorem aDm:bV Tryz.prog 25 1=some (1,1):=by kernel_rfl
@[go_sem] theorem aEU:bw Tryz.prog 26=some 1:=by kernel_rfl
@[go_sem] theorem aGu:gF Tryz.prog 26=some false:=by kernel_rfl
@[go_sem] theorem aEV:cI Tryz.prog 26=some [.slice none 0 0]:=by kernel_rfl
@[go_sem] theorem aEW:cH Tryz.prog 26=some 3:=by kernel_rfl
@[go_sem] theorem aEX:isSlice Tryz.prog 26=true:=by kernel_rfl
@[go_sem] theorem aGv:dg Tryz.prog 26 26=some (3,1,8):=by kernel_rfl
@[go_sem] theorem aEY:bw Tryz.prog 27=some 1:=by kernel_rfl
@[go_sem] theorem aGw:gF Tryz.prog 27=some false:=by kernel_rfl
@[go_sem] theorem aEZ:cH Tryz.prog 27=some 133:=by kernel_rfl
@[go_sem] theorem aE0:isSlice Tryz.prog 27=true:=by kernel_rfl
@[go_sem] theorem aGx:dg Tryz.prog 27 27=some (133,3,24):=by kernel_rfl
@[go_sem] theorem aE1:bw Tryz.prog 29=some 2:=by kernel_rfl
@[go_sem] theorem aGy:gF Tryz.prog 29=some true:=by kernel_rfl
@[go_sem] theorem aE2:cI Tryz.prog 29=some [.slice none 0 0,.slice none 0 0]:=by kernel_rfl
@[go_sem] theorem pl29:fH Tryz.prog 29=some [(0,1),(1,1)]:=by kernel_rfl
@[go_sem] theorem aDn:bV Tryz.prog 29 0=some (0,1):=by kernel_rfl
@[go_sem] theorem aDo:bV Tryz.prog 29 1=some (1,1):=by kernel_rfl
@[go_sem] theorem aE3:bw Tryz.prog 30=some 1:=by kernel_rfl
@[go_sem] theorem aGz:gF Tryz.prog 30=some false:=by kernel_rfl
@[go_sem] theorem aE4:cH Tryz.prog 30=some 26:=by kernel_rfl
@[go_sem] theorem aE5:isSlice Tryz.prog 30=true:=by kernel_rfl
@[go_sem] theorem aGA:dg Tryz.prog 30 30=some (26,1,24):=by kernel_rfl
@[go_sem] theorem aE6:bw Tryz.prog 32=some 3:=by kernel_rfl
@[go_sem] theorem aGB:gF Tryz.prog 32=some true:=by kernel_rfl
@[go_sem] theorem zero32:cI Tryz.prog 32=some [.slice none 0 0,.slice none 0 0,.slice none 0 0]:=by kernel_rfl
@[go_sem] theorem pl32:fH Tryz.prog 32=some [(0,2),(2,1)]:=by kernel_rfl
@[go_sem] theorem aDp:bV Tryz.prog 32 0=some (0,2):=by kernel_rfl
@[go_sem] theorem aDq:bV Tryz.prog 32 1=some (2,1):=by kernel_rfl
@[go_sem] theorem aE7:bw Tryz.prog 34=some 6:=by kernel_rfl
@[go_sem] theorem aGC:gF Tryz.prog 34=some true:=by kernel_rfl
@[go_sem] theorem aE8:cI Tryz.prog 34=some [.slice none 0 0,.slice none 0 0,.slice none 0 0,.slice none 0 0,.slice none 0 0,.int .i64 0]:=by kernel_rfl
@[go_sem] theorem pl34:fH Tryz.prog 34=some [(0,3),(3,1),(4,1),(5,1)]:=by kernel_rfl
@[go_sem] theorem aDr:bV Tryz.prog 34 0=some (0,3):=by kernel_rfl
@[go_sem] theorem aDs:bV Tryz.prog 34 1=some (3,1):=by kernel_rfl
@[go_sem] theorem aDt:bV Tryz.prog 34 2=some (4,1):=by kernel_rfl
@[go_sem] theorem aDu:bV Tryz.prog 34 3=some (5,1):=by kernel_rfl
@[go_sem] theorem aE9:bw Tryz.prog 35=some 1:=by kernel_rfl
@[go_sem] theorem aGD:gF Tryz.prog 35=some false:=by kernel_rfl
@[go_sem] theorem aFa:cH Tryz.prog 35=some 79:=by kernel_rfl
@[go_sem] theorem aFb:isSlice Tryz.prog 35=true:=by kernel_rfl
@[go_sem] theorem aGE:dg Tryz.prog 35 35=some (79,3,40):=by kernel_rfl
@[go_sem] theorem aFc:bw Tryz.prog 36=some 1:=by kernel_rfl
@[go_sem] theorem aGF:gF Tryz.prog 36=some false:=by kernel_rfl
@[go_sem] theorem aFd:cH Tryz.prog 36=some 84:=by kernel_rfl
@[go_sem] theorem aFe:isSlice Tryz.prog 36=true:=by kernel_rfl
@[go_sem] theorem aGG:dg Tryz.prog 36 36=some (84,4,32):=by kernel_rfl
@[go_sem] theorem aFf:bw Tryz.prog 37=some 1:=by kernel_rfl
@[go_sem] theorem aGH:gF Tryz.prog 37=some false:=by kernel_rfl
@[go_sem] theorem aFg:cH Tryz.prog 37=some 87:=by kernel_rfl
@[go_sem] theorem aFh:isSlice Tryz.prog 37=true:=by kernel_rfl
@[go_sem] theorem aGI:dg Tryz.prog 37 37=some (87,4,32):=by kernel_rfl
@[go_sem] theorem aFi:bw Tryz.prog 38=some 2:=by kernel_rfl
@[go_sem] theorem aGJ:gF Tryz.prog 38=some true:=by kernel_rfl
@[go_sem] theorem aFj:cI Tryz.prog 38=some [.int .i64 0,.int .i64 0]:=by kernel_rfl
@[go_sem] theorem aGK:xR Tryz.prog 38=some (2,3):=by kernel_rfl
@[go_sem] theorem pl38:fH Tryz.prog 38=some [(0,1),(1,1)]:=by kernel_rfl
@[go_sem] theorem aFk:bw Tryz.prog 40=some 7:=by kernel_rfl
@[go_sem] theorem aGL:gF Tryz.prog 40=some true:=by kernel_rfl
@[go_sem] theorem aFl:cI Tryz.prog 40=some [.slice none 0 0,.slice none 0 0,.slice none 0 0,.slice none 0 0,.slice none 0 0,.int .i64 0,.int .i64 0]:=by kernel_rfl
@[go_sem] theorem pl40:fH Tryz.prog 40=some [(0,1),(1,1),(2,1),(3,1),(4,1),(5,2)]:=by kernel_rfl
@[go_sem] theorem aDv:bV Tryz.prog 40 0=some (0,1):=by kernel_rfl
@[go_sem] theorem aDw:bV Tryz.prog 40 1=some (1,1):=by kernel_rfl
@[go_sem] theorem aDx:bV Tryz.prog 40 2=some (2,1):=by kernel_rfl
@[go_sem] theorem aDy:bV Tryz.prog 40 3=some (3,1):=by kernel_rfl
@[go_sem] theorem aDz:bV Tryz.prog 40 4=some (4,1):=by kernel_rfl
@[go_sem] theorem aDA:bV Tryz.prog 40 5=some (5,2):=by kernel_rfl
@[go_sem] theorem aFm:bw Tryz.prog 42=some 20:=by kernel_rfl
@[go_sem] theorem aGM:gF Tryz.prog 42=some true:=by kernel_rfl
@[go_sem] theorem aDB:bV Tryz.prog 42 0=some (0,6):=by kernel_rfl
@[go_sem] theorem aDC:bV Tryz.prog 42 1=some (6,7):=by kernel_rfl
@[go_sem] theorem aDD:bV Tryz.prog 42 2=some (13,7):=by kernel_rfl
@[go_sem] theorem aFn:bw Tryz.prog 45=some 1:=by kernel_rfl
@[go_sem] theorem aGN:gF Tryz.prog 45=some false:=by kernel_rfl
@[go_sem] theorem aFo:cI Tryz.prog 45=some [.slice none 0 0]:=by kernel_rfl
@[go_sem] theorem aFp:cH Tryz.prog 45=some 53:=by kernel_rfl
@[go_sem] theorem aFq:isSlice Tryz.prog 45=true:=by kernel_rfl
@[go_sem] theorem aBC:dg Tryz.prog 45 45=some (53,3,24):=by kernel_rfl
@[go_sem] theorem aFr:bw Tryz.prog 53=some 3:=by kernel_rfl
@[go_sem] theorem aGO:gF Tryz.prog 53=some true:=by kernel_rfl
@[go_sem] theorem aFs:cI Tryz.prog 53=some [.int .i64 0,.int .i64 0,.int .i64 0]:=by kernel_rfl
@[go_sem] theorem pl53:fH Tryz.prog 53=some [(0,1),(1,1),(2,1)]:=by kernel_rfl
@[go_sem] theorem aFt:bw Tryz.prog 79=some 3:=by kernel_rfl
@[go_sem] theorem aGP:gF Tryz.prog 79=some true:=by kernel_rfl
@[go_sem] theorem aFu:cI Tryz.prog 79=some [.int .i64 0,.int .i64 0,.slice none 0 0]:=by kernel_rfl
@[go_sem] theorem pl79:fH Tryz.prog 79=some [(0,1),(1,1),(2,1)]:=by kernel_rfl
@[go_sem] theorem aDE:bV Tryz.prog 79 0=some (0,1):=by kernel_rfl
@[go_sem] theorem aDF:bV Tryz.prog 79 1=some (1,1):=by kernel_rfl
@[go_sem] theorem aDG:bV Tryz.prog 79 2=some (2,1):=by kernel_rfl
@[go_sem] theorem aFv:bw Tryz.prog 84=some 4:=by kernel_rfl
@[go_sem] theorem aGQ:gF Tryz.prog 84=some true:=by kernel_rfl
@[go_sem] theorem aFw:cI Tryz.prog 84=some [.int .i64 0,.int .i64 0,.int .i64 0,.int .i64 0]:=by kernel_rfl
@[go_sem] theorem pl84:fH Tryz.prog 84=some [(0,1),(1,1),(2,1),(3,1)]:=by kernel_rfl
@[go_sem] theorem aDH:bV Tryz.prog 84 0=some (0,1):=by kernel_rfl
@[go_sem] theorem aDI:bV Tryz.prog 84 1=some (1,1):=by kernel_rfl
@[go_sem] theorem aDJ:bV Tryz.prog 84 2=some (2,1):=by kernel_rfl
@[go_sem] theorem aDK:bV Tryz.prog 84 3=some (3,1):=by kernel_rfl
@[go_sem] theorem aFx:bw Tryz.prog 87=some 4:=by kernel_rfl
@[go_sem] theorem aGR:gF Tryz.prog 87=some true:=by kernel_rfl
@[go_sem] theorem aFy:cI Tryz.prog 87=some [.int .i64 0,.int .i64 0,.int .i64 0,.int .i64 0]:=by kernel_rfl
@[go_sem] theorem pl87:fH Tryz.prog 87=some [(0,1),(1,1),(2,1),(3,1)]:=by kernel_rfl
@[go_sem] theorem aDL:bV Tryz.prog 87 0=some (0,1):=by kernel_rfl
@[go_sem] theorem aDM:bV Tryz.prog 87 1=some (1,1):=by kernel_rfl
@[go_sem] theorem aDN:bV Tryz.prog 87 2=some (2,1):=by kernel_rfl
@[go_sem] theorem aDO:bV Tryz.prog 87 3=some (3,1):=by kernel_rfl
@[go_sem] theorem aDP:bw Tryz.prog 120=some 14:=by kernel_rfl
@[go_sem] theorem aFz:gF Tryz.prog 120=some true:=by kernel_rfl
@[go_sem] theorem aDQ:cI Tryz.prog 120=some [.slice none 0 0,.slice none 0 0,.slice none 0 0,.slice none 0 0,.slice none 0 0,.int .i64 0,.int .i64 0,.slice none 0 0,.slice none 0 0,.slice none 0 0,.slice none 0 0,.slice none 0 0,.int .i64 0,.int .i64 0]:=by kernel_rfl
@[go_sem] theorem aFA:xR Tryz.prog 120=some (2,40):=by kernel_rfl
@[go_sem] theorem aGS:fH Tryz.prog 120=some [(0,7),(7,7)]:=by kernel_rfl
@[go_sem] theorem aDR:bw Tryz.prog 124=some 1:=by kernel_rfl
@[go_sem] theorem aFB:gF Tryz.prog 124=some false:=by kernel_rfl
@[go_sem] theorem aDS:cH Tryz.prog 124=some 9:=by kernel_rfl
@[go_sem] theorem aDT:isSlice Tryz.prog 124=true:=by kernel_rfl
@[go_sem] theorem aFC:dg Tryz.prog 124 124=some (9,1,16):=by kernel_rfl
@[go_sem] theorem aDU:bw Tryz.prog 126=some 4:=by kernel_rfl
@[go_sem] theorem aFD:gF Tryz.prog 126=some true:=by kernel_rfl
@[go_sem] theorem aDV:cI Tryz.prog 126=some [.string ⟨#[]⟩,.int .i64 0,.int .i64 0,.slice none 0 0]:=by kernel_rfl
@[go_sem] theorem aGT:fH Tryz.prog 126=some [(0,1),(1,1),(2,1),(3,1)]:=by kernel_rfl
@[go_sem] theorem aBD:bV Tryz.prog 126 0=some (0,1):=by kernel_rfl
@[go_sem] theorem aBE:bV Tryz.prog 126 1=some (1,1):=by kernel_rfl
@[go_sem] theorem aBF:bV Tryz.prog 126 2=some (2,1):=by kernel_rfl
@[go_sem] theorem aBG:bV Tryz.prog 126 3=some (3,1):=by kernel_rfl
@[go_sem] theorem aDW:bw Tryz.prog 127=some 1:=by kernel_rfl
@[go_sem] theorem aFE:gF Tryz.prog 127=some false:=by kernel_rfl
@[go_sem] theorem aDX:cH Tryz.prog 127=some 126:=by kernel_rfl
@[go_sem] theorem aDY:isSlice Tryz.prog 127=true:=by kernel_rfl
@[go_sem] theorem aFF:dg Tryz.prog 127 127=some (126,4,56):=by kernel_rfl
@[go_sem] theorem aDZ:bw Tryz.prog 129=some 4:=by kernel_rfl
@[go_sem] theorem aFG:gF Tryz.prog 129=some true:=by kernel_rfl
@[go_sem] theorem aD0:cI Tryz.prog 129=some [.string ⟨#[]⟩,.int .i64 0,.bool false,.slice none 0 0]:=by kernel_rfl
@[go_sem] theorem aGU:fH Tryz.prog 129=some [(0,1),(1,1),(2,1),(3,1)]:=by kernel_rfl
@[go_sem] theorem aBH:bV Tryz.prog 129 0=some (0,1):=by kernel_rfl
@[go_sem] theorem aBI:bV Tryz.prog 129 1=some (1,1):=by kernel_rfl
@[go_sem] theorem aBJ:bV Tryz.prog 129 2=some (2,1):=by kernel_rfl
@[go_sem] theorem aBK:bV Tryz.prog 129 3=some (3,1):=by kernel_rfl
@[go_sem] theorem aD1:bw Tryz.prog 131=some 7:=by kernel_rfl
@[go_sem] theorem aFH:gF Tryz.prog 131=some true:=by kernel_rfl
@[go_sem] theorem aD2:cI Tryz.prog 131=some [.string ⟨#[]⟩,.int .i64 0,.int .i64 0,.int .i64 0,.int .i64 0,.int .i64 0,.int .i64 0]:=by kernel_rfl
@[go_sem] theorem aGV:fH Tryz.prog 131=some [(0,1),(1,1),(2,1),(3,1),(4,1),(5,1),(6,1)]:=by kernel_rfl
@[go_sem] theorem aBL:bV Tryz.prog 131 0=some (0,1):=by kernel_rfl
@[go_sem] theorem aBM:bV Tryz.prog 131 1=some (1,1):=by kernel_rfl
@[go_sem] theorem aBN:bV Tryz.prog 131 2=some (2,1):=by kernel_rfl
@[go_sem] theorem aBO:bV Tryz.prog 131 3=some (3,1):=by kernel_rfl
@[go_sem] theorem aBP:bV Tryz.prog 131 4=some (4,1):=by kernel_rfl
@[go_sem] theorem aBQ:bV Tryz.prog 131 5=some (5,1):=by kernel_rfl
@[go_sem] theorem aBR:bV Tryz.prog 131 6=some (6,1):=by kernel_rfl
@[go_sem] theorem aD3:bw Tryz.prog 133=some 3:=by kernel_rfl
@[go_sem] theorem aFI:gF Tryz.prog 133=some true:=by kernel_rfl
@[go_sem] theorem aD4:cI Tryz.prog 133=some [.int .i64 0,.int .i64 0,.int .i64 0]:=by kernel_rfl
@[go_sem] theorem aGW:fH Tryz.prog 133=some [(0,1),(1,1),(2,1)]:=by kernel_rfl
@[go_sem] theorem aBS:bV Tryz.prog 133 0=some (0,1):=by kernel_rfl
@[go_sem] theorem aBT:bV Tryz.prog 133 1=some (1,1):=by kernel_rfl
@[go_sem] theorem aBU:bV Tryz.prog 133 2=some (2,1):=by kernel_rfl
@[go_sem] theorem aD5:cH Tryz.prog 135=some 40:=by kernel_rfl
@[go_sem] theorem aD6:isSlice Tryz.prog 135=true:=by kernel_rfl
@[go_sem] theorem aD7:cH Tryz.prog 136=some 120:=by kernel_rfl
@[go_sem] theorem aD8:isSlice Tryz.prog 136=true:=by kernel_rfl
@[go_sem] theorem aD9:bw Tryz.prog 141=some 1:=by kernel_rfl
@[go_sem] theorem aFJ:gF Tryz.prog 141=some false:=by kernel_rfl
@[go_sem] theorem aEa:cI Tryz.prog 141=some [.slice none 0 0]:=by kernel_rfl
@[go_sem] theorem aEb:cH Tryz.prog 141=some 144:=by kernel_rfl
@[go_sem] theorem aEc:isSlice Tryz.prog 141=true:=by kernel_rfl
@[go_sem] theorem aAz:dg Tryz.prog 141 141=some (144,3,24):=by kernel_rfl
@[go_sem] theorem aEd:bw Tryz.prog 144=some 3:=by kernel_rfl
@[go_sem] theorem aFK:gF Tryz.prog 144=some true:=by kernel_rfl
@[go_sem] theorem aEe:cI Tryz.prog 144=some [.int .i64 0,.int .i64 0,.bool false]:=by kernel_rfl
@[go_sem] theorem aGX:fH Tryz.prog 144=some [(0,1),(1,1),(2,1)]:=by kernel_rfl
@[go_sem] theorem aBV:bV Tryz.prog 144 0=some (0,1):=by kernel_rfl
@[go_sem] theorem aBW:bV Tryz.prog 144 1=some (1,1):=by kernel_rfl
@[go_sem] theorem aEf:cH Tryz.prog 151=some 154:=by kernel_rfl
@[go_sem] theorem aEg:isSlice Tryz.prog 151=true:=by kernel_rfl
@[go_sem] theorem aFL:dg Tryz.prog 151 151=some (154,3,24):=by kernel_rfl
@[go_sem] theorem aEh:bw Tryz.prog 154=some 3:=by kernel_rfl
@[go_sem] theorem aFM:gF Tryz.prog 154=some true:=by kernel_rfl
@[go_sem] theorem aEi:cI Tryz.prog 154=some [.int .i64 0,.int .i64 0,.bool false]:=by kernel_rfl
@[go_sem] theorem aGY:fH Tryz.prog 154=some [(0,1),(1,1),(2,1)]:=by kernel_rfl
@[go_sem] theorem aBX:bV Tryz.prog 154 0=some (0,1):=by kernel_rfl
@[go_sem] theorem aBY:bV Tryz.prog 154 1=some (1,1):=by kernel_rfl
@[go_sem] theorem aEj:bw Tryz.prog 177=some 2:=by kernel_rfl
@[go_sem] theorem aFN:gF Tryz.prog 177=some true:=by kernel_rfl
@[go_sem] theorem aEk:cI Tryz.prog 177=some [.slice none 0 0,.slice none 0 0]:=by kernel_rfl
@[go_sem] theorem aGZ:fH Tryz.prog 177=some [(0,1),(1,1)]:=by kernel_rfl
@[go_sem] theorem aBZ:bV Tryz.prog 177 0=some (0,1):=by kernel_rfl
@[go_sem] theorem aB0:bV Tryz.prog 177 1=some (1,1):=by kernel_rfl
@[go_sem] theorem aEl:cH Tryz.prog 196=some 45:=by kernel_rfl
@[go_sem] theorem aEm:isSlice Tryz.prog 196=true:=by kernel_rfl
@[go_sem] theorem aEn:cH Tryz.prog 208=some 141:=by kernel_rfl
@[go_sem] theorem aEo:isSlice Tryz.prog 208=true:=by kernel_rfl
@[go_sem] theorem aEp:cH Tryz.prog 210=some 214:=by kernel_rfl
@[go_sem] theorem aEq:isSlice Tryz.prog 210=true:=by kernel_rfl
@[go_sem] theorem aFO:dg Tryz.prog 210 210=some (214,4,32):=by kernel_rfl
@[go_sem] theorem aEr:bw Tryz.prog 214=some 4:=by kernel_rfl
@[go_sem] theorem aFP:gF Tryz.prog 214=some true:=by kernel_rfl
@[go_sem] theorem aEs:cI Tryz.prog 214=some [.int .i64 0,.int .i64 0,.int .i64 0,.bool false]:=by kernel_rfl
@[go_sem] theorem aG0:fH Tryz.prog 214=some [(0,1),(1,1),(2,1),(3,1)]:=by kernel_rfl
@[go_sem] theorem aB1:bV Tryz.prog 214 0=some (0,1):=by kernel_rfl
@[go_sem] theorem aB2:bV Tryz.prog 214 1=some (1,1):=by kernel_rfl
@[go_sem] theorem aB3:bV Tryz.prog 214 3=some (3,1):=by kernel_rfl
@[go_sem] theorem aEt:bw Tryz.prog 239=some 2:=by kernel_rfl
@[go_sem] theorem aEu:cI Tryz.prog 239=some [.slice none 0 0,.slice none 0 0]:=by kernel_rfl
@[go_sem] theorem aG1:fH Tryz.prog 239=some [(0,1),(1,1)]:=by kernel_rfl
@[go_sem] theorem aB4:bV Tryz.prog 239 0=some (0,1):=by kernel_rfl
@[go_sem] theorem aB5:bV Tryz.prog 239 1=some (1,1):=by kernel_rfl
@[go_sem] theorem aEv:bw Tryz.prog 261=some 1:=by kernel_rfl
@[go_sem] theorem aFQ:gF Tryz.prog 261=some false:=by kernel_rfl
@[go_sem] theorem aEw:bw Tryz.prog 278=some 3:=by kernel_rfl
@[go_sem] theorem aFR:gF Tryz.prog 278=some true:=by kernel_rfl
@[go_sem] theorem aEx:cI Tryz.prog 278=some [.int .i64 0,.string ⟨#[]⟩,.int .i64 0]:=by kernel_rfl
@[go_sem] theorem aG2:fH Tryz.prog 278=some [(0,1),(1,1),(2,1)]:=by kernel_rfl
@[go_sem] theorem aB6:bV Tryz.prog 278 0=some (0,1):=by kernel_rfl
@[go_sem] theorem aB7:bV Tryz.prog 278 1=some (1,1):=by kernel_rfl
@[go_sem] theorem sk53:pG Tryz.prog 53=some [.i,.i,.i]:=by kernel_rfl
@[go_sem] theorem sk84:pG Tryz.prog 84=some [.i,.i,.i,.i]:=by kernel_rfl
@[go_sem] theorem sk87:pG Tryz.prog 87=some [.i,.i,.i,.i]:=by kernel_rfl
@[go_sem] theorem aG3:pG Tryz.prog 133=some [.i,.i,.i]:=by kernel_rfl
@[go_sem] theorem aG4:pG Tryz.prog 144=some [.i,.i,.b]:=by kernel_rfl
@[go_sem] theorem aG5:pG Tryz.prog 154=some [.i,.i,.b]:=by kernel_rfl
end Go.Proofs.YtllicmcihlfajaaGreat.Ty
namespace Go.cE
theorem aB8 {α β:Type} (f:α->β) (l:List α) (n:Nat):(l.map f).take n=(l.take n).map f:=(List.map_take ..).symm
theorem aB9 {α β:Type} (f:α->β) (l:List α) (n:Nat):(l.map f).drop n=(l.drop n).map f:=(List.map_drop ..).symm
attribute [go_sem] Nat.reduceEqDiff Nat.reduceLT Nat.reduceLeDiff Nat.reduceMul Nat.reduceAdd Nat.reduceBEq Nat.reduceSub Int.reduceToNat reduceIte reduceCtorEq
attribute [go_sem] aB8 aB9 Nat.le_refl Nat.not_lt_zero Nat.zero_le Nat.zero_lt_succ decide_true decide_false Bool.not_not exists_eq'
end Go.cE
namespace Go.Proofs.YtllicmcihlfajaaGreat
open Go.cE
def encI (n:Int):List PV:=[.val (.int .i64 n)]
def gC (s:ByteArray):List PV:=[.val (.string s)]
def bh (l:List Int):PV:=.aU (l.map encI)
def cG (l:List ByteArray):PV:=.aU (l.map gC)
structure Attr where
 name:ByteArray
 low:Int
 high:Int
 names:List ByteArray
structure qh where
 name:ByteArray
 parent:Int
 abs:Bool
 attrs:List Attr
structure rZ where
 name:ByteArray
 src:Int
 dst:Int
 lB:Int
 jd:Int
 qi:Int
 mg:Int
structure Types where
 nodes:List qh
 au:List rZ
structure aG6 where
 nodes:List Int
 au:List Int
structure Edge where
 type:Int
 src:Int
 dst:Int
structure dI where
 nodes:List Int
 au:List Edge
structure Host where
 graph:dI
 values:List (List Int)
structure aCa where
 a:Int
 b:Int
instance:Inhabited ByteArray:=⟨.empty⟩
instance:Inhabited Attr:=⟨⟨.empty,0,0,[]⟩⟩
instance:Inhabited qh:=⟨⟨.empty,0,false,[]⟩⟩
instance:Inhabited rZ:=⟨⟨.empty,0,0,0,0,0,0⟩⟩
instance:Inhabited Edge:=⟨⟨0,0,0⟩⟩
instance:Inhabited aCa:=⟨⟨0,0⟩⟩
def aV (a:Attr):List PV:=[.val (.string a.name),.val (.int .i64 a.low),.val (.int .i64 a.high),cG a.names]
def aJ (n:qh):List PV:=[.val (.string n.name),.val (.int .i64 n.parent),.val (.bool n.abs),.aU (n.attrs.map aV)]
def aK (e:rZ):List PV:=[.val (.string e.name),.val (.int .i64 e.src),.val (.int .i64 e.dst),.val (.int .i64 e.lB),.val (.int .i64 e.jd),.val (.int .i64 e.qi),.val (.int .i64 e.mg)]
def bf (e:Edge):List PV:=[.val (.int .i64 e.type),.val (.int .i64 e.src),.val (.int .i64 e.dst)]
def b9 (l:List Int):List PV:=[bh l]
def aF (t:Types):PV:=.agg [.aU (t.nodes.map aJ),.aU (t.au.map aK)]
def eF (g:dI):PV:=.agg [bh g.nodes,.aU (g.au.map bf)]
def cz (h:Host):PV:=.agg [bh h.graph.nodes,.aU (h.graph.au.map bf),.aU (h.values.map b9)]
theorem getD_map {α:Type} [Inhabited α] (f:α->List PV) {l:List α} {n:Nat} (h:n<l.length):(l.map f).getD n []=f (l.getD n default):=by simp[h]
theorem nu {α:Type} [Inhabited α] {l:List α} {n:Nat} (h:n<l.length):l.take (n+1)=l.take n++[l.getD n default]:=by rw[List.take_add_one]; simp[h]
theorem bq {k n:Nat} (h:k<n) (hn:n<=4611686018427387904):IntKind.i64.wrap ((k:Int)+1)=((k+1:Nat):Int):=by rw[IntWalk.i64_in _ (by omega)]; omega
section
variable {P:Program} {N:Nat} {own:List Nat} {ops:Array Oper} {K:Env->ay->Prop} {env:Env} {H:ay}
theorem ahV (x:PV):fZ H (.p x)=some (x,false):=rfl
theorem jv (ps:List PV):dS (fZ H) (ps.map AV.p)=some (ps,false):=by
 induction ps with
 | nil=>rfl
 | cons a r ih=>simp[dS,ahV,ih]
theorem jw (qs bs:List AV):dS (fZ H) (qs++bs)=(match dS (fZ H) qs,dS (fZ H) bs with | some (xs,b),some (ys,c)=>some (xs++ys,b||c) | _,_=>none):=by
 induction qs with
 | nil =>
  simp only[List.nil_append,dS]; cases dS (fZ H) bs with
  | none=>rfl
  | some r=>obtain⟨ys,c⟩:=r; simp
 | cons a r ih =>
  simp only[List.cons_append,dS,ih]; cases fZ H a with
  | none=>rfl
  | some q =>
   cases dS (fZ H) r with
   | none=>rfl
   | some r1 =>
    cases dS (fZ H) bs with
    | none=>rfl
    | some r2=>simp[Bool.or_assoc]
theorem aX {b:Bool} {x y:Code} {K:pJ} (h1:b=true->abt P N own (.p (.val (.bool false))) x y K env H) (h2:b=false->abt P N own (.p (.val (.bool true))) x y K env H):abt P N own (.p (.val (.bool !b))) x y K env H:=by
 cases b
 ·exact h2 rfl
 ·exact h1 rfl
theorem bK {b:Bool} {o:Oper} {rest:List Oper} (h1:b=true->z8 P N own ops (some true) o rest K env H) (h2:b=false->z8 P N own ops (some false) o rest K env H):z8 P N own ops (some b) o rest K env H:=by
 cases b
 ·exact h2 rfl
 ·exact h1 rfl
theorem bO {b:Bool} {o:Oper} {rest:List Oper} (h1:b=true->z8 P N own ops (some false) o rest K env H) (h2:b=false->z8 P N own ops (some true) o rest K env H):z8 P N own ops (some !b) o rest K env H:=by
 cases b
 ·exact h2 rfl
 ·exact h1 rfl
theorem ov {b:Bool} {c:og} {o:Oper} {rest:List (Oper×og)} (h1:b=true->uO P N own ops (some false) c o rest K env H) (h2:b=false->uO P N own ops (some true) c o rest K env H):uO P N own ops (some !b) c o rest K env H:=by
 cases b
 ·exact h2 rfl
 ·exact h1 rfl
theorem nJ {b:Bool} {c:og} {o:Oper} {rest:List (Oper×og)} (h1:b=true->uO P N own ops (some true) c o rest K env H) (h2:b=false->uO P N own ops (some false) c o rest K env H):uO P N own ops (some b) c o rest K env H:=by
 cases b
 ·exact h2 rfl
 ·exact h1 rfl
end
end Go.Proofs.YtllicmcihlfajaaGreat
namespace Go.cE
theorem aR {P:Program} {f:FuncId} {fn:Func} {c:Code} {args:List PV} {Q:PV->Prop} (own:List Nat) (hf:P.funcs[f]? = some fn) (h:cw P fn.ntmps own c (aAl P fn.results.toList Q) (iu args) b8) (hm:P.follows .mixedOrders=true:=by exact Ty.mixed) (hb:fn.body=some c:=by rfl) (hc:gL P f=true:=by kernel_rfl) (hn:args.length<=fn.ntmps:=by first | decide | simp):aS P f args Q:=ajc own hm hf hb hc hn h
end Go.cE
namespace Go.cE
theorem bF {P:Program} {f:FuncId} {fn:Func} {c:Code} {args:List PV} {Q:RV->Prop} (own:List Nat) (hf:P.funcs[f]? = some fn) (h:cw P fn.ntmps own c (aAm P fn.results.toList Q) (iu args) b8) (hm:P.follows .mixedOrders=true:=by exact Ty.mixed) (hb:fn.body=some c:=by rfl) (hc:gL P f=true:=by kernel_rfl) (hn:args.length<=fn.ntmps:=by first | decide | simp):bu P f args Q:=ajd own hm hf hb hc hn h
end Go.cE
namespace Go.Proofs.YtllicmcihlfajaaGreat
open Go.cE
theorem aab (n a b:Int):aS Tryz.prog 153 [.val (.int .i64 n),.val (.int .i64 a),.val (.int .i64 b)] (λr=>r = .val (.bool (decide (a<=n)&&decide (n<=b)))):=by refine aR [] func153 ?_; rw[ntmps153,results153]; simp -implicitDefEqProofs only[go_sem]; refine bK (λh=>?_) (λh=>?_)<;>simp -implicitDefEqProofs only[go_sem,h]
theorem za (n m:Int):aS Tryz.prog 233 [.val (.int .i64 n),.val (.int .i64 m)] (λr=>r = .val (.bool (decide (0<=n)&&decide (n<=m)))):=by refine aR [] func233 ?_; rw[ntmps233,results233]; simp -implicitDefEqProofs only[go_sem]; refine bK (λh=>?_) (λh=>?_)<;>simp -implicitDefEqProofs only[go_sem,h]
end Go.Proofs.YtllicmcihlfajaaGreat
namespace Go.Proofs.YtllicmcihlfajaaGreat
open Go.cE
def uP (a b:Int):Bool:=(decide (0<=a)&&decide (a<=40))&&(decide (b = -1)||(decide (a<=b)&&decide (b<=40)))
theorem aeM (a b:Int):aS Tryz.prog 258 [.val (.int .i64 a),.val (.int .i64 b)] (λr=>r = .val (.bool (uP a b))):=by
 unfold uP; refine aR [] func258 ?_; rw[ntmps258,results258]; simp -implicitDefEqProofs only[go_sem]
 repeat' first | done | (refine bO (λh=>?_) (λh=>?_)<;>try simp -implicitDefEqProofs only[go_sem,h]) | (refine bK (λh=>?_) (λh=>?_)<;>try simp -implicitDefEqProofs only[go_sem,h]) | (refine aX (λh=>?_) (λh=>?_)<;>try simp -implicitDefEqProofs only[go_sem,h]) | (refine aL (λh=>?_) (λh=>?_)<;>try simp -implicitDefEqProofs only[go_sem,h])
theorem akd (a b:Int):aS Tryz.prog 195 [.val (.int .i64 a),.val (.int .i64 b)] (λr=>r = .val (.bool (uP a b))):=by
 unfold uP; refine aR [] func195 ?_; rw[ntmps195,results195]; simp -implicitDefEqProofs only[go_sem]; refine aY (aab a 0 40) (by simp -implicitDefEqProofs only[go_sem]<;>rfl) (bY rfl) ?_; simp -implicitDefEqProofs only[go_sem]
 repeat' first | done | (refine bO (λh=>?_) (λh=>?_)<;>try simp -implicitDefEqProofs only[go_sem,h]) | (refine bK (λh=>?_) (λh=>?_)<;>try simp -implicitDefEqProofs only[go_sem,h]) | (refine aX (λh=>?_) (λh=>?_)<;>try simp -implicitDefEqProofs only[go_sem,h]) | (refine aL (λh=>?_) (λh=>?_)<;>try simp -implicitDefEqProofs only[go_sem,h])
 all_goals
  refine aY (aab b a 40) (by simp -implicitDefEqProofs only[go_sem]<;>rfl) (bY rfl) ?_; simp -implicitDefEqProofs only[go_sem, *]
def pP (n:Int):Bool:=(decide (97<=n)&&decide (n<=122))||(decide (65<=n)&&decide (n<=90))
def uQ (n:Int):Bool:=decide (48<=n)&&decide (n<=57)
def aac (n:Int):Bool:=(pP n||uQ n)||decide (n=95)
theorem agI (n:Int):aS Tryz.prog 304 [.val (.int .u8 n)] (λr=>r = .val (.bool (pP n))):=by
 unfold pP; refine aR [] func304 ?_; rw[ntmps304,results304]; simp -implicitDefEqProofs only[go_sem]
 repeat' first | done | (refine bO (λh=>?_) (λh=>?_)<;>try simp -implicitDefEqProofs only[go_sem,h]) | (refine bK (λh=>?_) (λh=>?_)<;>try simp -implicitDefEqProofs only[go_sem,h]) | (refine aX (λh=>?_) (λh=>?_)<;>try simp -implicitDefEqProofs only[go_sem,h]) | (refine aL (λh=>?_) (λh=>?_)<;>try simp -implicitDefEqProofs only[go_sem,h])
end Go.Proofs.YtllicmcihlfajaaGreat
namespace Go.cE
theorem bR {e e':Env} {H H':ay} (h1:aeu e' e:=by repeat (first | exact auB _ | refine ayk ?_ (by first | rfl | simp[ct]))) (h2:HSub H' H:=by repeat (first | exact aBx _ | refine aqz ?_ (by first | rfl | simp[bl]))) (h3:acB e' H':=by repeat (first | exact auC _ | refine ayl ?_ (by simp[oq,mc,bl]))) (h4:pL H' H':=by repeat (first | exact aym _ | refine ams ?_ | refine ajA ?_ | refine ake ?_ | refine akf ?_ | refine amr ?_ (by simp[oq,mc,bl]))) (h5:lu H H':=by repeat (first | exact azO _ | refine ajB (by decide) ?_ | refine aqA (by simp[bl]) ?_)):dP e H e' H':=ayn h1 h2 h3 h4 h5
end Go.cE
namespace Go.Proofs.YtllicmcihlfajaaGreat
open Go.cE
def idxOf {α:Type} (p:α->Bool) (l:List α):Int:=match l.findIdx? p with
 | some i=>i
 | none=>-1
theorem ow {α:Type} [Inhabited α] {p:α->Bool} {l:List α} {k:Nat} (hk:k<l.length) (h1:∀j,j<k->p (l.getD j default)=false) (h2:p (l.getD k default)=true):idxOf p l=k:=by
 have:l.findIdx? p=some k:=by
  rw[List.findIdx?_eq_some_iff_getElem]; refine⟨hk,by simpa[hk] using h2,λj hj=>?_⟩; have:=h1 j hj; have hjl:j<l.length:=by omega
  simpa[hjl] using this
 simp[idxOf,this]
theorem kH {α:Type} [Inhabited α] {p:α->Bool} {l:List α} (h1:∀j,j<l.length->p (l.getD j default)=false):idxOf p l = -1:=by
 have:l.findIdx? p=none:=by rw[List.findIdx?_eq_none_iff]; intro x hx; obtain⟨j,hj,rfl⟩:=List.getElem_of_mem hx; have:=h1 j hj; simpa[hj] using this
 simp[idxOf,this]
theorem j8 {α:Type} {p:α->Bool} {l:List α} : decide (0<=idxOf p l)=l.any p:=by
 unfold idxOf; cases h:l.findIdx? p with
 | none =>
  rw[List.findIdx?_eq_none_iff] at h; have:l.any p=false:=by simpa using h
  simp[this]
 | some i=>rw[List.findIdx?_eq_some_iff_getElem] at h; obtain⟨hi,h,_⟩:=h; have:l.any p=true:=List.any_eq_true.2 ⟨_,List.getElem_mem hi,h⟩; simp[this]
def pA (cs:List PV):PV:=.agg cs
def pV (cs:List PV):PV:=cs.getD 0 .emp
theorem am8 (p:Attr->Bool) (l:List Attr) (hl:l.length<=1000000) (k:FuncId) (fs cs:List PV) (hp:∀x∈l,aS Tryz.prog k (fs++[pA (aV x)]++cs) (λr=>r = .val (.bool (p x)))) :
  aS Tryz.prog 300 [.aU (l.map aV),.gR (.func k) fs cs] (λr=>r = .val (.int .i64 (idxOf p l))):=by
 refine aR [] func300 ?_; rw[ntmps300,results300]; simp -implicitDefEqProofs only[go_sem]; refine bH (σ:=Nat) (λx=>(ct (ct (ct (ct fA 0 (.p (.aU (l.map aV)))) 1 (.p (.gR (.func k) fs cs))) 7 (.p (.val (.int .i64 l.length)))) 8 (.p (.val (.int .i64 x))))) (λx=>b8)
  (λx=>x<=l.length/\∀j,j<x->p (l.getD j default)=false) (λx=>l.length - x) 0 ⟨Nat.zero_le _,λj hj=>absurd hj (Nat.not_lt_zero j)⟩ bR ?_
 rintro x ⟨hx,hq⟩; simp -implicitDefEqProofs only[go_sem]; refine aL (λhc=>?_) (λhc=>?_)
 ·have hlt:x<l.length:=by simpa using hc
  simp -implicitDefEqProofs only[go_sem,getD_map aV hlt,hlt,aV]; refine aY (hp (l.getD x default) (by simp[hlt])) (by simp -implicitDefEqProofs only[go_sem,jw,jv,aV,pA,Bool.or_false,Bool.false_or]<;>rfl) (bY rfl) ?_; simp -implicitDefEqProofs only[go_sem]; refine aL (λhb=>?_) (λhb=>?_)<;>simp -implicitDefEqProofs only[go_sem]
  ·exact (ow hlt hq hb).symm
  ·refine bJ (x+1) ⟨hlt,λj hj=>?_⟩ (by omega) ?_
   ·rcases Nat.lt_succ_iff_lt_or_eq.1 hj with h | h
    ·exact hq j h
    ·rw[h]; exact hb
   ·rw[bq hlt (by omega)]; exact bR
 ·have hge:l.length<=x:=by simpa using hc
  simp -implicitDefEqProofs only[go_sem,hc]; rw[kH λj hj=>hq j (by omega)]
theorem afZ (p:Attr->Bool) (l:List Attr) (hl:l.length<=1000000) (k:FuncId) (fs cs:List PV) (hp:∀x∈l,aS Tryz.prog k (fs++[pA (aV x)]++cs) (λr=>r = .val (.bool (p x)))) :
  aS Tryz.prog 288 [.aU (l.map aV),.gR (.func k) fs cs] (λr=>r = .val (.bool (l.any p))):=by
 refine aR [] func288 ?_; rw[ntmps288,results288]; simp -implicitDefEqProofs only[go_sem]; refine aY (am8 p l hl k fs cs hp) (by simp -implicitDefEqProofs only[go_sem]<;>rfl) (bY rfl) ?_; simp -implicitDefEqProofs only[go_sem]; exact j8
theorem am9 (p:qh->Bool) (l:List qh) (hl:l.length<=1000000) (k:FuncId) (fs cs:List PV) (hp:∀x∈l,aS Tryz.prog k (fs++[pA (aJ x)]++cs) (λr=>r = .val (.bool (p x)))) :
  aS Tryz.prog 287 [.aU (l.map aJ),.gR (.func k) fs cs] (λr=>r = .val (.int .i64 (idxOf p l))):=by
 refine aR [] func287 ?_; rw[ntmps287,results287]; simp -implicitDefEqProofs only[go_sem]; refine bH (σ:=Nat) (λx=>(ct (ct (ct (ct fA 0 (.p (.aU (l.map aJ)))) 1 (.p (.gR (.func k) fs cs))) 7 (.p (.val (.int .i64 l.length)))) 8 (.p (.val (.int .i64 x))))) (λx=>b8)
  (λx=>x<=l.length/\∀j,j<x->p (l.getD j default)=false) (λx=>l.length - x) 0 ⟨Nat.zero_le _,λj hj=>absurd hj (Nat.not_lt_zero j)⟩ bR ?_
 rintro x ⟨hx,hq⟩; simp -implicitDefEqProofs only[go_sem]; refine aL (λhc=>?_) (λhc=>?_)
 ·have hlt:x<l.length:=by simpa using hc
  simp -implicitDefEqProofs only[go_sem,getD_map aJ hlt,hlt,aJ]; refine aY (hp (l.getD x default) (by simp[hlt])) (by simp -implicitDefEqProofs only[go_sem,jw,jv,aJ,pA,Bool.or_false,Bool.false_or]<;>rfl) (bY rfl) ?_; simp -implicitDefEqProofs only[go_sem]; refine aL (λhb=>?_) (λhb=>?_)<;>simp -implicitDefEqProofs only[go_sem]
  ·exact (ow hlt hq hb).symm
  ·refine bJ (x+1) ⟨hlt,λj hj=>?_⟩ (by omega) ?_
   ·rcases Nat.lt_succ_iff_lt_or_eq.1 hj with h | h
    ·exact hq j h
    ·rw[h]; exact hb
   ·rw[bq hlt (by omega)]; exact bR
 ·have hge:l.length<=x:=by simpa using hc
  simp -implicitDefEqProofs only[go_sem,hc]; rw[kH λj hj=>hq j (by omega)]
theorem af0 (p:qh->Bool) (l:List qh) (hl:l.length<=1000000) (k:FuncId) (fs cs:List PV) (hp:∀x∈l,aS Tryz.prog k (fs++[pA (aJ x)]++cs) (λr=>r = .val (.bool (p x)))) :
  aS Tryz.prog 251 [.aU (l.map aJ),.gR (.func k) fs cs] (λr=>r = .val (.bool (l.any p))):=by
 refine aR [] func251 ?_; rw[ntmps251,results251]; simp -implicitDefEqProofs only[go_sem]; refine aY (am9 p l hl k fs cs hp) (by simp -implicitDefEqProofs only[go_sem]<;>rfl) (bY rfl) ?_; simp -implicitDefEqProofs only[go_sem]; exact j8
theorem akg (p:rZ->Bool) (l:List rZ) (hl:l.length<=1000000) (k:FuncId) (fs cs:List PV) (hp:∀x∈l,aS Tryz.prog k (fs++[pA (aK x)]++cs) (λr=>r = .val (.bool (p x)))) :
  aS Tryz.prog 291 [.aU (l.map aK),.gR (.func k) fs cs] (λr=>r = .val (.int .i64 (idxOf p l))):=by
 refine aR [] func291 ?_; rw[ntmps291,results291]; simp -implicitDefEqProofs only[go_sem]; refine bH (σ:=Nat) (λx=>(ct (ct (ct (ct fA 0 (.p (.aU (l.map aK)))) 1 (.p (.gR (.func k) fs cs))) 7 (.p (.val (.int .i64 l.length)))) 8 (.p (.val (.int .i64 x))))) (λx=>b8)
  (λx=>x<=l.length/\∀j,j<x->p (l.getD j default)=false) (λx=>l.length - x) 0 ⟨Nat.zero_le _,λj hj=>absurd hj (Nat.not_lt_zero j)⟩ bR ?_
 rintro x ⟨hx,hq⟩; simp -implicitDefEqProofs only[go_sem]; refine aL (λhc=>?_) (λhc=>?_)
 ·have hlt:x<l.length:=by simpa using hc
  simp -implicitDefEqProofs only[go_sem,getD_map aK hlt,hlt,aK]; refine aY (hp (l.getD x default) (by simp[hlt])) (by simp -implicitDefEqProofs only[go_sem,jw,jv,aK,pA,Bool.or_false,Bool.false_or]<;>rfl) (bY rfl) ?_; simp -implicitDefEqProofs only[go_sem]; refine aL (λhb=>?_) (λhb=>?_)<;>simp -implicitDefEqProofs only[go_sem]
  ·exact (ow hlt hq hb).symm
  ·refine bJ (x+1) ⟨hlt,λj hj=>?_⟩ (by omega) ?_
   ·rcases Nat.lt_succ_iff_lt_or_eq.1 hj with h | h
    ·exact hq j h
    ·rw[h]; exact hb
   ·rw[bq hlt (by omega)]; exact bR
 ·have hge:l.length<=x:=by simpa using hc
  simp -implicitDefEqProofs only[go_sem,hc]; rw[kH λj hj=>hq j (by omega)]
theorem aeN (p:rZ->Bool) (l:List rZ) (hl:l.length<=1000000) (k:FuncId) (fs cs:List PV) (hp:∀x∈l,aS Tryz.prog k (fs++[pA (aK x)]++cs) (λr=>r = .val (.bool (p x)))) :
  aS Tryz.prog 256 [.aU (l.map aK),.gR (.func k) fs cs] (λr=>r = .val (.bool (l.any p))):=by
 refine aR [] func256 ?_; rw[ntmps256,results256]; simp -implicitDefEqProofs only[go_sem]; refine aY (akg p l hl k fs cs hp) (by simp -implicitDefEqProofs only[go_sem]<;>rfl) (bY rfl) ?_; simp -implicitDefEqProofs only[go_sem]; exact j8
theorem ana (p:Edge->Bool) (l:List Edge) (hl:l.length<=1000000) (k:FuncId) (fs cs:List PV) (hp:∀x∈l,aS Tryz.prog k (fs++[pA (bf x)]++cs) (λr=>r = .val (.bool (p x)))) :
  aS Tryz.prog 259 [.aU (l.map bf),.gR (.func k) fs cs] (λr=>r = .val (.int .i64 (idxOf p l))):=by
 refine aR [] func259 ?_; rw[ntmps259,results259]; simp -implicitDefEqProofs only[go_sem]; refine bH (σ:=Nat) (λx=>(ct (ct (ct (ct fA 0 (.p (.aU (l.map bf)))) 1 (.p (.gR (.func k) fs cs))) 7 (.p (.val (.int .i64 l.length)))) 8 (.p (.val (.int .i64 x))))) (λx=>b8)
  (λx=>x<=l.length/\∀j,j<x->p (l.getD j default)=false) (λx=>l.length - x) 0 ⟨Nat.zero_le _,λj hj=>absurd hj (Nat.not_lt_zero j)⟩ bR ?_
 rintro x ⟨hx,hq⟩; simp -implicitDefEqProofs only[go_sem]; refine aL (λhc=>?_) (λhc=>?_)
 ·have hlt:x<l.length:=by simpa using hc
  simp -implicitDefEqProofs only[go_sem,getD_map bf hlt,hlt,bf]; refine aY (hp (l.getD x default) (by simp[hlt])) (by simp -implicitDefEqProofs only[go_sem,jw,jv,bf,pA,Bool.or_false,Bool.false_or]<;>rfl) (bY rfl) ?_; simp -implicitDefEqProofs only[go_sem]; refine aL (λhb=>?_) (λhb=>?_)<;>simp -implicitDefEqProofs only[go_sem]
  ·exact (ow hlt hq hb).symm
  ·refine bJ (x+1) ⟨hlt,λj hj=>?_⟩ (by omega) ?_
   ·rcases Nat.lt_succ_iff_lt_or_eq.1 hj with h | h
    ·exact hq j h
    ·rw[h]; exact hb
   ·rw[bq hlt (by omega)]; exact bR
 ·have hge:l.length<=x:=by simpa using hc
  simp -implicitDefEqProofs only[go_sem,hc]; rw[kH λj hj=>hq j (by omega)]
theorem af1 (p:Edge->Bool) (l:List Edge) (hl:l.length<=1000000) (k:FuncId) (fs cs:List PV) (hp:∀x∈l,aS Tryz.prog k (fs++[pA (bf x)]++cs) (λr=>r = .val (.bool (p x)))) :
  aS Tryz.prog 234 [.aU (l.map bf),.gR (.func k) fs cs] (λr=>r = .val (.bool (l.any p))):=by
 refine aR [] func234 ?_; rw[ntmps234,results234]; simp -implicitDefEqProofs only[go_sem]; refine aY (ana p l hl k fs cs hp) (by simp -implicitDefEqProofs only[go_sem]<;>rfl) (bY rfl) ?_; simp -implicitDefEqProofs only[go_sem]; exact j8
theorem ari (p:Int->Bool) (l:List Int) (hl:l.length<=1000000) (k:FuncId) (fs cs:List PV) (hp:∀x∈l,aS Tryz.prog k (fs++[pV (encI x)]++cs) (λr=>r = .val (.bool (p x)))) :
  aS Tryz.prog 116 [.aU (l.map encI),.gR (.func k) fs cs] (λr=>r = .val (.int .i64 (idxOf p l))):=by
 refine aR [] func116 ?_; rw[ntmps116,results116]; simp -implicitDefEqProofs only[go_sem]; refine bH (σ:=Nat) (λx=>(ct (ct (ct (ct fA 0 (.p (.aU (l.map encI)))) 1 (.p (.gR (.func k) fs cs))) 7 (.p (.val (.int .i64 l.length)))) 8 (.p (.val (.int .i64 x))))) (λx=>b8)
  (λx=>x<=l.length/\∀j,j<x->p (l.getD j default)=false) (λx=>l.length - x) 0 ⟨Nat.zero_le _,λj hj=>absurd hj (Nat.not_lt_zero j)⟩ bR ?_
 rintro x ⟨hx,hq⟩; simp -implicitDefEqProofs only[go_sem]; refine aL (λhc=>?_) (λhc=>?_)
 ·have hlt:x<l.length:=by simpa using hc
  simp -implicitDefEqProofs only[go_sem,getD_map encI hlt,hlt,encI]; refine aY (hp (l.getD x default) (by simp[hlt])) (by simp -implicitDefEqProofs only[go_sem,jw,jv,encI,pV,Bool.or_false,Bool.false_or]<;>rfl) (bY rfl) ?_; simp -implicitDefEqProofs only[go_sem]; refine aL (λhb=>?_) (λhb=>?_)<;>simp -implicitDefEqProofs only[go_sem]
  ·exact (ow hlt hq hb).symm
  ·refine bJ (x+1) ⟨hlt,λj hj=>?_⟩ (by omega) ?_
   ·rcases Nat.lt_succ_iff_lt_or_eq.1 hj with h | h
    ·exact hq j h
    ·rw[h]; exact hb
   ·rw[bq hlt (by omega)]; exact bR
 ·have hge:l.length<=x:=by simpa using hc
  simp -implicitDefEqProofs only[go_sem,hc]; rw[kH λj hj=>hq j (by omega)]
theorem abD (p:Int->Bool) (l:List Int) (hl:l.length<=1000000) (k:FuncId) (fs cs:List PV) (hp:∀x∈l,aS Tryz.prog k (fs++[pV (encI x)]++cs) (λr=>r = .val (.bool (p x)))) :
  aS Tryz.prog 65 [.aU (l.map encI),.gR (.func k) fs cs] (λr=>r = .val (.bool (l.any p))):=by
 refine aR [] func65 ?_; rw[ntmps65,results65]; simp -implicitDefEqProofs only[go_sem]; refine aY (ari p l hl k fs cs hp) (by simp -implicitDefEqProofs only[go_sem]<;>rfl) (bY rfl) ?_; simp -implicitDefEqProofs only[go_sem]; exact j8
end Go.Proofs.YtllicmcihlfajaaGreat
namespace Go.Proofs.YtllicmcihlfajaaGreat
open Go.cE
theorem aAA (l:List Int) (y:Int) (hl:l.length<=1000000) :
  aS Tryz.prog 63 [.aU (l.map encI),.val (.int .i64 y)] (λr=>r = .val (.int .i64 (idxOf (λx=>decide (y=x)) l))):=by
 refine aR [] func63 ?_; rw[ntmps63,results63]; simp -implicitDefEqProofs only[go_sem]; refine bH (σ:=Nat) (λx=>(ct (ct (ct (ct fA 0 (.p (.aU (l.map encI)))) 1 (.p (.val (.int .i64 y)))) 7 (.p (.val (.int .i64 l.length)))) 8 (.p (.val (.int .i64 x))))) (λx=>b8)
  (λx=>x<=l.length/\∀j,j<x->decide (y=l.getD j default)=false) (λx=>l.length - x) 0 ⟨Nat.zero_le _,λj hj=>absurd hj (Nat.not_lt_zero j)⟩ bR ?_
 rintro x ⟨hx,hq⟩; simp -implicitDefEqProofs only[go_sem]; refine aL (λhc=>?_) (λhc=>?_)
 ·have hlt:x<l.length:=by simpa using hc
  simp -implicitDefEqProofs only[go_sem,getD_map encI hlt,hlt,encI]; refine aL (λhb=>?_) (λhb=>?_)<;>simp -implicitDefEqProofs only[go_sem]
  ·exact (ow (p:=λx=>decide (y=x)) hlt hq hb).symm
  ·refine bJ (x+1) ⟨hlt,λj hj=>?_⟩ (by omega) ?_
   ·rcases Nat.lt_succ_iff_lt_or_eq.1 hj with h | h
    ·exact hq j h
    ·rw[h]; exact hb
   ·rw[bq hlt (by omega)]; exact bR
 ·have hge:l.length<=x:=by simpa using hc
  simp -implicitDefEqProofs only[go_sem,hc]; rw[kH λj hj=>hq j (by omega)]
theorem ayK (l:List Int) (y:Int) (hl:l.length<=1000000) :
  aS Tryz.prog 29 [.aU (l.map encI),.val (.int .i64 y)] (λr=>r = .val (.bool (l.any λx=>decide (y=x)))):=by
 refine aR [] func29 ?_; rw[ntmps29,results29]; simp -implicitDefEqProofs only[go_sem]; refine aY (aAA l y hl) (by simp -implicitDefEqProofs only[go_sem]<;>rfl) (bY rfl) ?_; simp -implicitDefEqProofs only[go_sem]; exact j8
theorem aAB (l:List ByteArray) (y:ByteArray) (hl:l.length<=1000000) :
  aS Tryz.prog 311 [.aU (l.map gC),.val (.string y)] (λr=>r = .val (.int .i64 (idxOf (λx=>decide (y=x)) l))):=by
 refine aR [] func311 ?_; rw[ntmps311,results311]; simp -implicitDefEqProofs only[go_sem]; refine bH (σ:=Nat) (λx=>(ct (ct (ct (ct fA 0 (.p (.aU (l.map gC)))) 1 (.p (.val (.string y)))) 7 (.p (.val (.int .i64 l.length)))) 8 (.p (.val (.int .i64 x))))) (λx=>b8)
  (λx=>x<=l.length/\∀j,j<x->decide (y=l.getD j default)=false) (λx=>l.length - x) 0 ⟨Nat.zero_le _,λj hj=>absurd hj (Nat.not_lt_zero j)⟩ bR ?_
 rintro x ⟨hx,hq⟩; simp -implicitDefEqProofs only[go_sem]; refine aL (λhc=>?_) (λhc=>?_)
 ·have hlt:x<l.length:=by simpa using hc
  simp -implicitDefEqProofs only[go_sem,getD_map gC hlt,hlt,gC]; refine aL (λhb=>?_) (λhb=>?_)<;>simp -implicitDefEqProofs only[go_sem]
  ·exact (ow (p:=λx=>decide (y=x)) hlt hq hb).symm
  ·refine bJ (x+1) ⟨hlt,λj hj=>?_⟩ (by omega) ?_
   ·rcases Nat.lt_succ_iff_lt_or_eq.1 hj with h | h
    ·exact hq j h
    ·rw[h]; exact hb
   ·rw[bq hlt (by omega)]; exact bR
 ·have hge:l.length<=x:=by simpa using hc
  simp -implicitDefEqProofs only[go_sem,hc]; rw[kH λj hj=>hq j (by omega)]
theorem aoU (l:List ByteArray) (y:ByteArray) (hl:l.length<=1000000) :
  aS Tryz.prog 301 [.aU (l.map gC),.val (.string y)] (λr=>r = .val (.bool (l.any λx=>decide (y=x)))):=by
 refine aR [] func301 ?_; rw[ntmps301,results301]; simp -implicitDefEqProofs only[go_sem]; refine aY (aAB l y hl) (by simp -implicitDefEqProofs only[go_sem]<;>rfl) (bY rfl) ?_; simp -implicitDefEqProofs only[go_sem]; exact j8
end Go.Proofs.YtllicmcihlfajaaGreat
namespace Go.Proofs.YtllicmcihlfajaaGreat
open Go.cE
theorem aeO (n:Int):aS Tryz.prog 307 [.val (.int .u8 n)] (λr=>r = .val (.bool (uQ n))):=by
 unfold uQ; refine aR [] func307 ?_; rw[ntmps307,results307]; simp -implicitDefEqProofs only[go_sem]
 repeat' first | done | (refine bO (λh=>?_) (λh=>?_)<;>try simp -implicitDefEqProofs only[go_sem,h]) | (refine bK (λh=>?_) (λh=>?_)<;>try simp -implicitDefEqProofs only[go_sem,h]) | (refine aX (λh=>?_) (λh=>?_)<;>try simp -implicitDefEqProofs only[go_sem,h]) | (refine aL (λh=>?_) (λh=>?_)<;>try simp -implicitDefEqProofs only[go_sem,h])
theorem ayL (n:Int):aS Tryz.prog 306 [.val (.int .u8 n)] (λr=>r = .val (.bool (aac n))):=by
 unfold aac; refine aR [] func306 ?_; rw[ntmps306,results306]; simp -implicitDefEqProofs only[go_sem]; refine aY (agI n) (by simp -implicitDefEqProofs only[go_sem]<;>rfl) (bY rfl) ?_; simp -implicitDefEqProofs only[go_sem]; refine bO (λh=>?_) (λh=>?_)<;>simp -implicitDefEqProofs only[go_sem,h]
 refine aY (aeO n) (by simp -implicitDefEqProofs only[go_sem]<;>rfl) (bY rfl) ?_; simp -implicitDefEqProofs only[go_sem]; refine bO (λh=>?_) (λh=>?_)<;>simp -implicitDefEqProofs only[go_sem,h]
def akh (n:Int):Bool:=(decide (32<=n)&&decide (n<=126)) && !decide (n=34)
theorem avl (n:Int):aS Tryz.prog 312 [.val (.int .u8 n)] (λr=>r = .val (.bool (akh n))):=by
 unfold akh; refine aR [] func312 ?_; rw[ntmps312,results312]; simp -implicitDefEqProofs only[go_sem]
 repeat' first | done | (refine bO (λh=>?_) (λh=>?_)<;>try simp -implicitDefEqProofs only[go_sem,h]) | (refine bK (λh=>?_) (λh=>?_)<;>try simp -implicitDefEqProofs only[go_sem,h]) | (refine aX (λh=>?_) (λh=>?_)<;>try simp -implicitDefEqProofs only[go_sem,h]) | (refine aL (λh=>?_) (λh=>?_)<;>try simp -implicitDefEqProofs only[go_sem,h])
def adO (p:Int->Bool) (s:ByteArray) (a:Nat):Nat:=((List.range (s.size - a)).takeWhile λj=>p (nT s (a+j))).length
theorem adP (q:Nat->Bool):∀ (m n:Nat),n<=m->(∀j,j<n->q j=true)->(n=m\/q n=false)->((List.range m).takeWhile q).length=n:=by
 intro m n hn h1 h2; have e:List.range m=List.range n++(List.range (m - n)).map (n + ·):=by rw[<-List.range_add]; congr 1; omega
 rw[e,List.takeWhile_append_of_pos (by intro j hj; exact h1 j (List.mem_range.1 hj))]; rcases h2 with rfl | h2
 ·simp
 ·cases hm:m - n with
  | zero=>simp
  | succ r=>simp[List.range_succ_eq_map,h2]
theorem ad3 {p:Int->Bool} {s:ByteArray} {a n:Nat} (hn:a+n<=s.size) (h1:∀j,j<n->p (nT s (a+j))=true) (h2:a+n=s.size\/p (nT s (a+n))=false):adO p s a=n:=adP _ _ _ (by omega) h1 (by rcases h2 with h | h; exact .inl (by omega); exact .inr h)
theorem aic (p:Int->Bool) (s:ByteArray) (a:Nat):adO p s a<=s.size - a:=by unfold adO; exact Nat.le_trans (List.takeWhile_sublist _).length_le (by simp)
theorem anb (p:Int->Bool) (s:ByteArray) (hl:s.size<=1000000) (k:FuncId) (fs cs:List PV) (hp:∀n,aS Tryz.prog k (fs++[.val (.int .u8 n)]++cs) (λr=>r = .val (.bool (p n)))) :
  aS Tryz.prog 305 [.val (.string s),.gR (.func k) fs cs] (λr=>r = .val (.int .i64 (adO p s 0))):=by
 refine aR [] func305 ?_; rw[ntmps305,results305]; simp -implicitDefEqProofs only[go_sem]; refine bH (σ:=Nat) (λx=>(ct (ct (ct fA 0 (.p (.val (.string s)))) 1 (.p (.gR (.func k) fs cs))) 5 (.p (.val (.int .i64 x))))) (λx=>b8)
  (λx=>x<=s.size/\∀j,j<x->p (nT s (0+j))=true) (λx=>s.size - x) 0 ⟨Nat.zero_le _,λj hj=>absurd hj (Nat.not_lt_zero j)⟩ bR ?_
 rintro x ⟨hx,hq⟩; simp -implicitDefEqProofs only[go_sem]; refine bK (λhc=>?_) (λhc=>?_)
 ·have hlt:x<s.size:=by simpa using hc
  simp -implicitDefEqProofs only[go_sem,hlt,hc]; refine aY (hp (nT s x)) (by simp -implicitDefEqProofs only[go_sem,jw,jv,Bool.or_false,Bool.false_or]<;>rfl) (bY rfl) ?_; simp -implicitDefEqProofs only[go_sem,hc]; refine aL (λhb=>?_) (λhb=>?_)<;>simp -implicitDefEqProofs only[go_sem]
  ·refine bJ (x+1) ⟨hlt,λj hj=>?_⟩ (by omega) ?_
   ·rcases Nat.lt_succ_iff_lt_or_eq.1 hj with h | h
    ·simpa using hq j h
    ·rw[h]; exact hb
   ·rw[bq hlt (by omega)]; exact bR
  ·rw[ad3 (by omega) hq (.inr (by rw[Nat.zero_add]; exact hb))]
 ·have hge:s.size<=x:=by simpa using hc
  simp -implicitDefEqProofs only[go_sem,hc]; rw[ad3 (by omega) hq (.inl (by omega))]
theorem arj (s:ByteArray) (hl:s.size<=1000000) (h0:0<s.size):aS Tryz.prog 308 [.val (.string s)] (λr=>∃n e:Int,r = .dB [.val (.int .i64 n),.val (.int .i64 e)]):=by
 have h1:((s.extract 1 s.size).size:Int)=s.size - 1:=by simp; omega
 have h2:=aic akh (s.extract 1 s.size) 0; generalize hm:adO akh (s.extract 1 s.size) 0=m at h2; have h3:IntKind.i64.wrap (1+(m:Int))=((m+1:Nat):Int):=by rw[IntWalk.i64_in _ (by omega)]; omega
 refine aR [] func308 ?_; rw[ntmps308,results308]; simp -implicitDefEqProofs only[go_sem]; refine⟨⟨by omega,by omega,by omega⟩,?_⟩; refine aY (anb akh (s.extract 1 s.size) (by simp; omega) _ [] [] avl) (by simp -implicitDefEqProofs only[go_sem]<;>rfl) (bY rfl) ?_; simp -implicitDefEqProofs only[go_sem,hm,h3]; refine bO (λh=>?_) (λh=>?_)
 ·simp -implicitDefEqProofs only[go_sem,h]; exact⟨_,_,rfl,rfl⟩
 ·have hne:m+1≠s.size:=by intro e; rw[e] at h; simp at h
  have hlt:m+1<s.size:=by simp at h2; omega
  simp -implicitDefEqProofs only[go_sem,h,h3,hlt]; refine aL (λhb=>?_) (λhb=>?_)<;>simp -implicitDefEqProofs only[go_sem]
  ·exact⟨_,_,rfl,rfl⟩
  ·refine aL (λhb=>?_) (λhb=>?_)<;>simp -implicitDefEqProofs only[go_sem]
   ·exact⟨_,_,rfl,rfl⟩
   ·exact⟨_,_,rfl,rfl⟩
def aCb:List ByteArray:=[⟨#[45,62]⟩,⟨#[60,61]⟩,⟨#[62,61]⟩,⟨#[61,61]⟩,⟨#[33,61]⟩]
theorem ayM (s:ByteArray):aS Tryz.prog 309 [.val (.string s)] (λr=>∃b:Bool,r = .val (.bool b)):=by
 refine aR [] func309 ?_; rw[ntmps309,results309]; simp -implicitDefEqProofs only[go_sem]; refine bK (λh=>?_) (λh=>?_)
 ·have h2:(2:Int)<=s.size:=of_decide_eq_true h; simp -implicitDefEqProofs only[go_sem,h]; refine⟨⟨by decide,by decide,h2⟩,?_⟩; refine aY (aoU aCb (s.extract 0 2) (by decide)) (by simp -implicitDefEqProofs only[go_sem]<;>rfl) (bY rfl) ?_; simp -implicitDefEqProofs only[go_sem,h]; all_goals exact⟨_,rfl⟩
 ·simp -implicitDefEqProofs only[go_sem,h]; all_goals exact⟨_,rfl⟩
theorem ayN (s:ByteArray) (n:Int):aAh Tryz.prog 314 [.val (.string s),.val (.int .u8 n)] (.val (.int .i64 (Lib.indexByte s.data.toList n.toNat.toUInt8))):=by
 intro I w us hu; obtain⟨hl,hv⟩:=hu
 match us,hl,hv with
 | [a,b],_,hv=>have ha:=hv 0 a _ rfl rfl; have hb:=hv 1 b _ rfl rfl; cases ha; cases hb; refine⟨_,?_,.val _ rfl⟩; rw[run_callFunc_extern func314 (by kernel_rfl) (by kernel_rfl) (by kernel_rfl) (e:=Extern.BytealgIndexByte.indexByte) (by kernel_rfl)]; rw[Lib.run_indexByteString]; try rfl
theorem ayO (s:ByteArray) (n:Int):aS Tryz.prog 313 [.val (.string s),.val (.int .u8 n)] (λr=>∃m:Int,r = .val (.int .i64 m)):=by refine aR [] func313 ?_; rw[ntmps313,results313]; simp -implicitDefEqProofs only[go_sem]; refine auV (ayN s n) rfl ?_; simp -implicitDefEqProofs only[go_sem]; all_goals exact⟨_,rfl⟩
theorem ayP (s:ByteArray) (n:Int):aS Tryz.prog 310 [.val (.string s),.val (.int .u8 n)] (λr=>∃m:Int,r = .val (.int .i64 m)):=by refine aR [] func310 ?_; rw[ntmps310,results310]; simp -implicitDefEqProofs only[go_sem]; refine rm (ayO s n) (by simp -implicitDefEqProofs only[go_sem]<;>rfl) ?_; rintro r ⟨m,rfl⟩; refine⟨bY rfl,?_⟩; simp -implicitDefEqProofs only[go_sem]; all_goals exact⟨_,rfl⟩
def pQ (s:ByteArray):Bool:=decide (s.size≠0)&&pP (nT s 0)&&decide (adO aac s 0=s.size)&&decide (s.size<=20)
theorem zb (s:ByteArray):pQ s=true↔s.size≠0/\pP (nT s 0)=true/\adO aac s 0=s.size/\s.size<=20:=by unfold pQ; simp only[Bool.and_eq_true,decide_eq_true_eq,and_assoc]
theorem ayQ (s:ByteArray) (hl:s.size<=1000000) (h0:0<s.size):aS Tryz.prog 299 [.val (.string s)] (λr =>
  ∃k n e:Int,r = .dB [.val (.int .i64 k),.val (.int .i64 n),.val (.int .i64 e)]/\((e=0/\k=1/\n=s.size)↔pQ s=true)):=by
 have h0':(0:Int)<s.size:=by omega
 refine aR [] func299 ?_; rw[ntmps299,results299]; simp -implicitDefEqProofs only[go_sem]; refine⟨⟨by decide,h0'⟩,?_⟩; refine aY (agI (nT s 0)) (by simp -implicitDefEqProofs only[go_sem]<;>rfl) (bY rfl) ?_; simp -implicitDefEqProofs only[go_sem]; refine aL (λhc=>?_) (λhc=>?_)<;>simp -implicitDefEqProofs only[go_sem]
 ·refine aY (anb aac s hl _ [] [] ayL) (by simp -implicitDefEqProofs only[go_sem]<;>rfl) (bY rfl) ?_; simp -implicitDefEqProofs only[go_sem]; refine aL (λhd=>?_) (λhd=>?_)<;>simp -implicitDefEqProofs only[go_sem]
  ·have hd':=of_decide_eq_true hd; refine⟨_,_,_,⟨rfl,rfl,rfl⟩,?_⟩; rw[zb]; constructor
   ·rintro⟨h,_⟩; omega
   ·rintro⟨_,_,h1,h2⟩; omega
  ·have hd':=of_decide_eq_false hd; refine⟨_,_,_,⟨rfl,rfl,rfl⟩,?_⟩; rw[zb]; constructor
   ·rintro⟨_,_,h⟩; exact⟨by omega,hc,by omega,by omega⟩
   ·rintro⟨_,_,h1,h2⟩; exact⟨rfl,rfl,by omega⟩
 ·have hn:pQ s=false:=by simp[pQ,hc]
  refine aY (aeO (nT s 0)) (by simp -implicitDefEqProofs only[go_sem]<;>rfl) (bY rfl) ?_; simp -implicitDefEqProofs only[go_sem]; refine aL (λhd=>?_) (λhd=>?_)<;>simp -implicitDefEqProofs only[go_sem]
  ·refine aY (anb uQ s hl _ [] [] aeO) (by simp -implicitDefEqProofs only[go_sem]<;>rfl) (bY rfl) ?_; simp -implicitDefEqProofs only[go_sem]; refine aL (λhd=>?_) (λhd=>?_)<;>simp -implicitDefEqProofs only[go_sem]
   ·exact⟨_,_,_,⟨rfl,rfl,rfl⟩,by simp[hn]⟩
   ·exact⟨_,_,_,⟨rfl,rfl,rfl⟩,by simp[hn]⟩
  ·refine aL (λhq=>?_) (λhq=>?_)<;>simp -implicitDefEqProofs only[go_sem]
   ·refine rm (arj s hl h0) (by simp -implicitDefEqProofs only[go_sem]<;>rfl) ?_; rintro r ⟨n,e,rfl⟩; refine⟨bY rfl,?_⟩; simp -implicitDefEqProofs only[go_sem]; exact⟨_,_,_,⟨rfl,rfl,rfl⟩,by simp[hn]⟩
   ·refine rm (ayM s) (by simp -implicitDefEqProofs only[go_sem]<;>rfl) ?_; rintro r ⟨b,rfl⟩; refine⟨bY rfl,?_⟩; simp -implicitDefEqProofs only[go_sem]; refine aL (λhp=>?_) (λhp=>?_)<;>simp -implicitDefEqProofs only[go_sem]
    ·exact⟨_,_,_,⟨rfl,rfl,rfl⟩,by simp[hn]⟩
    ·refine rm (ayP _ _) (by simp -implicitDefEqProofs only[go_sem]<;>rfl) ?_; rintro r ⟨b,rfl⟩; refine⟨bY rfl,?_⟩; simp -implicitDefEqProofs only[go_sem]; refine aL (λhp=>?_) (λhp=>?_)<;>simp -implicitDefEqProofs only[go_sem]
     ·exact⟨_,_,_,⟨rfl,rfl,rfl⟩,by simp[hn]⟩
     ·exact⟨_,_,_,⟨rfl,rfl,rfl⟩,by simp[hn]⟩
def okT (b:Bool):PV:=.val (.bool b)
theorem avm (s:ByteArray) (hl:s.size<=1000000):aS Tryz.prog 286 [.agg [.val (.int .i64 1),.val (.string s),.val (.int .i64 0)]] (λr=>∃u:ByteArray,r = .dB [.val (.string u),.val (.bool (pQ s))]):=by
 refine aR [] func286 ?_; rw[ntmps286,results286]; simp -implicitDefEqProofs only[go_sem,Int.reduceEq]; refine aL (λhc=>?_) (λhc=>?_)<;>simp -implicitDefEqProofs only[go_sem]
 ·have he:s=⟨#[]⟩:=of_decide_eq_true hc; have:pQ s=false:=by rw[he]; try rfl
  rw[this]; exact⟨_,rfl,rfl⟩
 ·have he:s≠⟨#[]⟩:=of_decide_eq_false hc; have h0:0<s.size:=by
   rcases Nat.eq_zero_or_pos s.size with h | h
   ·exact absurd (ByteArray.ext (Array.eq_empty_of_size_eq_zero h)) he
   ·exact h
  refine rm (ayQ s hl h0) (by simp -implicitDefEqProofs only[go_sem]<;>rfl) ?_; rintro r ⟨k,n,e,rfl,hiff⟩; refine⟨bY rfl,?_⟩; have hn:pQ s=((decide (e=0)&&decide (k=1))&&decide (n=s.size)):=by rw[Bool.eq_iff_iff,<-hiff]; simp only[Bool.and_eq_true,decide_eq_true_eq,and_assoc]
  rw[hn]; simp -implicitDefEqProofs only[go_sem]; refine bK (λh=>?_) (λh=>?_)<;>simp -implicitDefEqProofs only[go_sem,h,exists_eq',exists_and_right,and_true,true_and]
  refine bK (λh'=>?_) (λh'=>?_)<;>simp -implicitDefEqProofs only[go_sem,h,h',exists_eq',exists_and_right,and_true,true_and]
theorem zc (s:ByteArray) (hl:s.size<=1000000):aS Tryz.prog 250 [.val (.string s)] (λr=>r = .val (.bool (pQ s))):=by refine aR [] func250 ?_; rw[ntmps250,results250]; simp -implicitDefEqProofs only[go_sem]; refine rm (avm s hl) (by simp -implicitDefEqProofs only[go_sem]<;>rfl) ?_; rintro r ⟨u,rfl⟩; refine⟨bY rfl,?_⟩; simp -implicitDefEqProofs only[go_sem]
end Go.Proofs.YtllicmcihlfajaaGreat
namespace Go.Proofs.YtllicmcihlfajaaGreat
open Go.cE
theorem aeP (n:Int):aS Tryz.prog 281 [.val (.int .u8 n)] (λr=>r = .val (.bool (pP n))):=by
 unfold pP; refine aR [] func281 ?_; rw[ntmps281,results281]; simp -implicitDefEqProofs only[go_sem]
 repeat' first | done | (refine bO (λh=>?_) (λh=>?_)<;>try simp -implicitDefEqProofs only[go_sem,h]) | (refine bK (λh=>?_) (λh=>?_)<;>try simp -implicitDefEqProofs only[go_sem,h]) | (refine aX (λh=>?_) (λh=>?_)<;>try simp -implicitDefEqProofs only[go_sem,h]) | (refine aL (λh=>?_) (λh=>?_)<;>try simp -implicitDefEqProofs only[go_sem,h])
theorem sM (n:Int):aS Tryz.prog 282 [.val (.int .u8 n)] (λr=>r = .val (.bool (uQ n))):=by
 unfold uQ; refine aR [] func282 ?_; rw[ntmps282,results282]; simp -implicitDefEqProofs only[go_sem]
 repeat' first | done | (refine bO (λh=>?_) (λh=>?_)<;>try simp -implicitDefEqProofs only[go_sem,h]) | (refine bK (λh=>?_) (λh=>?_)<;>try simp -implicitDefEqProofs only[go_sem,h]) | (refine aX (λh=>?_) (λh=>?_)<;>try simp -implicitDefEqProofs only[go_sem,h]) | (refine aL (λh=>?_) (λh=>?_)<;>try simp -implicitDefEqProofs only[go_sem,h])
def qA (digits:Bool) (n:Int):Bool:=uQ n||(!digits&&(pP n||decide (n=95)))
theorem aid:qA false=aac:=by funext n; unfold qA aac; cases uQ n<;>cases pP n<;>simp
theorem aoV (s:ByteArray) (hl:s.size<=1000000) (b:Bool) :
  aS Tryz.prog 283 [.val (.string s),.val (.int .i64 0),.val (.bool b)] (λr=>r = .val (.int .i64 (adO (qA b) s 0))):=by
 refine aR [] func283 ?_; rw[ntmps283,results283]; simp -implicitDefEqProofs only[go_sem]; refine bH (σ:=Nat) (λx=>(ct (ct (ct (ct fA 0 (.p (.val (.string s)))) 1 (.p (.val (.int .i64 0)))) 2 (.p (.val (.bool b)))) 7 (.p (.val (.int .i64 x))))) (λx=>b8)
  (λx=>x<=s.size/\∀j,j<x->qA b (nT s (0+j))=true) (λx=>s.size - x) 0 ⟨Nat.zero_le _,λj hj=>absurd hj (Nat.not_lt_zero j)⟩ bR ?_
 rintro x ⟨hx,hq⟩; have hw:IntKind.i64.wrap (0+(x:Int))=x:=by rw[IntWalk.i64_in _ (by omega)]; omega
 simp -implicitDefEqProofs only[go_sem,hw]; refine bK (λhc=>?_) (λhc=>?_)
 ·have hlt:x<s.size:=by simpa using hc
  have fin (h:qA b (nT s x)=false):((x:Nat):Int)=(adO (qA b) s 0:Nat):=by rw[ad3 (by omega) hq (.inr (by rw[Nat.zero_add]; exact h))]
  simp -implicitDefEqProofs only[go_sem,hlt,hc,hw]; refine aY (sM (nT s x)) (by simp -implicitDefEqProofs only[go_sem]<;>rfl) (bY rfl) ?_; simp -implicitDefEqProofs only[go_sem,hc,hw]; refine bO (λh1=>?_) (λh1=>?_)<;>simp -implicitDefEqProofs only[go_sem,h1,hc,hw]
  ·refine bJ (x+1) ⟨hlt,λj hj=>?_⟩ (by omega) ?_
   ·rcases Nat.lt_succ_iff_lt_or_eq.1 hj with h | h
    ·simpa using hq j h
    ·rw[h]; simp[qA,h1]
   ·rw[bq hlt (by omega)]; exact bR
  ·refine bO (λh2=>?_) (λh2=>?_)<;>simp -implicitDefEqProofs only[go_sem,h1,h2,hc,hw]
   ·subst h2; exact fin (by simp[qA,h1])
   ·subst h2; refine⟨hlt,?_⟩; refine aY (aeP (nT s x)) (by simp -implicitDefEqProofs only[go_sem]<;>rfl) (bY rfl) ?_; simp -implicitDefEqProofs only[go_sem,hc,hw]; refine bO (λh3=>?_) (λh3=>?_)<;>simp -implicitDefEqProofs only[go_sem,h1,h3,hc,hw,hlt]
    ·refine bJ (x+1) ⟨hlt,λj hj=>?_⟩ (by omega) ?_
     ·rcases Nat.lt_succ_iff_lt_or_eq.1 hj with h | h
      ·simpa using hq j h
      ·rw[h]; simp[qA,h3]
     ·rw[bq hlt (by omega)]; exact bR
    ·refine aL (λh4=>?_) (λh4=>?_)<;>simp -implicitDefEqProofs only[go_sem]
     ·refine bJ (x+1) ⟨hlt,λj hj=>?_⟩ (by omega) ?_
      ·rcases Nat.lt_succ_iff_lt_or_eq.1 hj with h | h
       ·simpa using hq j h
       ·rw[h]; simp[qA,h4]
      ·rw[bq hlt (by omega)]; exact bR
     ·exact fin (by simp[qA,h1,h3,h4])
 ·have hge:s.size<=x:=by simpa using hc
  simp -implicitDefEqProofs only[go_sem,hc]; rw[ad3 (by omega) hq (.inl (by omega))]
theorem ane (s:ByteArray) (hl:s.size<=1000000):aS Tryz.prog 284 [.val (.string s),.val (.int .i64 0)] (λr=>∃n:Nat,r = .val (.int .i64 n)/\(n=0\/(2<=n/\n<=s.size))):=by
 refine aR [] func284 ?_; rw[ntmps284,results284]; simp -implicitDefEqProofs only[go_sem]; refine bH (σ:=Nat) (λx=>(ct (ct (ct fA 0 (.p (.val (.string s)))) 1 (.p (.val (.int .i64 0)))) 5 (.p (.val (.int .i64 x))))) (λx=>b8)
  (λx=>1<=x/\x<=s.size+1) (λx=>s.size+1 - x) 1 ⟨Nat.le_refl _,by omega⟩ bR ?_
 rintro x ⟨hx1,hx⟩; have hw:IntKind.i64.wrap (0+(x:Int))=x:=by rw[IntWalk.i64_in _ (by omega)]; omega
 simp -implicitDefEqProofs only[go_sem,hw]; refine aL (λhc=>?_) (λhc=>?_)
 ·have hlt:x<s.size:=by simpa using hc
  simp -implicitDefEqProofs only[go_sem,hlt,hw]; refine aL (λh1=>?_) (λh1=>?_)<;>simp -implicitDefEqProofs only[go_sem]
  ·rw[bq hlt (by omega)]; exact⟨x+1,rfl,.inr ⟨by omega,by omega⟩⟩
  ·refine bO (λh2=>?_) (λh2=>?_)<;>simp -implicitDefEqProofs only[go_sem,h2]
   ·exact⟨0,rfl,.inl rfl⟩
   ·refine aL (λh3=>?_) (λh3=>?_)<;>simp -implicitDefEqProofs only[go_sem]
    ·exact⟨0,rfl,.inl rfl⟩
    ·refine bJ (x+1) ⟨by omega,by omega⟩ (by omega) ?_; rw[bq hlt (by omega)]; exact bR
 ·simp -implicitDefEqProofs only[go_sem]; exact⟨0,rfl,.inl rfl⟩
def abE:List ByteArray:=[⟨#[45,62]⟩,⟨#[60,61]⟩,⟨#[62,61]⟩,⟨#[61,61]⟩,⟨#[33,61]⟩,⟨#[123]⟩,⟨#[125]⟩,⟨#[40]⟩,⟨#[41]⟩,⟨#[91]⟩,⟨#[93]⟩,⟨#[44]⟩,⟨#[59]⟩,⟨#[58]⟩,⟨#[61]⟩,⟨#[43]⟩,⟨#[45]⟩,⟨#[42]⟩,⟨#[60]⟩,⟨#[62]⟩,⟨#[33]⟩,⟨#[38]⟩,⟨#[124]⟩,⟨#[46]⟩,⟨#[63]⟩]
theorem avn:aS Tryz.prog 285 [] (λr=>r = .aU (abE.map gC)):=by refine aR [] func285 ?_; rw[ntmps285,results285]; simp -implicitDefEqProofs only[go_sem]; rfl
end Go.Proofs.YtllicmcihlfajaaGreat
namespace Go.Proofs.YtllicmcihlfajaaGreat
open Go.cE
theorem aie {n:Int} (h:pP n=true):uQ n=false:=by unfold pP uQ at *; simp at *; omega
theorem aAC (s:ByteArray) (hl:s.size<=1000000) (h0:0<s.size):aS Tryz.prog 249 [.val (.string s),.val (.int .i64 0)] (λr =>
  ∃ (k n e:Int) (u:ByteArray),r = .dB [.agg [.val (.int .i64 k),.val (.string u),.val (.int .i64 0)],.val (.int .i64 n),.val (.int .i64 e)]/\((e=0/\k=1/\n=s.size)↔pQ s=true)):=by
 have h0':(0:Int)<s.size:=by omega
 refine aR [] func249 ?_; rw[ntmps249,results249]; simp -implicitDefEqProofs only[go_sem]; refine⟨⟨by decide,h0'⟩,?_⟩; refine aY (aeP (nT s 0)) (by simp -implicitDefEqProofs only[go_sem]<;>rfl) (bY rfl) ?_; simp -implicitDefEqProofs only[go_sem]; refine bO (λh1=>?_) (λh1=>?_)<;>simp -implicitDefEqProofs only[go_sem,h1]
 ·have hd:=aie h1; refine aY (sM (nT s 0)) (by simp -implicitDefEqProofs only[go_sem]<;>rfl) (bY rfl) ?_; simp -implicitDefEqProofs only[go_sem,hd]; refine aY (aoV s hl false) (by simp -implicitDefEqProofs only[go_sem]<;>rfl) (bY rfl) ?_; simp -implicitDefEqProofs only[go_sem,aid]; refine aY (sM (nT s 0)) (by simp -implicitDefEqProofs only[go_sem]<;>rfl) (bY rfl) ?_; simp -implicitDefEqProofs only[go_sem,hd]; refine aL (λh2=>?_) (λh2=>?_)<;>simp -implicitDefEqProofs only[go_sem]
  ·have hd':=of_decide_eq_true h2; refine⟨_,_,_,_,⟨⟨rfl,rfl⟩,rfl,rfl⟩,?_⟩; rw[zb]; constructor
   ·rintro⟨h,_⟩; omega
   ·rintro⟨_,_,h3,h4⟩; omega
  ·have hd':=of_decide_eq_false h2; have hr:=aic aac s 0; have hw:IntKind.i64.wrap (0+(adO aac s 0:Int))=adO aac s 0:=by rw[IntWalk.i64_in _ (by omega)]; omega
   rw[hw]; refine⟨⟨by omega,by omega,by omega⟩,_,_,_,_,⟨⟨rfl,rfl⟩,rfl,rfl⟩,?_⟩; rw[zb]; constructor
   ·rintro⟨_,_,h⟩; exact⟨by omega,h1,by omega,by omega⟩
   ·rintro⟨_,_,h3,h4⟩; exact⟨rfl,rfl,by omega⟩
 ·have hn:pQ s=false:=by simp[pQ,h1]
  rw[hn]; refine aY (sM (nT s 0)) (by simp -implicitDefEqProofs only[go_sem]<;>rfl) (bY rfl) ?_; simp -implicitDefEqProofs only[go_sem]; refine aL (λh2=>?_) (λh2=>?_)<;>simp -implicitDefEqProofs only[go_sem]
  ·refine aY (sM (nT s 0)) (by simp -implicitDefEqProofs only[go_sem]<;>rfl) (bY rfl) ?_; simp -implicitDefEqProofs only[go_sem,h2]; refine aY (aoV s hl true) (by simp -implicitDefEqProofs only[go_sem]<;>rfl) (bY rfl) ?_; simp -implicitDefEqProofs only[go_sem]; refine aY (sM (nT s 0)) (by simp -implicitDefEqProofs only[go_sem]<;>rfl) (bY rfl) ?_; simp -implicitDefEqProofs only[go_sem,h2]; have hr:=aic (qA true) s 0; generalize adO (qA true) s 0=m at hr; have hw:IntKind.i64.wrap (0+(m:Int))=m:=by rw[IntWalk.i64_in _ (by omega)]; omega
   refine aL (λh2=>?_) (λh2=>?_)<;>simp -implicitDefEqProofs only[go_sem,hw]
   ·exact⟨_,_,_,_,⟨⟨rfl,rfl⟩,rfl,rfl⟩,by simp⟩
   ·exact⟨by omega,_,_,_,_,⟨⟨rfl,rfl⟩,rfl,rfl⟩,by simp⟩
  ·refine aL (λh3=>?_) (λh3=>?_)<;>simp -implicitDefEqProofs only[go_sem]
   ·refine rm (ane s hl) (by simp -implicitDefEqProofs only[go_sem]<;>rfl) ?_; rintro r ⟨n,rfl,hr⟩; refine⟨bY rfl,?_⟩; simp -implicitDefEqProofs only[go_sem]; refine aL (λh4=>?_) (λh4=>?_)<;>simp -implicitDefEqProofs only[go_sem]
    ·exact⟨_,_,_,_,⟨⟨rfl,rfl⟩,rfl,rfl⟩,by simp⟩
    ·have h5:2<=n/\n<=s.size:=by have:=of_decide_eq_false h4; omega
     refine aL (λh6=>?_) (λh6=>?_)<;>simp -implicitDefEqProofs only[go_sem]
     ·exact⟨_,_,_,_,⟨⟨rfl,rfl⟩,rfl,rfl⟩,by simp⟩
     ·have w1:IntKind.i64.wrap (0+1)=1:=by rfl
      have w2:IntKind.i64.wrap (0+(n:Int))=n:=by rw[IntWalk.i64_in _ (by omega)]; omega
      have w3:IntKind.i64.wrap ((n:Int) - 1)=n - 1:=by rw[IntWalk.i64_in _ (by omega)]
      simp only[w1,w2,w3]; exact⟨by omega,_,_,_,_,⟨⟨rfl,rfl⟩,rfl,rfl⟩,by simp⟩
   ·refine aY (avn) (by simp -implicitDefEqProofs only[go_sem]<;>rfl) (yo) ?_; simp -implicitDefEqProofs only[go_sem]; refine bH (σ:=Nat) (λx=>(ct (ct (ct (ct (ct fA 0 (.p (.val (.string s)))) 1 (.p (.val (.int .i64 0)))) 4 (.ptr 4 0)) 12 (.p (.aU (abE.map gC)))) 13 (.p (.val (.int .i64 x)))))
     (λx=>(bl b8 4 (.box [.p (.val (.int .i64 0)),.p (.val (.string ⟨#[]⟩)),.p (.val (.int .i64 0))]))) (λx=>x<=abE.length) (λx=>abE.length - x) 0 (Nat.zero_le _) bR ?_
    rintro x hx; simp -implicitDefEqProofs only[go_sem]; refine aL (λhc=>?_) (λhc=>?_)
    ·have hlt:x<abE.length:=by simpa using hc
     simp -implicitDefEqProofs only[go_sem]; refine cV [.q,.q,.q,.q,.q,.q,.q,.q,.q,.q,.q,.q,.q,.q,.q,.q,.q,.q,.q,.q,.q,.q,.q,.q,.q,.q,.q] (by kernel_rfl) ?_; simp -implicitDefEqProofs only[go_sem,getD_map gC hlt,gC,hlt,List.length_map]; have hu:(abE.getD x default).size<=2:=by
      have:∀u∈abE,u.size<=2:=by decide
      exact this _ (by simp[hlt])
     have hw:IntKind.i64.wrap (0+((abE.getD x default).size:Int))=(abE.getD x default).size:=by rw[IntWalk.i64_in _ (by omega)]; omega
     refine nJ (λh4=>?_) (λh4=>?_)
     ·rw[hw] at h4; have h5:=of_decide_eq_true h4; simp -implicitDefEqProofs only[go_sem,hw,h4,h5,getD_map gC hlt,gC,hlt,List.length_map]; refine⟨by omega,?_⟩; refine aL (λh6=>?_) (λh6=>?_)<;>simp -implicitDefEqProofs only[go_sem]
      ·refine cV [.p,.p,.p,.p,.p,.p,.p,.p,.p,.p,.w,.q,.q] (by kernel_rfl) ?_; simp -implicitDefEqProofs only[go_sem,getD_map gC hlt,gC,hlt,List.length_map]; exact⟨_,_,_,_,⟨⟨rfl,rfl⟩,rfl,rfl⟩,by simp⟩
      ·rw[bq hlt (by decide)]; exact bJ (x+1) hlt (by omega) bR
     ·rw[hw] at h4; simp -implicitDefEqProofs only[go_sem,h4,hw]; rw[bq hlt (by decide)]; exact bJ (x+1) hlt (by omega) bR
    ·simp -implicitDefEqProofs only[go_sem]; exact⟨_,_,_,_,⟨⟨rfl,rfl⟩,rfl,rfl⟩,by simp⟩
theorem ayR (s:ByteArray):aS Tryz.prog 248 [.agg [.val (.int .i64 1),.val (.string s),.val (.int .i64 0)]] (λr=>r = .val (.string s)):=by refine aR [] func248 ?_; rw[ntmps248,results248]; simp -implicitDefEqProofs only[go_sem,Int.reduceEq]
theorem avo (s:ByteArray) (hl:s.size<=1000000):aS Tryz.prog 228 [.agg [.val (.int .i64 1),.val (.string s),.val (.int .i64 0)]] (λr=>r = .val (.bool (pQ s))):=by
 refine aR [] func228 ?_; rw[ntmps228,results228]; simp -implicitDefEqProofs only[go_sem]; refine aY (ayR s) (by simp -implicitDefEqProofs only[go_sem]<;>rfl) (bY rfl) ?_; simp -implicitDefEqProofs only[go_sem,Int.reduceEq]; refine aL (λhc=>?_) (λhc=>?_)<;>simp -implicitDefEqProofs only[go_sem]
 ·have he:s=⟨#[]⟩:=of_decide_eq_true hc; rw[he]; try rfl
 ·have he:s≠⟨#[]⟩:=of_decide_eq_false hc; have h0:0<s.size:=by
   rcases Nat.eq_zero_or_pos s.size with h | h
   ·exact absurd (ByteArray.ext (Array.eq_empty_of_size_eq_zero h)) he
   ·exact h
  refine rm (aAC s hl h0) (by simp -implicitDefEqProofs only[go_sem]<;>rfl) ?_; rintro r ⟨k,n,e,u,rfl,hiff⟩; refine⟨bY rfl,?_⟩; have hn:pQ s=((decide (e=0)&&decide (n=s.size))&&decide (k=1)):=by
   rw[Bool.eq_iff_iff,<-hiff]; simp only[Bool.and_eq_true,decide_eq_true_eq,and_assoc]; constructor
   ·rintro⟨h1,h2,h3⟩; exact⟨h1,h3,h2⟩
   ·rintro⟨h1,h2,h3⟩; exact⟨h1,h3,h2⟩
  rw[hn]; simp -implicitDefEqProofs only[go_sem]; refine bK (λh=>?_) (λh=>?_)<;>simp -implicitDefEqProofs only[go_sem,h]
  refine bK (λh'=>?_) (λh'=>?_)<;>simp -implicitDefEqProofs only[go_sem,h,h']
theorem vZ (s:ByteArray) (hl:s.size<=1000000):aS Tryz.prog 193 [.val (.string s)] (λr=>r = .val (.bool (pQ s))):=by refine aR [] func193 ?_; rw[ntmps193,results193]; simp -implicitDefEqProofs only[go_sem]; refine aY (avo s hl) (by simp -implicitDefEqProofs only[go_sem]<;>rfl) (bY rfl) ?_; simp -implicitDefEqProofs only[go_sem]
end Go.Proofs.YtllicmcihlfajaaGreat
namespace Go.Proofs.YtllicmcihlfajaaGreat
open Go.cE
structure ga (t:Types):Prop where
 nodes:t.nodes.length<=20
 au:t.au.length<=30
 attrs:∀n∈t.nodes,n.attrs.length<=30
 name:∀n∈t.nodes,n.name.size<=40
 aCc:∀n∈t.nodes,∀a∈n.attrs,a.name.size<=40
 names:∀n∈t.nodes,∀a∈n.attrs,a.names.length<=25
 word:∀n∈t.nodes,∀a∈n.attrs,∀s∈a.names,s.size<=40
 azS:∀e∈t.au,e.name.size<=40
def qj (t:Types) (n:Nat):Prop:=∀j,j<n->-1<=(t.nodes.getD j default).parent/\(t.nodes.getD j default).parent<j
def rO (t:Types):Nat->Nat->List Attr
 | 0,_=>[]
 | k+1,a=>(if 0<=(t.nodes.getD a default).parent then rO t k (t.nodes.getD a default).parent.toNat else [])++(t.nodes.getD a default).attrs
def bp (t:Types) (a:Nat):List Attr:=rO t (a+1) a
theorem adp {t:Types} : ∀ (k k' a:Nat),qj t (a+1)->a<k->a<k'->rO t k a=rO t k' a
 | 0,_,_,_,h,_=>by omega
 | _+1,0,_,_,_,h=>by omega
 | k+1,k'+1,a,hp,h,h'=>by
  unfold rO; split
  ·rename_i h0; have hq:=hp a (by omega); rw[adp k k' (t.nodes.getD a default).parent.toNat (λj hj=>hp j (by omega)) (by omega) (by omega)]
  ·rfl
theorem tf {t:Types} {a:Nat} (hp:qj t (a+1)):bp t a=(if 0<=(t.nodes.getD a default).parent then bp t (t.nodes.getD a default).parent.toNat else [])++(t.nodes.getD a default).attrs:=by
 conv=>lhs; unfold bp rO
 split
 ·rename_i h0; have hq:=hp a (by omega); unfold bp; rw[adp a ((t.nodes.getD a default).parent.toNat+1) _ (λj hj=>hp j (by omega)) (by omega) (by omega)]
 ·rfl
theorem gM {α:Type} [Inhabited α] {l:List α} {a:Nat} (ha:a<l.length):l.getD a default∈l:=by
 have:l.getD a default=l[a]:=by simp[ha]
 rw[this]; exact List.getElem_mem _
theorem aeQ {t:Types} (hf:ga t):∀ (k a:Nat),a<t.nodes.length->qj t (a+1)->(rO t k a).length<=k * 30
 | 0,_,_,_=>by simp[rO]
 | k+1,a,ha,hp=>by
  unfold rO; have h1:(t.nodes.getD a default).attrs.length<=30:=hf.attrs _ (gM ha); have hq:=hp a (by omega); rw[List.length_append]; generalize hlx:(t.nodes.getD a default).attrs.length=lx at h1 ⊢; split
  ·have:=aeQ hf k (t.nodes.getD a default).parent.toNat (by omega) (λj hj=>hp j (by omega)); omega
  ·simp; omega
theorem lX {t:Types} (hf:ga t) {a:Nat} (ha:a<t.nodes.length) (hp:qj t (a+1)):(bp t a).length<=600:=by have:=aeQ hf (a+1) a ha hp; have:=hf.nodes; unfold bp; omega
theorem aeR {t:Types} (hf:ga t):∀ (k a:Nat),a<t.nodes.length->qj t (a+1)->∀x∈rO t k a,∃n∈t.nodes,x∈n.attrs
 | 0,_,_,_,x,hx=>by simp[rO] at hx
 | k+1,a,ha,hp,x,hx=>by
  unfold rO at hx; have hq:=hp a (by omega); rcases List.mem_append.1 hx with h | h
  ·split at h
   ·exact aeR hf k (t.nodes.getD a default).parent.toNat (by omega) (λj hj=>hp j (by omega)) x h
   ·cases h
  ·exact⟨_,gM ha,h⟩
theorem yt (l:List Attr):∀x∈l.map aV,x.length=4:=by intro x hx; obtain⟨a,_,rfl⟩:=List.mem_map.1 hx; rfl
theorem aki (t:Types) (hf:ga t):∀ (a:Nat),a<t.nodes.length->qj t (a+1)->bu Tryz.prog 253 [aF t,.val (.int .i64 a)] (λr=>r = .row 126 4 ((bp t a).map aV)):=by
 intro a
 induction a using Nat.strongRecOn with
 | _ a ih =>
  intro ha hp; have hq:=hp a (by omega); have h1:=hf.attrs _ (gM ha); have hlen:=lX hf ha hp; refine bF [25] func253 ?_; rw[ntmps253,results253]; simp -implicitDefEqProofs only[go_sem,aF,getD_map aJ ha,ha,aJ]; refine aL (λh0=>?_) (λh0=>?_)<;>simp -implicitDefEqProofs only[go_sem,getD_map aJ ha,ha,aJ]
  ·have h0':=of_decide_eq_true h0; obtain⟨q,hqq⟩:∃q:Nat,(t.nodes.getD a default).parent=q:=⟨_,(Int.toNat_of_nonneg h0').symm⟩; have hqa:q<a:=by have:=hq.2; rw[hqq] at this; omega
   rw[hqq]; refine vr 17 (ih q hqa (by omega) (λj hj=>hp j (by omega))) (by simp -implicitDefEqProofs only[go_sem,getD_map aJ ha,ha,aJ]<;>rfl) (yp) (by simp -implicitDefEqProofs only[go_sem,getD_map aJ ha,ha,aJ]) ?_; simp -implicitDefEqProofs only[go_sem,getD_map aJ ha,ha,aJ]; have e:bp t a=bp t q++(t.nodes.getD a default).attrs:=by rw[tf hp,if_pos h0',hqq]; try rfl
   rw[e,List.length_append] at hlen; exact⟨⟨by omega,yt _⟩,by decide,_,.refl _,by rw[e,List.map_append]⟩
  ·have h0':=of_decide_eq_false h0; have e:bp t a=(t.nodes.getD a default).attrs:=by rw[tf hp,if_neg h0']; try rfl
   exact⟨⟨by omega,yt _⟩,by decide,_,.refl _,by rw[e]⟩
end Go.Proofs.YtllicmcihlfajaaGreat
namespace Go.Proofs.YtllicmcihlfajaaGreat
open Go.cE
def jT (f:Nat->Int) (s n:Nat):Option Nat:=(List.range' s (n - s)).find? λi=>decide (f i≠0)
def oP (f:Nat->Int) (s n:Nat):Int:=match jT f s n with
 | some k=>f k
 | none=>0
theorem lC {f:Nat->Int} {s n k:Nat} (hs:s<=k) (hk:k<n) (h0:∀j,s<=j->j<k->f j=0) (h1:f k≠0):jT f s n=some k:=by unfold jT; rw[List.find?_range'_eq_some]; refine⟨by simpa using h1,by simp[List.mem_range'_1]; omega,λj hj1 hj2=>by simpa using h0 j hj1 hj2⟩
theorem gZ {f:Nat->Int} {s n:Nat} (h0:∀j,s<=j->j<n->f j=0):jT f s n=none:=by unfold jT; rw[List.find?_eq_none]; intro j hj; rw[List.mem_range'_1] at hj; have:=h0 j hj.1 (by omega); simpa using this
theorem vu {f:Nat->Int} {s n k:Nat} (hs:s<=k) (hk:k<n) (h0:∀j,s<=j->j<k->f j=0) (h1:f k≠0):oP f s n=f k:=by unfold oP; rw[lC hs hk h0 h1]
theorem yu {f:Nat->Int} {s n:Nat} (h0:∀j,s<=j->j<n->f j=0):oP f s n=0:=by unfold oP; rw[gZ h0]
theorem qB {f:Nat->Int} {n k:Nat} (hk:k<n) (h0:∀j,j<k->f j=0) (h1:f k≠0):oP f 0 n=f k:=vu (Nat.zero_le _) hk (λj _=>h0 j) h1
theorem sx {f:Nat->Int} {n:Nat} (h0:∀j,j<n->f j=0):oP f 0 n=0:=yu λj _=>h0 j
theorem all_succ {f:Nat->Int} {x:Nat} (h:∀j,j<x->f j=0) (hx:f x=0):∀j,j<x+1->f j=0:=λj hj=>by
 rcases Nat.lt_succ_iff_lt_or_eq.1 hj with h' | h'
 ·exact h j h'
 ·rw[h']; exact hx
def tg (l:List ByteArray) (i:Nat):Int:=if pQ (l.getD i default)=false then 2 else if (l.take i).any (λx=>decide (l.getD i default=x))=true then 5 else 0
def aaH (l:List ByteArray):Int:=if 20<l.length then 3 else oP (tg l) 0 l.length
theorem avp (l:List ByteArray) (hl:l.length<=25) (hw:∀s∈l,s.size<=40):aS Tryz.prog 290 [.aU (l.map gC)] (λr=>r = .val (.int .i64 (aaH l))):=by
 unfold aaH; refine aR [] func290 ?_; rw[ntmps290,results290]; simp -implicitDefEqProofs only[go_sem]; refine aL (λh0=>?_) (λh0=>?_)<;>simp -implicitDefEqProofs only[go_sem]
 ·have h0':20<l.length:=by have:=of_decide_eq_true h0; omega
  rw[if_pos h0']
 ·have h0':¬ 20<l.length:=by have:=of_decide_eq_false h0; omega
  rw[if_neg h0']; refine bH (σ:=Nat) (λx=>(ct (ct (ct (ct fA 0 (.p (.aU (l.map gC)))) 8 (.p (.aU (l.map gC)))) 9 (.p (.val (.int .i64 l.length)))) 10 (.p (.val (.int .i64 x))))) (λx=>b8)
   (λx=>x<=l.length/\∀j,j<x->tg l j=0) (λx=>l.length - x) 0 ⟨Nat.zero_le _,λj hj=>absurd hj (Nat.not_lt_zero j)⟩ bR ?_
  rintro x ⟨hx,hq⟩; simp -implicitDefEqProofs only[go_sem]; refine aL (λhc=>?_) (λhc=>?_)
  ·have hlt:x<l.length:=by simpa using hc
   simp -implicitDefEqProofs only[go_sem,getD_map gC hlt,hlt,gC]; refine aY (zc (l.getD x default) (Nat.le_trans (hw _ (gM hlt)) (by decide))) (by simp -implicitDefEqProofs only[go_sem,getD_map gC hlt,hlt,gC]<;>rfl) (bY rfl) ?_; simp -implicitDefEqProofs only[go_sem,getD_map gC hlt,hlt,gC]; refine aX (λh1=>?_) (λh1=>?_)<;>simp -implicitDefEqProofs only[go_sem,getD_map gC hlt,hlt,gC]
   ·refine⟨⟨⟨by omega,by omega⟩,λx hx=>by obtain⟨a,_,rfl⟩:=List.mem_map.1 hx; rfl⟩,?_⟩; refine aY (aoU (l.take x) (l.getD x default) (by simp; omega)) (by simp -implicitDefEqProofs only[go_sem,getD_map gC hlt,hlt,gC]<;>rfl) (bY rfl) ?_; simp -implicitDefEqProofs only[go_sem,getD_map gC hlt,hlt,gC]; refine aL (λh2=>?_) (λh2=>?_)<;>simp -implicitDefEqProofs only[go_sem,getD_map gC hlt,hlt,gC]
    ·have:tg l x=5:=by unfold tg; rw[if_neg (by rw[h1]; decide),if_pos h2]
     rw[qB hlt hq (by rw[this]; decide),this]
    ·have:tg l x=0:=by unfold tg; rw[if_neg (by rw[h1]; decide),if_neg (by rw[h2]; decide)]
     exact bJ (x+1) ⟨hlt,all_succ hq this⟩ (by omega) (by rw[bq hlt (by omega)]; exact bR)
   ·have:tg l x=2:=by unfold tg; rw[if_pos h1]
    rw[qB hlt hq (by rw[this]; decide),this]
  ·have hge:l.length<=x:=by simpa using hc
   simp -implicitDefEqProofs only[go_sem]; rw[sx λj hj=>hq j (by omega)]
end Go.Proofs.YtllicmcihlfajaaGreat
namespace Go.Proofs.YtllicmcihlfajaaGreat
open Go.cE
theorem af2 (x y:Attr):aS Tryz.prog 289 [.agg (aV y),.dJ (aV x) 0] (λr=>r = .val (.bool (decide (y.name=x.name)))):=by refine aR [] func289 ?_; rw[ntmps289,results289]; simp -implicitDefEqProofs only[go_sem,aV,cG]
theorem avq (x y:qh):aS Tryz.prog 252 [.agg (aJ y),.dJ (aJ x) 0] (λr=>r = .val (.bool (decide (y.name=x.name)))):=by refine aR [] func252 ?_; rw[ntmps252,results252]; simp -implicitDefEqProofs only[go_sem,aJ,cG]
theorem avr (x y:rZ):aS Tryz.prog 257 [.agg (aK y),.dJ (aK x) 0] (λr=>r = .val (.bool (decide (y.name=x.name)))):=by refine aR [] func257 ?_; rw[ntmps257,results257]; simp -implicitDefEqProofs only[go_sem,aK,cG]
structure aAD (x:Attr):Prop where
 name:x.name.size<=40
 names:x.names.length<=25
 word:∀s∈x.names,s.size<=40
def acK (x:Attr):Bool:=if 0<x.names.length then decide (x.low=0)&&decide (x.high=(x.names.length:Int) - 1) else (decide (-1000000<=x.low)&&decide (x.low<=x.high))&&decide (x.high<=1000000)
theorem v7 (x:Attr):acK x=true↔(0<x.names.length/\x.low=0/\x.high=(x.names.length:Int) - 1)\/(x.names.length=0/\-1000000<=x.low/\x.low<=x.high/\x.high<=1000000):=by
 unfold acK; split
 ·simp only[Bool.and_eq_true,decide_eq_true_eq]; omega
 ·simp only[Bool.and_eq_true,decide_eq_true_eq]; omega
def xg (x:Attr):Int:=if aaH x.names≠0 then aaH x.names else if acK x=true then 0 else 6
def th (before:List Attr) (x:Attr):Int:=if pQ x.name=false then 2 else if before.any (λy=>decide (y.name=x.name))=true then 5 else xg x
theorem aif (x:Attr) (before:List Attr) (hx:aAD x) (hb:before.length<=10000):aS Tryz.prog 254 [.agg (aV x),.aU (before.map aV)] (λr=>r = .val (.int .i64 (th before x))):=by
 have hn:=hx.names; refine aR [] func254 ?_; rw[ntmps254,results254]; simp -implicitDefEqProofs only[go_sem,aV,cG]; refine aY (zc x.name (Nat.le_trans hx.name (by decide))) (by simp -implicitDefEqProofs only[go_sem,aV,cG]<;>rfl) (bY rfl) ?_; simp -implicitDefEqProofs only[go_sem,aV,cG]; refine aX (λh1=>?_) (λh1=>?_)<;>simp -implicitDefEqProofs only[go_sem,aV,cG]
 ·refine aY (afZ (λy=>decide (y.name=x.name)) before (by omega) _ [] [.dJ (aV x) 0] (λy _=>af2 x y)) (by simp -implicitDefEqProofs only[go_sem,aV,cG]<;>rfl) (bY rfl) ?_; simp -implicitDefEqProofs only[go_sem,aV,cG]; refine aL (λh2=>?_) (λh2=>?_)<;>simp -implicitDefEqProofs only[go_sem,aV,cG]
  ·unfold th; rw[if_neg (by rw[h1]; decide),if_pos h2]
  ·have e:th before x=xg x:=by unfold th; rw[if_neg (by rw[h1]; decide),if_neg (by rw[h2]; decide)]
   rw[e]; refine aY (avp x.names hx.names hx.word) (by simp -implicitDefEqProofs only[go_sem,aV,cG]<;>rfl) (bY rfl) ?_; simp -implicitDefEqProofs only[go_sem,aV,cG]; refine aX (λh3=>?_) (λh3=>?_)<;>simp -implicitDefEqProofs only[go_sem,aV,cG]
   ·have h3':=of_decide_eq_true h3; have e2:xg x=if acK x=true then 0 else 6:=by unfold xg; rw[if_neg (by rw[h3']; decide)]
    rw[e2]; have hw:IntKind.i64.wrap ((x.names.length:Int) - 1)=(x.names.length:Int) - 1:=IntWalk.i64_in _ (by omega)
    repeat' first | done | (refine bO (λh=>?_) (λh=>?_)<;>try simp -implicitDefEqProofs only[go_sem,h,hw,aV,cG]) | (refine bK (λh=>?_) (λh=>?_)<;>try simp -implicitDefEqProofs only[go_sem,h,hw,aV,cG]) | (refine aX (λh=>?_) (λh=>?_)<;>try simp -implicitDefEqProofs only[go_sem,h,hw,aV,cG]) | (refine aL (λh=>?_) (λh=>?_)<;>try simp -implicitDefEqProofs only[go_sem,h,hw,aV,cG])
    all_goals
     simp only[Bool.not_eq_true',Bool.not_eq_false',decide_eq_true_eq,decide_eq_false_iff_not,Decidable.not_not] at *; split<;>rename_i hr<;>rw[v7] at hr<;>omega
   ·have h3':=of_decide_eq_false h3; unfold xg; rw[if_pos h3']
 ·unfold th; rw[if_pos h1]
theorem ga.ayS {t:Types} (hf:ga t) {a:Nat} (ha:a<t.nodes.length) (hp:qj t (a+1)) {x:Attr} (hx:x∈bp t a):aAD x:=by obtain⟨n,hn,h⟩:=aeR hf _ a ha hp x hx; exact⟨hf.aCc n hn x h,hf.names n hn x h,hf.word n hn x h⟩
def mA (t:Types) (i:Nat):Int :=
 if pQ (t.nodes.getD i default).name=false then 2
 else if (t.nodes.take i).any (λy=>decide (y.name=(t.nodes.getD i default).name))=true then 5
 else if ¬ (-1<=(t.nodes.getD i default).parent/\(t.nodes.getD i default).parent<i) then 6
 else if 4<(t.nodes.getD i default).attrs.length then 3
 else if 8<(bp t i).length then 3
 else oP (λk=>th ((bp t i).take k) ((bp t i).getD k default)) ((bp t i).length - (t.nodes.getD i default).attrs.length) (bp t i).length
theorem ark {t:Types} {i:Nat} (h:mA t i=0) : -1<=(t.nodes.getD i default).parent/\(t.nodes.getD i default).parent<i:=by
 unfold mA at h; split at h
 ·cases h
 ·split at h
  ·cases h
  ·split at h
   ·cases h
   ·rename_i h1; exact Decidable.of_not_not h1
theorem ayT (t:Types) (hf:ga t) (i:Nat) (hi:i<t.nodes.length) (hp:qj t i):aS Tryz.prog 230 [aF t,.val (.int .i64 i)] (λr=>r = .val (.int .i64 (mA t i))):=by
 have hn:=hf.nodes; have lV:=hf.attrs _ (gM hi); refine aR [] func230 ?_; rw[ntmps230,results230]; simp -implicitDefEqProofs only[go_sem,aF,getD_map aJ hi,hi,aJ]; refine aY (zc (t.nodes.getD i default).name (Nat.le_trans (hf.name _ (gM hi)) (by decide))) (by simp -implicitDefEqProofs only[go_sem,aF,getD_map aJ hi,hi,aJ]<;>rfl) (bY rfl) ?_; simp -implicitDefEqProofs only[go_sem,aF,getD_map aJ hi,hi,aJ]; refine aX (λh1=>?_) (λh1=>?_)<;>simp -implicitDefEqProofs only[go_sem,aF,getD_map aJ hi,hi,aJ]
 ·refine⟨⟨⟨by omega,by omega⟩,λx hx=>by obtain⟨a,_,rfl⟩:=List.mem_map.1 hx; rfl⟩,?_⟩; refine aY (af0 (λy=>decide (y.name=(t.nodes.getD i default).name)) (t.nodes.take i) (by simp; omega) _ [] [.dJ (aJ (t.nodes.getD i default)) 0] (λy _=>avq _ y)) (by simp -implicitDefEqProofs only[go_sem,aF,getD_map aJ hi,hi,aJ]<;>rfl) (bY rfl) ?_; simp -implicitDefEqProofs only[go_sem,aF,getD_map aJ hi,hi,aJ]; refine aL (λh2=>?_) (λh2=>?_)<;>simp -implicitDefEqProofs only[go_sem,aF,getD_map aJ hi,hi,aJ]
  ·unfold mA; rw[if_neg (by rw[h1]; decide),if_pos h2]
  ·have e1 : mA t i = if ¬ (-1 ≤ (t.nodes.getD i default).parent ∧ (t.nodes.getD i default).parent < i) then 6
     else if 4<(t.nodes.getD i default).attrs.length then 3 else if 8<(bp t i).length then 3
     else oP (λk=>th ((bp t i).take k) ((bp t i).getD k default)) ((bp t i).length - (t.nodes.getD i default).attrs.length) (bp t i).length:=by
    unfold mA; rw[if_neg (by rw[h1]; decide),if_neg (by rw[h2]; decide)]
   rw[e1]; clear e1; refine bO (λh3=>?_) (λh3=>?_)<;>simp -implicitDefEqProofs only[go_sem,h3,aF,getD_map aJ hi,hi,aJ]
   ·have h3':=of_decide_eq_true h3; rw[if_pos (by omega)]
   ·have h3':=of_decide_eq_false h3; refine aL (λh4=>?_) (λh4=>?_)<;>simp -implicitDefEqProofs only[go_sem,aF,getD_map aJ hi,hi,aJ]
    ·have yw:=of_decide_eq_true h4; rw[if_pos (by omega)]
    ·have yw:=of_decide_eq_false h4; rw[if_neg (by omega)]; refine aL (λh5=>?_) (λh5=>?_)<;>simp -implicitDefEqProofs only[go_sem,aF,getD_map aJ hi,hi,aJ]
     ·have h5':=of_decide_eq_true h5; rw[if_pos (by omega)]
     ·have h5':=of_decide_eq_false h5; rw[if_neg (by omega)]; have hp':qj t (i+1):=λj hj=>by
       rcases Nat.lt_succ_iff_lt_or_eq.1 hj with h | h
       ·exact hp j h
       ·subst h; omega
      have hlen:=lX hf hi hp'; have hat:(t.nodes.getD i default).attrs.length<=(bp t i).length:=by rw[tf hp',List.length_append]; omega
      generalize hs:(bp t i).length - (t.nodes.getD i default).attrs.length=s; have hw:IntKind.i64.wrap (((bp t i).length:Int) - ((t.nodes.getD i default).attrs.length:Int))=s:=by rw[IntWalk.i64_in _ (by omega)]; omega
      refine aY ((aki t hf i hi hp').toL) (by simp -implicitDefEqProofs only[go_sem,aF,getD_map aJ hi,hi,aJ]<;>rfl) (yo) ?_; simp -implicitDefEqProofs only[go_sem,aF,getD_map aJ hi,hi,aJ]; refine aL (λh6=>?_) (λh6=>?_)<;>simp -implicitDefEqProofs only[go_sem,aF,getD_map aJ hi,hi,aJ]
      ·have h6':=of_decide_eq_true h6; rw[if_pos (by omega)]
      ·have h6':=of_decide_eq_false h6; rw[if_neg (by omega),hw]; generalize hf':(λk=>th ((bp t i).take k) ((bp t i).getD k default))=f; refine bH (σ:=Nat) (λx=>(ct (ct (ct (ct (ct fA 1 (.p (.val (.int .i64 i)))) 2 (.ptr 2 0)) 5 (.ptr 5 0)) 6 (.p (.aU ((bp t i).map aV)))) 7 (.p (.val (.int .i64 x)))))
        (λx=>(bl (bl b8 2 (.box [.p (.aU (t.nodes.map aJ)),.p (.aU (t.au.map aK))])) 5 (.box [.p (.val (.string (t.nodes.getD i default).name)),.p (.val (.int .i64 (t.nodes.getD i default).parent)),.p (.val (.bool (t.nodes.getD i default).abs)),.p (.aU ((t.nodes.getD i default).attrs.map aV))])))
        (λx=>(s<=x/\x<=(bp t i).length)/\∀j,s<=j->j<x->f j=0) (λx=>(bp t i).length - x) s ⟨⟨Nat.le_refl _,by omega⟩,λj hj hj'=>absurd hj' (by omega)⟩ bR ?_
       rintro x ⟨⟨hsx,hx⟩,hq⟩; simp -implicitDefEqProofs only[go_sem,aF,getD_map aJ hi,hi,aJ]; refine aL (λhc=>?_) (λhc=>?_)
       ·have hlt:x<(bp t i).length:=by have:=of_decide_eq_true hc; omega
        simp -implicitDefEqProofs only[go_sem,aF,getD_map aJ hi,hi,aJ,getD_map aV hlt,hlt,aV]; refine cV [.q,.q,.q,.q,.q,.q,.q,.q,.q] (by kernel_rfl) ?_; simp -implicitDefEqProofs only[go_sem,aF,getD_map aJ hi,hi,aJ,getD_map aV hlt,hlt,aV]; refine⟨⟨⟨by omega,by omega⟩,yt _⟩,?_⟩; refine jk (aif ((bp t i).getD x default) ((bp t i).take x) (hf.ayS hi hp' (gM hlt)) (by simp; omega)) (by simp -implicitDefEqProofs only[go_sem,aF,getD_map aJ hi,hi,aJ,getD_map aV hlt,hlt,aV]<;>rfl) (bY rfl) ?_; simp -implicitDefEqProofs only[go_sem,aF,getD_map aJ hi,hi,aJ,getD_map aV hlt,hlt,aV]; have e:f x=th ((bp t i).take x) ((bp t i).getD x default):=by rw[<-hf']
        rw[<-e]; refine aX (λh7=>?_) (λh7=>?_)<;>simp -implicitDefEqProofs only[go_sem,aF,getD_map aJ hi,hi,aJ,getD_map aV hlt,hlt,aV]
        ·have h7':=of_decide_eq_true h7; exact bJ (x+1) ⟨⟨by omega,hlt⟩,λj hj hj'=>by
          rcases Nat.lt_succ_iff_lt_or_eq.1 hj' with h | h
          ·exact hq j hj h
          ·rw[h]; exact h7'⟩ (by omega) (by rw[bq hlt (by omega)]; exact bR)
        ·have h7':=of_decide_eq_false h7; rw[vu hsx hlt hq h7']
       ·have hge:(bp t i).length<=x:=by have:=of_decide_eq_false hc; omega
        simp -implicitDefEqProofs only[go_sem,aF,getD_map aJ hi,hi,aJ]; rw[yu λj hj hj'=>hq j hj (by omega)]
 ·unfold mA; rw[if_pos h1]
end Go.Proofs.YtllicmcihlfajaaGreat
namespace Go.Proofs.YtllicmcihlfajaaGreat
open Go.cE
def inB (t:Types) (n:Int):Bool:=decide (0<=n)&&decide (n<t.nodes.length)
theorem agJ (t:Types) (n:Int):aS Tryz.prog 255 [.val (.int .i64 n),.dJ [.aU (t.nodes.map aJ),.aU (t.au.map aK)] 0] (λr=>r = .val (.bool (inB t n))):=by
 unfold inB; refine aR [] func255 ?_; rw[ntmps255,results255]; simp -implicitDefEqProofs only[go_sem]
 repeat' first | done | (refine bO (λh=>?_) (λh=>?_)<;>try simp -implicitDefEqProofs only[go_sem,h]) | (refine bK (λh=>?_) (λh=>?_)<;>try simp -implicitDefEqProofs only[go_sem,h]) | (refine aX (λh=>?_) (λh=>?_)<;>try simp -implicitDefEqProofs only[go_sem,h]) | (refine aL (λh=>?_) (λh=>?_)<;>try simp -implicitDefEqProofs only[go_sem,h])
def oz (t:Types) (i:Nat):Int :=
 if pQ (t.au.getD i default).name=false then 2
 else if (t.au.take i).any (λy=>decide (y.name=(t.au.getD i default).name))=true then 5
 else if ((inB t (t.au.getD i default).src&&inB t (t.au.getD i default).dst)&&(uP (t.au.getD i default).lB (t.au.getD i default).jd&&uP (t.au.getD i default).qi (t.au.getD i default).mg))=true then 0 else 6
theorem ayU (t:Types) (hf:ga t) (i:Nat) (hi:i<t.au.length):aS Tryz.prog 231 [aF t,.val (.int .i64 i)] (λr=>r = .val (.int .i64 (oz t i))):=by
 have hn:=hf.au; refine aR [] func231 ?_; rw[ntmps231,results231]; simp -implicitDefEqProofs only[go_sem,aF,getD_map aK hi,hi,aK]; refine aY (zc (t.au.getD i default).name (Nat.le_trans (hf.azS _ (gM hi)) (by decide))) (by simp -implicitDefEqProofs only[go_sem,aF,getD_map aK hi,hi,aK]<;>rfl) (bY rfl) ?_; simp -implicitDefEqProofs only[go_sem,aF,getD_map aK hi,hi,aK]; refine aX (λh1=>?_) (λh1=>?_)<;>simp -implicitDefEqProofs only[go_sem,aF,getD_map aK hi,hi,aK]
 ·refine⟨⟨⟨by omega,by omega⟩,λx hx=>by obtain⟨a,_,rfl⟩:=List.mem_map.1 hx; rfl⟩,?_⟩; refine aY (aeN (λy=>decide (y.name=(t.au.getD i default).name)) (t.au.take i) (by simp; omega) _ [] [.dJ (aK (t.au.getD i default)) 0] (λy _=>avr _ y)) (by simp -implicitDefEqProofs only[go_sem,aF,getD_map aK hi,hi,aK]<;>rfl) (bY rfl) ?_; simp -implicitDefEqProofs only[go_sem,aF,getD_map aK hi,hi,aK]; refine aL (λh2=>?_) (λh2=>?_)<;>simp -implicitDefEqProofs only[go_sem,aF,getD_map aK hi,hi,aK]
  ·unfold oz; rw[if_neg (by rw[h1]; decide),if_pos h2]
  ·have e1:oz t i=if ((inB t (t.au.getD i default).src&&inB t (t.au.getD i default).dst)&&(uP (t.au.getD i default).lB (t.au.getD i default).jd&&uP (t.au.getD i default).qi (t.au.getD i default).mg))=true then 0 else 6:=by unfold oz; rw[if_neg (by rw[h1]; decide),if_neg (by rw[h2]; decide)]
   rw[e1]; clear e1; refine aY (agJ t (t.au.getD i default).src) (by simp -implicitDefEqProofs only[go_sem,aF,getD_map aK hi,hi,aK]<;>rfl) (bY rfl) ?_; simp -implicitDefEqProofs only[go_sem,aF,getD_map aK hi,hi,aK]; refine bK (λh3=>?_) (λh3=>?_)<;>simp -implicitDefEqProofs only[go_sem,h3,aF,getD_map aK hi,hi,aK]
   refine aY (agJ t (t.au.getD i default).dst) (by simp -implicitDefEqProofs only[go_sem,aF,getD_map aK hi,hi,aK]<;>rfl) (bY rfl) ?_; simp -implicitDefEqProofs only[go_sem,h3,aF,getD_map aK hi,hi,aK]; refine aX (λh4=>?_) (λh4=>?_)<;>simp -implicitDefEqProofs only[go_sem,h4,aF,getD_map aK hi,hi,aK]
   refine aY (aeM (t.au.getD i default).lB (t.au.getD i default).jd) (by simp -implicitDefEqProofs only[go_sem,aF,getD_map aK hi,hi,aK]<;>rfl) (bY rfl) ?_; simp -implicitDefEqProofs only[go_sem,aF,getD_map aK hi,hi,aK]; refine bK (λh5=>?_) (λh5=>?_)<;>simp -implicitDefEqProofs only[go_sem,h5,aF,getD_map aK hi,hi,aK]
   refine aY (aeM (t.au.getD i default).qi (t.au.getD i default).mg) (by simp -implicitDefEqProofs only[go_sem,aF,getD_map aK hi,hi,aK]<;>rfl) (bY rfl) ?_; simp -implicitDefEqProofs only[go_sem,aF,getD_map aK hi,hi,aK]; refine aX (λh6=>?_) (λh6=>?_)<;>simp -implicitDefEqProofs only[go_sem,h6,aF,getD_map aK hi,hi,aK]
 ·unfold oz; rw[if_pos h1]
def iz (t:Types):ByteArray×Int :=
 if t.nodes.length=0 then (⟨#[]⟩,7)
 else if 12<t.nodes.length\/20<t.au.length then (⟨#[]⟩,3)
 else match jT (mA t) 0 t.nodes.length with
  | some k=>((t.nodes.getD k default).name,mA t k)
  | none=>match jT (oz t) 0 t.au.length with
   | some k=>((t.au.getD k default).name,oz t k)
   | none=>(⟨#[]⟩,0)
theorem aeS {t:Types} {n:Nat} (h:∀j,j<n->mA t j=0):qj t n:=λj hj=>ark (h j hj)
theorem akj (t:Types) (hf:ga t):aS Tryz.prog 196 [aF t] (λr=>r = .dB [.val (.string (iz t).1),.val (.int .i64 (iz t).2)]):=by
 have hn:=hf.nodes; have hm:=hf.au; refine aR [] func196 ?_; rw[ntmps196,results196]; simp -implicitDefEqProofs only[go_sem,aF]; refine aL (λh1=>?_) (λh1=>?_)<;>simp -implicitDefEqProofs only[go_sem,aF]
 ·have sr:=of_decide_eq_true h1; unfold iz; rw[if_pos (by omega)]; exact⟨rfl,rfl⟩
 ·have sr:=of_decide_eq_false h1; have hN:t.nodes.length≠0:=by omega
  have big:12<t.nodes.length\/20<t.au.length->iz t=(⟨#[]⟩,3):=λh=>by unfold iz; rw[if_neg hN,if_pos h]
  refine bO (λh2=>?_) (λh2=>?_)<;>simp -implicitDefEqProofs only[go_sem,h2,aF]
  ·have h2':=of_decide_eq_true h2; rw[big (by omega)]; exact⟨rfl,rfl⟩
  ·have h2':=of_decide_eq_false h2; refine aL (λh3=>?_) (λh3=>?_)<;>simp -implicitDefEqProofs only[go_sem,aF]
   ·have h3':=of_decide_eq_true h3; rw[big (by omega)]; exact⟨rfl,rfl⟩
   ·have h3':=of_decide_eq_false h3
    have hV : iz t = match jT (mA t) 0 t.nodes.length with
      | some k=>((t.nodes.getD k default).name,mA t k)
      | none=>match jT (oz t) 0 t.au.length with
       | some k=>((t.au.getD k default).name,oz t k)
       | none=>(⟨#[]⟩,0):=by unfold iz; rw[if_neg hN,if_neg (by omega)]
    clear big; refine bH (σ:=Nat) (λx=>(ct (ct (ct (ct fA 1 (.ptr 1 0)) 27 (.p (.aU (t.nodes.map aJ)))) 28 (.p (.val (.int .i64 t.nodes.length)))) 29 (.p (.val (.int .i64 x)))))
     (λx=>(bl b8 1 (.box [.p (.aU (t.nodes.map aJ)),.p (.aU (t.au.map aK))])))
     (λx=>x<=t.nodes.length/\∀j,j<x->mA t j=0) (λx=>t.nodes.length - x) 0 ⟨Nat.zero_le _,λj hj=>absurd hj (Nat.not_lt_zero j)⟩ bR ?_
    rintro x ⟨hx,hq⟩; simp -implicitDefEqProofs only[go_sem,aF]; refine aL (λhc=>?_) (λhc=>?_)
    ·have hlt:x<t.nodes.length:=by simpa using hc
     simp -implicitDefEqProofs only[go_sem,aF,getD_map aJ hlt,hlt,aJ]; refine aY (ayT t hf x hlt (aeS hq)) (by simp -implicitDefEqProofs only[go_sem,aF,getD_map aJ hlt,hlt,aJ]<;>rfl) (bY rfl) ?_; simp -implicitDefEqProofs only[go_sem,aF,getD_map aJ hlt,hlt,aJ]; refine aX (λh4=>?_) (λh4=>?_)<;>simp -implicitDefEqProofs only[go_sem,aF,getD_map aJ hlt,hlt,aJ]
     ·have yw:=of_decide_eq_true h4; exact bJ (x+1) ⟨hlt,all_succ hq yw⟩ (by omega) (by rw[bq hlt (by omega)]; exact bR)
     ·have yw:=of_decide_eq_false h4; rw[hV,lC (Nat.zero_le _) hlt (λj _=>hq j) yw]; exact⟨rfl,rfl⟩
    ·have hge:t.nodes.length<=x:=by simpa using hc
     have hN0:jT (mA t) 0 t.nodes.length=none:=gZ λj _ hj=>hq j (by omega)
     rw[hN0] at hV; simp only[] at hV; simp -implicitDefEqProofs only[go_sem,aF]; refine bH (σ:=Nat) (λx=>(ct (ct (ct (ct fA 1 (.ptr 1 0)) 44 (.p (.aU (t.au.map aK)))) 45 (.p (.val (.int .i64 t.au.length)))) 46 (.p (.val (.int .i64 x)))))
      (λx=>(bl b8 1 (.box [.p (.aU (t.nodes.map aJ)),.p (.aU (t.au.map aK))])))
      (λx=>x<=t.au.length/\∀j,j<x->oz t j=0) (λx=>t.au.length - x) 0 ⟨Nat.zero_le _,λj hj=>absurd hj (Nat.not_lt_zero j)⟩ bR ?_
     rintro y ⟨hy,hq'⟩; simp -implicitDefEqProofs only[go_sem,aF]; refine aL (λpN=>?_) (λpN=>?_)
     ·have hlt:y<t.au.length:=by simpa using pN
      simp -implicitDefEqProofs only[go_sem,aF,getD_map aK hlt,hlt,aK]; refine aY (ayU t hf y hlt) (by simp -implicitDefEqProofs only[go_sem,aF,getD_map aK hlt,hlt,aK]<;>rfl) (bY rfl) ?_; simp -implicitDefEqProofs only[go_sem,aF,getD_map aK hlt,hlt,aK]; refine aX (λh4=>?_) (λh4=>?_)<;>simp -implicitDefEqProofs only[go_sem,aF,getD_map aK hlt,hlt,aK]
      ·have yw:=of_decide_eq_true h4; exact bJ (y+1) ⟨hlt,all_succ hq' yw⟩ (by omega) (by rw[bq hlt (by omega)]; exact bR)
      ·have yw:=of_decide_eq_false h4; rw[hV,lC (Nat.zero_le _) hlt (λj _=>hq' j) yw]; exact⟨rfl,rfl⟩
     ·have hge:t.au.length<=y:=by simpa using pN
      simp -implicitDefEqProofs only[go_sem,aF]; rw[hV,gZ λj _ hj=>hq' j (by omega)]; exact⟨rfl,rfl⟩
end Go.Proofs.YtllicmcihlfajaaGreat
namespace Go.Proofs.YtllicmcihlfajaaGreat
open Go.cE
theorem qS {α:Type} [Inhabited α] {p:α->Bool} {l:List α} {x j:Nat} (hj:j<x) (hx:x<=l.length) (h:p (l.getD j default)=true):(l.take x).any p=true:=by
 have hjl:j<l.length:=by omega
 refine List.any_eq_true.2 ⟨l[j],List.mem_iff_getElem.2 ⟨j,by simp; omega,by simp⟩,?_⟩; simpa[hjl] using h
theorem nv {α:Type} [Inhabited α] {p:α->Bool} {l:List α} {x:Nat} (hx:x<=l.length) (h:∀j,j<x->p (l.getD j default)=false):(l.take x).any p=false:=by
 rw[List.any_eq_false]; intro a ha; obtain⟨j,hj,rfl⟩:=List.mem_iff_getElem.1 ha; simp only[List.length_take] at hj; have:=h j (by omega); have hjl:j<l.length:=by omega
 simpa[hjl] using this
theorem akk {α:Type} [DecidableEq α] {a b:α} {c:Bool} (h:decide (a=b)=c):decide (b=a)=c:=by rw[<-h]; simp[eq_comm]
theorem sN {p:Nat->Bool} {x:Nat} (h:∀j,j<x->p j=false) (hx:p x=false):∀j,j<x+1->p j=false:=λj hj=>by
 rcases Nat.lt_succ_iff_lt_or_eq.1 hj with h' | h'
 ·exact h j h'
 ·rw[h']; exact hx
theorem arl (l:List ByteArray) (hl:l.length<=25) (hw:∀s∈l,s.size<=40):aS Tryz.prog 229 [.aU (l.map gC)] (λr=>r = .val (.int .i64 (aaH l))):=by
 unfold aaH; refine aR [] func229 ?_; rw[ntmps229,results229]; simp -implicitDefEqProofs only[go_sem]; refine aL (λh0=>?_) (λh0=>?_)<;>simp -implicitDefEqProofs only[go_sem]
 ·have h0':20<l.length:=by have:=of_decide_eq_true h0; omega
  rw[if_pos h0']
 ·have h0':¬ 20<l.length:=by have:=of_decide_eq_false h0; omega
  rw[if_neg h0']; refine bH (σ:=Nat) (λx=>(ct (ct fA 0 (.p (.aU (l.map gC)))) 3 (.p (.val (.int .i64 x))))) (λx=>b8)
   (λx=>x<=l.length/\∀j,j<x->tg l j=0) (λx=>l.length - x) 0 ⟨Nat.zero_le _,λj hj=>absurd hj (Nat.not_lt_zero j)⟩ bR ?_
  rintro x ⟨hx,hq⟩; simp -implicitDefEqProofs only[go_sem]; refine aL (λhc=>?_) (λhc=>?_)
  ·have hlt:x<l.length:=by simpa using hc
   simp -implicitDefEqProofs only[go_sem,getD_map gC hlt,hlt,gC]; refine aY (vZ (l.getD x default) (Nat.le_trans (hw _ (gM hlt)) (by decide))) (by simp -implicitDefEqProofs only[go_sem,getD_map gC hlt,hlt,gC]<;>rfl) (bY rfl) ?_; simp -implicitDefEqProofs only[go_sem,getD_map gC hlt,hlt,gC]; refine aX (λh1=>?_) (λh1=>?_)<;>simp -implicitDefEqProofs only[go_sem,getD_map gC hlt,hlt,gC]
   ·refine bH (σ:=Nat) (λy=>(ct (ct (ct fA 0 (.p (.aU (l.map gC)))) 3 (.p (.val (.int .i64 x)))) 4 (.p (.val (.int .i64 y))))) (λ_=>b8)
     (λy=>y<=x/\∀j,j<y->decide (l.getD x default=l.getD j default)=false) (λy=>x - y) 0 ⟨Nat.zero_le _,λj hj=>absurd hj (Nat.not_lt_zero j)⟩ bR ?_
    rintro y ⟨hy,hqy⟩; simp -implicitDefEqProofs only[go_sem,getD_map gC hlt,hlt,gC]; refine aL (λpN=>?_) (λpN=>?_)
    ·have hlty:y<x:=by simpa using pN
     have acL:y<l.length:=by omega
     simp -implicitDefEqProofs only[go_sem,getD_map gC hlt,hlt,gC,getD_map gC acL,acL]; refine cV [.q,.q,.q,.q,.q,.q,.q,.q,.q] (by kernel_rfl) ?_; simp -implicitDefEqProofs only[go_sem,getD_map gC hlt,hlt,gC,getD_map gC acL,acL]; refine aL (λh2=>?_) (λh2=>?_)<;>simp -implicitDefEqProofs only[go_sem,getD_map gC hlt,hlt,gC,getD_map gC acL,acL]
     ·have:tg l x=5:=by unfold tg; rw[if_neg (by rw[h1]; decide),if_pos (qS hlty hx (akk h2))]
      rw[qB hlt hq (by rw[this]; decide),this]
     ·exact bJ (y+1) ⟨hlty,sN hqy (akk h2)⟩ (by omega) (by rw[bq hlty (by omega)]; exact bR)
    ·have hge:x<=y:=by simpa using pN
     simp -implicitDefEqProofs only[go_sem,getD_map gC hlt,hlt,gC]; have:tg l x=0:=by unfold tg; rw[if_neg (by rw[h1]; decide),if_neg (by rw[nv (p:=λz=>decide (l.getD x default=z)) hx λj hj=>hqy j (by omega)]; decide)]
     exact bJ (x+1) ⟨hlt,all_succ hq this⟩ (by omega) (by rw[bq hlt (by omega)]; exact bR)
   ·have:tg l x=2:=by unfold tg; rw[if_pos h1]
    rw[qB hlt hq (by rw[this]; decide),this]
  ·have hge:l.length<=x:=by simpa using hc
   simp -implicitDefEqProofs only[go_sem]; rw[sx λj hj=>hq j (by omega)]
theorem af3 (x:Attr) (hx:aAD x):aS Tryz.prog 194 [.agg (aV x)] (λr=>r = .val (.int .i64 (xg x))):=by
 have hn:=hx.names; refine aR [] func194 ?_; rw[ntmps194,results194]; simp -implicitDefEqProofs only[go_sem,aV,cG]; have hw:IntKind.i64.wrap ((x.names.length:Int) - 1)=(x.names.length:Int) - 1:=IntWalk.i64_in _ (by omega); have hnil:x.names.length=0->aaH x.names=0:=λh=>by have:x.names=[]:=List.length_eq_zero_iff.1 h; rw[this]; try rfl
 refine aL (λh1=>?_) (λh1=>?_)<;>simp -implicitDefEqProofs only[go_sem,aV,cG]
 ·have sr:=of_decide_eq_true h1; have e:xg x=if acK x=true then 0 else 6:=by unfold xg; rw[if_neg (by rw[hnil (by omega)]; decide)]
  rw[e]; refine aY (aab x.low (-1000000) 1000000) (by simp -implicitDefEqProofs only[go_sem,aV,cG]<;>rfl) (bY rfl) ?_; simp -implicitDefEqProofs only[go_sem,aV,cG]; refine bK (λh2=>?_) (λh2=>?_)<;>simp -implicitDefEqProofs only[go_sem,h2,aV,cG]
  ·refine aY (aab x.high x.low 1000000) (by simp -implicitDefEqProofs only[go_sem,aV,cG]<;>rfl) (bY rfl) ?_; simp -implicitDefEqProofs only[go_sem,aV,cG]; refine aX (λh3=>?_) (λh3=>?_)<;>simp -implicitDefEqProofs only[go_sem,aV,cG]
   all_goals
    simp only[Bool.and_eq_true,Bool.and_eq_false_iff] at *; simp only[Bool.not_eq_true',Bool.not_eq_false',decide_eq_true_eq,decide_eq_false_iff_not,Decidable.not_not] at *; split<;>rename_i hr<;>rw[v7] at hr<;>omega
  ·simp only[Bool.and_eq_true,Bool.and_eq_false_iff] at *; simp only[Bool.not_eq_true',Bool.not_eq_false',decide_eq_true_eq,decide_eq_false_iff_not,Decidable.not_not] at *; split<;>rename_i hr<;>rw[v7] at hr<;>omega
 ·have sr:=of_decide_eq_false h1; refine aY (arl x.names hx.names hx.word) (by simp -implicitDefEqProofs only[go_sem,aV,cG]<;>rfl) (bY rfl) ?_; simp -implicitDefEqProofs only[go_sem,aV,cG]; refine aX (λh3=>?_) (λh3=>?_)<;>simp -implicitDefEqProofs only[go_sem,aV,cG]
  ·have h3':=of_decide_eq_true h3; have e2:xg x=if acK x=true then 0 else 6:=by unfold xg; rw[if_neg (by rw[h3']; decide)]
   rw[e2]
   repeat' first | done | (refine bO (λh=>?_) (λh=>?_)<;>try simp -implicitDefEqProofs only[go_sem,h,hw,aV,cG]) | (refine bK (λh=>?_) (λh=>?_)<;>try simp -implicitDefEqProofs only[go_sem,h,hw,aV,cG]) | (refine aX (λh=>?_) (λh=>?_)<;>try simp -implicitDefEqProofs only[go_sem,h,hw,aV,cG]) | (refine aL (λh=>?_) (λh=>?_)<;>try simp -implicitDefEqProofs only[go_sem,h,hw,aV,cG])
   all_goals
    simp only[Bool.not_eq_true',Bool.not_eq_false',decide_eq_true_eq,decide_eq_false_iff_not,Decidable.not_not] at *; split<;>rename_i hr<;>rw[v7] at hr<;>omega
  ·have h3':=of_decide_eq_false h3; unfold xg; rw[if_pos h3']
end Go.Proofs.YtllicmcihlfajaaGreat
namespace Go.Proofs.YtllicmcihlfajaaGreat
open Go.cE
def aeT (t:Types) (a:Int):List Attr:=if a<0 then [] else bp t a.toNat
theorem anf (t:Types) (a:Int) (ha:a<0):bu Tryz.prog 152 [aF t,.val (.int .i64 a)] (λr=>r = .row 126 4 []):=by
 refine bF [7] func152 ?_; rw[ntmps152,results152]; simp -implicitDefEqProofs only[go_sem,aF]; refine aL (λh0=>?_) (λh0=>?_)<;>simp -implicitDefEqProofs only[go_sem]
 ·exact⟨by decide,_,.nil _ _ (by decide),rfl⟩
 ·have:=of_decide_eq_false h0; omega
theorem agK (t:Types) (hf:ga t):∀ (a:Nat),a<t.nodes.length->qj t (a+1)->bu Tryz.prog 152 [aF t,.val (.int .i64 a)] (λr=>r = .row 126 4 ((bp t a).map aV)):=by
 intro a
 induction a using Nat.strongRecOn with
 | _ a ih =>
  intro ha hp; have hq:=hp a (by omega); have h1:=hf.attrs _ (gM ha); have hlen:=lX hf ha hp; have avs:bu Tryz.prog 152 [aF t,.val (.int .i64 (t.nodes.getD a default).parent)] (λr=>r = .row 126 4 ((aeT t (t.nodes.getD a default).parent).map aV)):=by
   by_cases h0:(t.nodes.getD a default).parent<0
   ·have:=anf t _ h0; unfold aeT; rw[if_pos h0]; exact this
   ·obtain⟨q,hqq⟩:∃q:Nat,(t.nodes.getD a default).parent=q:=⟨_,(Int.toNat_of_nonneg (by omega)).symm⟩; unfold aeT; rw[if_neg h0,hqq,Int.toNat_natCast]; have hqa:q<a:=by have:=hq.2; rw[hqq] at this; omega
    exact ih q hqa (by omega) (λj hj=>hp j (by omega))
  have e:bp t a=aeT t (t.nodes.getD a default).parent++(t.nodes.getD a default).attrs:=by
   rw[tf hp]; unfold aeT; by_cases h0:(t.nodes.getD a default).parent<0
   ·rw[if_pos h0,if_neg (by omega)]
   ·rw[if_neg h0,if_pos (by omega)]
  rw[e,List.length_append] at hlen; rw[e]; refine bF [7] func152 ?_; rw[ntmps152,results152]; simp -implicitDefEqProofs only[go_sem,aF,getD_map aJ ha,ha,aJ]; refine aL (λh0=>?_) (λh0=>?_)<;>simp -implicitDefEqProofs only[go_sem,getD_map aJ ha,ha,aJ]
  ·have:=of_decide_eq_true h0; omega
  ·refine ah8 [(1,.q),(2,.q),(3,.q),(4,.q),(5,.q),(6,.q),(7,.q),(8,.q),(10,.b),(11,.b),(12,.b),(13,.b),(14,.b),(15,.b),(0,.w),(9,.s),(16,.w),(17,.q)] (by kernel_rfl) ?_; simp -implicitDefEqProofs only[go_sem,getD_map aJ ha,ha,aJ]; refine jk (avs.toL) (by simp -implicitDefEqProofs only[go_sem,getD_map aJ ha,ha,aJ]<;>rfl) (yo) ?_; simp -implicitDefEqProofs only[go_sem,getD_map aJ ha,ha,aJ]; exact⟨⟨⟨_,rfl⟩,_,rfl⟩,⟨by omega,yt _⟩,⟨by omega,yt _⟩,by decide,_,.refl _,by rw[List.map_append]⟩
theorem avt (t:Types) (hf:ga t) (i:Nat) (hi:i<t.nodes.length) (hp:qj t i):aS Tryz.prog 149 [aF t,.val (.int .i64 i)] (λr=>r = .val (.int .i64 (mA t i))):=by
 have hn:=hf.nodes; have lV:=hf.attrs _ (gM hi); refine aR [] func149 ?_; rw[ntmps149,results149]; simp -implicitDefEqProofs only[go_sem,aF,getD_map aJ hi,hi,aJ]; refine aY (vZ (t.nodes.getD i default).name (Nat.le_trans (hf.name _ (gM hi)) (by decide))) (by simp -implicitDefEqProofs only[go_sem,aF,getD_map aJ hi,hi,aJ]<;>rfl) (bY rfl) ?_; simp -implicitDefEqProofs only[go_sem,aF,getD_map aJ hi,hi,aJ]; refine aX (λh1=>?_) (λh1=>?_)<;>simp -implicitDefEqProofs only[go_sem,aF,getD_map aJ hi,hi,aJ]
 ·refine bH (σ:=Nat) (λx=>(ct (ct (ct (ct fA 1 (.p (.val (.int .i64 i)))) 2 (.ptr 2 0)) 5 (.ptr 5 0)) 6 (.p (.val (.int .i64 x)))))
   (λx=>(bl (bl b8 2 (.box [.p (.aU (t.nodes.map aJ)),.p (.aU (t.au.map aK))])) 5 (.box [.p (.val (.string (t.nodes.getD i default).name)),.p (.val (.int .i64 (t.nodes.getD i default).parent)),.p (.val (.bool (t.nodes.getD i default).abs)),.p (.aU ((t.nodes.getD i default).attrs.map aV))])))
   (λx=>x<=i/\∀j,j<x->decide ((t.nodes.getD j default).name=(t.nodes.getD i default).name)=false) (λx=>i - x) 0 ⟨Nat.zero_le _,λj hj=>absurd hj (Nat.not_lt_zero j)⟩ bR ?_
  rintro x ⟨hx,hqx⟩; simp -implicitDefEqProofs only[go_sem,aF,getD_map aJ hi,hi,aJ]; refine aL (λhc=>?_) (λhc=>?_)
  ·have ang:x<i:=by simpa using hc
   have hxl:x<t.nodes.length:=by omega
   simp -implicitDefEqProofs only[go_sem,aF,getD_map aJ hi,hi,aJ,getD_map aJ hxl,hxl]; refine cV [.q,.q,.q,.q,.q,.q,.q,.q,.q] (by kernel_rfl) ?_; simp -implicitDefEqProofs only[go_sem,aF,getD_map aJ hi,hi,aJ,getD_map aJ hxl,hxl]; refine aL (λh2=>?_) (λh2=>?_)<;>simp -implicitDefEqProofs only[go_sem,aF,getD_map aJ hi,hi,aJ,getD_map aJ hxl,hxl]
   ·have:mA t i=5:=by unfold mA; rw[if_neg (by rw[h1]; decide),if_pos (qS (p:=λy:qh=>decide (y.name=(t.nodes.getD i default).name)) ang (by omega) h2)]
    rw[this]
   ·exact bJ (x+1) ⟨ang,sN hqx h2⟩ (by omega) (by rw[bq ang (by omega)]; exact bR)
  ·have hge:i<=x:=by simpa using hc
   have aeD:=nv (p:=λy:qh=>decide (y.name=(t.nodes.getD i default).name)) (Nat.le_of_lt hi) λj hj=>hqx j (by omega)
   have e1 : mA t i = if ¬ (-1 ≤ (t.nodes.getD i default).parent ∧ (t.nodes.getD i default).parent < i) then 6
     else if 4<(t.nodes.getD i default).attrs.length then 3 else if 8<(bp t i).length then 3
     else oP (λk=>th ((bp t i).take k) ((bp t i).getD k default)) ((bp t i).length - (t.nodes.getD i default).attrs.length) (bp t i).length:=by
    unfold mA; rw[if_neg (by rw[h1]; decide),if_neg (by rw[aeD]; decide)]
   rw[e1]; clear e1; have hwi:IntKind.i64.wrap ((i:Int) - 1)=(i:Int) - 1:=IntWalk.i64_in _ (by omega); simp -implicitDefEqProofs only[go_sem,hwi,aF,getD_map aJ hi,hi,aJ]; refine aY (aab (t.nodes.getD i default).parent (-1) (i - 1)) (by simp -implicitDefEqProofs only[go_sem,aF,getD_map aJ hi,hi,aJ]<;>rfl) (bY rfl) ?_; simp -implicitDefEqProofs only[go_sem,aF,getD_map aJ hi,hi,aJ]; refine aX (λh3=>?_) (λh3=>?_)<;>simp -implicitDefEqProofs only[go_sem,aF,getD_map aJ hi,hi,aJ]
   ·simp only[Bool.and_eq_true,decide_eq_true_eq] at h3; rw[if_neg (by omega)]; have hp':qj t (i+1):=λj hj=>by
     rcases Nat.lt_succ_iff_lt_or_eq.1 hj with h | h
     ·exact hp j h
     ·subst h; omega
    have hlen:=lX hf hi hp'; have hat:(t.nodes.getD i default).attrs.length<=(bp t i).length:=by rw[tf hp',List.length_append]; omega
    generalize hs:(bp t i).length - (t.nodes.getD i default).attrs.length=s; have hw:IntKind.i64.wrap (((bp t i).length:Int) - ((t.nodes.getD i default).attrs.length:Int))=s:=by rw[IntWalk.i64_in _ (by omega)]; omega
    refine aY ((agK t hf i hi hp').toL) (by simp -implicitDefEqProofs only[go_sem,aF,getD_map aJ hi,hi,aJ]<;>rfl) (yo) ?_; simp -implicitDefEqProofs only[go_sem,aF,getD_map aJ hi,hi,aJ]; refine bO (λh5=>?_) (λh5=>?_)<;>simp -implicitDefEqProofs only[go_sem,h5,aF,getD_map aJ hi,hi,aJ]
    ·have h5':=of_decide_eq_true h5; rw[if_pos (by omega)]
    ·have h5':=of_decide_eq_false h5; rw[if_neg (by omega)]; refine aL (λh6=>?_) (λh6=>?_)<;>simp -implicitDefEqProofs only[go_sem,aF,getD_map aJ hi,hi,aJ]
     ·have h6':=of_decide_eq_true h6; rw[if_pos (by omega)]
     ·have h6':=of_decide_eq_false h6; rw[if_neg (by omega),hw]; generalize hf':(λk=>th ((bp t i).take k) ((bp t i).getD k default))=f; refine bH (σ:=Nat) (λx=>(ct (ct (ct (ct (ct fA 1 (.p (.val (.int .i64 i)))) 2 (.ptr 2 0)) 5 (.ptr 5 0)) 7 (.p (.aU ((bp t i).map aV)))) 8 (.p (.val (.int .i64 x)))))
       (λx=>(bl (bl b8 2 (.box [.p (.aU (t.nodes.map aJ)),.p (.aU (t.au.map aK))])) 5 (.box [.p (.val (.string (t.nodes.getD i default).name)),.p (.val (.int .i64 (t.nodes.getD i default).parent)),.p (.val (.bool (t.nodes.getD i default).abs)),.p (.aU ((t.nodes.getD i default).attrs.map aV))])))
       (λx=>(s<=x/\x<=(bp t i).length)/\∀j,s<=j->j<x->f j=0) (λx=>(bp t i).length - x) s ⟨⟨Nat.le_refl _,by omega⟩,λj hj hj'=>absurd hj' (by omega)⟩ bR ?_
      rintro x ⟨⟨hsx,hx⟩,hq⟩; simp -implicitDefEqProofs only[go_sem,aF,getD_map aJ hi,hi,aJ]; refine aL (λhc=>?_) (λhc=>?_)
      ·have hlt:x<(bp t i).length:=by have:=of_decide_eq_true hc; omega
       have hA:=hf.ayS hi hp' (gM hlt); have e:f x=th ((bp t i).take x) ((bp t i).getD x default):=by rw[<-hf']
       simp -implicitDefEqProofs only[go_sem,aF,getD_map aJ hi,hi,aJ,getD_map aV hlt,hlt,aV]; refine aY (vZ ((bp t i).getD x default).name (Nat.le_trans hA.name (by decide))) (by simp -implicitDefEqProofs only[go_sem,aF,getD_map aJ hi,hi,aJ,getD_map aV hlt,hlt,aV]<;>rfl) (bY rfl) ?_; simp -implicitDefEqProofs only[go_sem,aF,getD_map aJ hi,hi,aJ,getD_map aV hlt,hlt,aV]; refine aX (λh7=>?_) (λh7=>?_)<;>simp -implicitDefEqProofs only[go_sem,aF,getD_map aJ hi,hi,aJ,getD_map aV hlt,hlt,aV]
       ·refine bH (σ:=Nat) (λy=>(ct (ct (ct (ct (ct (ct fA 1 (.p (.val (.int .i64 i)))) 2 (.ptr 2 0)) 5 (.ptr 5 0)) 7 (.p (.aU ((bp t i).map aV)))) 8 (.p (.val (.int .i64 x)))) 9 (.p (.val (.int .i64 y)))))
         (λx=>(bl (bl b8 2 (.box [.p (.aU (t.nodes.map aJ)),.p (.aU (t.au.map aK))])) 5 (.box [.p (.val (.string (t.nodes.getD i default).name)),.p (.val (.int .i64 (t.nodes.getD i default).parent)),.p (.val (.bool (t.nodes.getD i default).abs)),.p (.aU ((t.nodes.getD i default).attrs.map aV))])))
         (λy=>y<=x/\∀j,j<y->decide (((bp t i).getD j default).name=((bp t i).getD x default).name)=false) (λy=>x - y) 0 ⟨Nat.zero_le _,λj hj=>absurd hj (Nat.not_lt_zero j)⟩ bR ?_
        rintro y ⟨hy,hqy⟩; simp -implicitDefEqProofs only[go_sem,aF,getD_map aJ hi,hi,aJ,getD_map aV hlt,hlt,aV]; refine aL (λpN=>?_) (λpN=>?_)
        ·have hlty:y<x:=by simpa using pN
         have acL:y<(bp t i).length:=by omega
         simp -implicitDefEqProofs only[go_sem,aF,getD_map aJ hi,hi,aJ,getD_map aV hlt,hlt,aV,getD_map aV acL,acL]; refine cV [.q,.q,.q,.q,.q,.q,.q,.q,.q,.q,.q] (by kernel_rfl) ?_; simp -implicitDefEqProofs only[go_sem,aF,getD_map aJ hi,hi,aJ,getD_map aV hlt,hlt,aV,getD_map aV acL,acL]; refine aL (λh8=>?_) (λh8=>?_)<;>simp -implicitDefEqProofs only[go_sem,aF,getD_map aJ hi,hi,aJ,getD_map aV hlt,hlt,aV,getD_map aV acL,acL]
         ·have e5:f x=5:=by rw[e]; unfold th; rw[if_neg (by rw[h7]; decide),if_pos (qS (p:=λz:Attr=>decide (z.name=((bp t i).getD x default).name)) hlty hx h8)]
          rw[vu hsx hlt hq (by rw[e5]; decide),e5]
         ·exact bJ (y+1) ⟨hlty,sN hqy h8⟩ (by omega) (by rw[bq hlty (by omega)]; exact bR)
        ·have aAE:x<=y:=by simpa using pN
         have e6:f x=xg ((bp t i).getD x default):=by rw[e]; unfold th; rw[if_neg (by rw[h7]; decide),if_neg (by rw[nv (p:=λz:Attr=>decide (z.name=((bp t i).getD x default).name)) hx λj hj=>hqy j (by omega)]; decide)]
         simp -implicitDefEqProofs only[go_sem,aF,getD_map aJ hi,hi,aJ,getD_map aV hlt,hlt,aV]; refine aY (af3 ((bp t i).getD x default) hA) (by simp -implicitDefEqProofs only[go_sem,aF,getD_map aJ hi,hi,aJ,getD_map aV hlt,hlt,aV]<;>rfl) (bY rfl) ?_; simp -implicitDefEqProofs only[go_sem,aF,getD_map aJ hi,hi,aJ,getD_map aV hlt,hlt,aV]; rw[<-e6]; refine aX (λh9=>?_) (λh9=>?_)<;>simp -implicitDefEqProofs only[go_sem,aF,getD_map aJ hi,hi,aJ,getD_map aV hlt,hlt,aV]
         ·have h9':=of_decide_eq_true h9; exact bJ (x+1) ⟨⟨by omega,hlt⟩,λj hj hj'=>by
           rcases Nat.lt_succ_iff_lt_or_eq.1 hj' with h | h
           ·exact hq j hj h
           ·rw[h]; exact h9'⟩ (by omega) (by rw[bq hlt (by omega)]; exact bR)
         ·have h9':=of_decide_eq_false h9; rw[vu hsx hlt hq h9']
       ·have e2:f x=2:=by rw[e]; unfold th; rw[if_pos h7]
        rw[vu hsx hlt hq (by rw[e2]; decide),e2]
      ·have hge:(bp t i).length<=x:=by have:=of_decide_eq_false hc; omega
       simp -implicitDefEqProofs only[go_sem,aF,getD_map aJ hi,hi,aJ]; rw[yu λj hj hj'=>hq j hj (by omega)]
   ·simp only[Bool.and_eq_false_iff,decide_eq_false_iff_not] at h3; rw[if_pos (by omega)]
 ·unfold mA; rw[if_pos h1]
end Go.Proofs.YtllicmcihlfajaaGreat
namespace Go.Proofs.YtllicmcihlfajaaGreat
open Go.cE
def uR (l:List Int) (i:Nat):List Int:=(List.range l.length).map λk=>if k<i\/l.length - 1 - i<k then l.getD (l.length - 1 - k) default else l.getD k default
theorem abF (l:List Int) (i:Nat):(uR l i).length=l.length:=by simp[uR]
theorem arn (l:List Int):uR l 0=l:=by
 apply List.ext_getElem
 ·simp[uR]
 ·intro k h1 h2; simp only[uR,List.getElem_map,List.getElem_range,Nat.not_lt_zero,false_or,Nat.sub_zero]; rw[if_neg (by omega)]; simp[h2]
theorem avu (l:List Int) (i:Nat) (h:l.length<=2 * i+1):uR l i=l.reverse:=by
 apply List.ext_getElem
 ·simp[uR]
 ·intro k h1 h2; have hk:k<l.length:=by simpa using h2
  simp only[uR,List.getElem_map,List.getElem_range,List.getElem_reverse]; have h3:l.length - 1 - k<l.length:=by omega
  split
  ·simp[h3]
  ·have e:k=l.length - 1 - k:=by omega
   have:l[l.length - 1 - k]=l[k]:=by congr 1; omega
   rw[this]; simp[hk]
theorem aoW (l:List Int) (i k:Nat) (hk:k<l.length):(uR l i).getD k default=if k<i\/l.length - 1 - i<k then l.getD (l.length - 1 - k) default else l.getD k default:=by simp only[uR,List.getD_eq_getElem?_getD,List.getElem?_map,List.getElem?_range hk,Option.map_some,Option.getD_some]
theorem aro (l:List Int) (i:Nat) (h:2 * i+1<l.length):((uR l i).set i (l.getD (l.length - 1 - i) default)).set (l.length - 1 - i) (l.getD i default)=uR l (i+1):=by
 apply List.ext_getElem
 ·simp[uR]
 ·intro k h1 h2; have hk:k<l.length:=by simpa[uR] using h2
  simp only[List.getElem_set,uR,List.getElem_map,List.getElem_range]; split
  ·rename_i e; rw[if_pos (by omega)]; congr 1; omega
  ·split
   ·rename_i e; rw[if_pos (by omega),e]
   ·by_cases h3:k<i\/l.length - 1 - i<k
    ·rw[if_pos h3,if_pos (by omega)]
    ·rw[if_neg h3,if_neg (by omega)]
theorem abG (l:List Int) (k:Nat) (y:Int):(l.map encI).set k [PV.val (.int .i64 y)]=(l.set k y).map encI:=by rw[List.map_set]; try rfl
theorem anh (l:List Int) (hl:l.length<=1000000) (v:Nat):j5 Tryz.prog 292 v 3 1 (l.map encI) [] (λa c=>a = .dB []/\c=some (.row v 3 1 (l.reverse.map encI))):=by
 refine lW [] Ty.mixed func292 rfl (by kernel_rfl) (by simp[ntmps292]) ?_; rw[ntmps292,results292]; simp -implicitDefEqProofs only[go_sem]; have hw:IntKind.i64.wrap ((l.length:Int) - 1)=(l.length:Int) - 1:=IntWalk.i64_in _ (by omega); rw[hw]; refine bH (σ:=Nat) (λx=>(ct (ct (ct fA 0 (.row 1000000 v)) 2 (.p (.val (.int .i64 x)))) 3 (.p (.val (.int .i64 ((l.length:Int) - 1 - x)))))) (λx=>(bl b8 1000000 (.row v 3 1 ((uR l x).map encI))))
  (λx=>2 * x<=l.length+1) (λx=>l.length - 2 * x) 0 (by omega) ?_ ?_
 ·rw[arn]; exact bR
 rintro x hx; simp -implicitDefEqProofs only[go_sem]; refine aL (λhc=>?_) (λhc=>?_)
 ·have pN:=of_decide_eq_true hc; have hx1:x<l.length:=by omega
  have hj1:((l.length:Int) - 1 - x).toNat=l.length - 1 - x:=by omega
  have hj2:l.length - 1 - x<l.length:=by omega
  have hlx:x<(uR l x).length:=by rw[abF]; exact hx1
  have hlj:l.length - 1 - x<(uR l x).length:=by rw[abF]; exact hj2
  have hv1:(uR l x).getD (l.length - 1 - x) default=l.getD (l.length - 1 - x) default:=by rw[aoW l x _ hj2,if_neg (by omega)]
  have hv2:(uR l x).getD x default=l.getD x default:=by rw[aoW l x _ hx1,if_neg (by omega)]
  have aCd:l.length - 1 - x<((uR l x).set x (l.getD (l.length - 1 - x) default)).length:=by rw[List.length_set]; exact hlj
  simp -implicitDefEqProofs only[go_sem,hv1,hv2,abG,getD_map encI aCd,hj1,getD_map encI hlx,getD_map encI hlj,encI,abF,List.length_set]; refine cV [.q,.q,.p,.p,.q,.q,.q,.q,.q,.q,.q,.q,.q,.w,.q,.w] (by kernel_rfl) ?_; simp -implicitDefEqProofs only[go_sem,hv1,hv2,abG,getD_map encI aCd,hj1,getD_map encI hlx,getD_map encI hlj,encI,abF,List.length_set]; refine⟨by omega,hj2,hx1,hx1,hx1,hx1,by omega,hj2,?_⟩; rw[aro l x (by omega),bq (show x<l.length from hx1) (by omega)]; have hw2:IntKind.i64.wrap ((l.length:Int) - 1 - x - 1)=(l.length:Int) - 1 - ((x+1:Nat):Int):=by rw[IntWalk.i64_in _ (by omega)]; omega
  rw[hw2]; exact bJ (x+1) (by omega) (by omega) bR
 ·have pN:=of_decide_eq_false hc; simp -implicitDefEqProofs only[go_sem]; rw[avu l x (by omega)]
end Go.Proofs.YtllicmcihlfajaaGreat
namespace Go.Proofs.YtllicmcihlfajaaGreat
open Go.cE
theorem avv (l:List Int):∀x∈l.map encI,x.length=1:=by intro x hx; obtain⟨a,_,rfl⟩:=List.mem_map.1 hx; rfl
theorem agL (l:List Int) (hl:l.length<=1000000):bu Tryz.prog 200 [.aU (l.map encI)] (λr=>r = .row 3 1 (l.map encI)):=by
 by_cases h0:l=[]
 ·subst h0; refine bu.su (by kernel_rfl) λao cap=>?_
  refine bF [5] func200 ?_; rw[ntmps200,results200]; simp -implicitDefEqProofs only[go_sem]; cases ao with
  | none=>simp -implicitDefEqProofs only[go_sem]; exact⟨by decide,_,.nil _ _ (by decide),rfl⟩
  | some a=>simp -implicitDefEqProofs only[go_sem]; exact⟨λ_ h=>h.elim,by decide,_,.refl _,rfl⟩
 ·have hne:l.map encI≠[]:=by simpa using h0
  refine bF [5] func200 ?_; rw[ntmps200,results200]; simp -implicitDefEqProofs only[go_sem,hne]; exact⟨⟨by omega,avv l⟩,by decide,_,.refl _,rfl⟩
theorem akl (l:List ByteArray):∀x∈l.map gC,x.length=1:=by intro x hx; obtain⟨a,_,rfl⟩:=List.mem_map.1 hx; rfl
theorem arp (l:List ByteArray) (hl:l.length<=1000000):bu Tryz.prog 260 [.aU (l.map gC)] (λr=>r = .row 9 1 (l.map gC)):=by
 by_cases h0:l=[]
 ·subst h0; refine bu.su (by kernel_rfl) λao cap=>?_
  refine bF [5] func260 ?_; rw[ntmps260,results260]; simp -implicitDefEqProofs only[go_sem]; cases ao with
  | none=>simp -implicitDefEqProofs only[go_sem]; exact⟨by decide,_,.nil _ _ (by decide),rfl⟩
  | some a=>simp -implicitDefEqProofs only[go_sem]; exact⟨λ_ h=>h.elim,by decide,_,.refl _,rfl⟩
 ·have hne:l.map gC≠[]:=by simpa using h0
  refine bF [5] func260 ?_; rw[ntmps260,results260]; simp -implicitDefEqProofs only[go_sem,hne]; exact⟨⟨by omega,akl l⟩,by decide,_,.refl _,rfl⟩
end Go.Proofs.YtllicmcihlfajaaGreat
namespace Go.Proofs.YtllicmcihlfajaaGreat
open Go.cE
theorem avw (t:Types) (hf:ga t) (i:Nat) (hi:i<t.au.length):aS Tryz.prog 150 [aF t,.val (.int .i64 i)] (λr=>r = .val (.int .i64 (oz t i))):=by
 have hn:=hf.au; have hn':=hf.nodes; refine aR [] func150 ?_; rw[ntmps150,results150]; simp -implicitDefEqProofs only[go_sem,aF,getD_map aK hi,hi,aK]; refine aY (vZ (t.au.getD i default).name (Nat.le_trans (hf.azS _ (gM hi)) (by decide))) (by simp -implicitDefEqProofs only[go_sem,aF,getD_map aK hi,hi,aK]<;>rfl) (bY rfl) ?_; simp -implicitDefEqProofs only[go_sem,aF,getD_map aK hi,hi,aK]; refine aX (λh1=>?_) (λh1=>?_)<;>simp -implicitDefEqProofs only[go_sem,aF,getD_map aK hi,hi,aK]
 ·refine bH (σ:=Nat) (λx=>(ct (ct (ct (ct fA 1 (.p (.val (.int .i64 i)))) 2 (.ptr 2 0)) 5 (.ptr 5 0)) 6 (.p (.val (.int .i64 x)))))
   (λx=>(bl (bl b8 2 (.box [.p (.aU (t.nodes.map aJ)),.p (.aU (t.au.map aK))])) 5 (.box [.p (.val (.string (t.au.getD i default).name)),.p (.val (.int .i64 (t.au.getD i default).src)),.p (.val (.int .i64 (t.au.getD i default).dst)),.p (.val (.int .i64 (t.au.getD i default).lB)),.p (.val (.int .i64 (t.au.getD i default).jd)),.p (.val (.int .i64 (t.au.getD i default).qi)),.p (.val (.int .i64 (t.au.getD i default).mg))])))
   (λx=>x<=i/\∀j,j<x->decide ((t.au.getD j default).name=(t.au.getD i default).name)=false) (λx=>i - x) 0 ⟨Nat.zero_le _,λj hj=>absurd hj (Nat.not_lt_zero j)⟩ bR ?_
  rintro x ⟨hx,hqx⟩; simp -implicitDefEqProofs only[go_sem,aF,getD_map aK hi,hi,aK]; refine aL (λhc=>?_) (λhc=>?_)
  ·have ang:x<i:=by simpa using hc
   have hxl:x<t.au.length:=by omega
   simp -implicitDefEqProofs only[go_sem,aF,getD_map aK hi,hi,aK,getD_map aK hxl,hxl]; refine cV [.q,.q,.q,.q,.q,.q,.q,.q,.q] (by kernel_rfl) ?_; simp -implicitDefEqProofs only[go_sem,aF,getD_map aK hi,hi,aK,getD_map aK hxl,hxl]; refine aL (λh2=>?_) (λh2=>?_)<;>simp -implicitDefEqProofs only[go_sem,aF,getD_map aK hi,hi,aK,getD_map aK hxl,hxl]
   ·have:oz t i=5:=by unfold oz; rw[if_neg (by rw[h1]; decide),if_pos (qS (p:=λy:rZ=>decide (y.name=(t.au.getD i default).name)) ang (by omega) h2)]
    rw[this]
   ·exact bJ (x+1) ⟨ang,sN hqx h2⟩ (by omega) (by rw[bq ang (by omega)]; exact bR)
  ·have hge:i<=x:=by simpa using hc
   have aeD:=nv (p:=λy:rZ=>decide (y.name=(t.au.getD i default).name)) (Nat.le_of_lt hi) λj hj=>hqx j (by omega)
   have e1:oz t i=if ((inB t (t.au.getD i default).src&&inB t (t.au.getD i default).dst)&&(uP (t.au.getD i default).lB (t.au.getD i default).jd&&uP (t.au.getD i default).qi (t.au.getD i default).mg))=true then 0 else 6:=by unfold oz; rw[if_neg (by rw[h1]; decide),if_neg (by rw[aeD]; decide)]
   rw[e1]; clear e1; have hw:IntKind.i64.wrap ((t.nodes.length:Int) - 1)=(t.nodes.length:Int) - 1:=IntWalk.i64_in _ (by omega); have hin:∀n:Int,(decide (0<=n)&&decide (n<=(t.nodes.length:Int) - 1))=inB t n:=λn=>by unfold inB; congr 1; rw[decide_eq_decide]; omega
   simp -implicitDefEqProofs only[go_sem,aF,getD_map aK hi,hi,aK,hw]; refine aY (aab (t.au.getD i default).src 0 ((t.nodes.length:Int) - 1)) (by simp -implicitDefEqProofs only[go_sem,aF,getD_map aK hi,hi,aK,hw]<;>rfl) (bY rfl) ?_; simp -implicitDefEqProofs only[go_sem,hin,aF,getD_map aK hi,hi,aK,hw]; refine bK (λh3=>?_) (λh3=>?_)<;>simp -implicitDefEqProofs only[go_sem,h3,aF,getD_map aK hi,hi,aK,hw]
   refine aY (aab (t.au.getD i default).dst 0 ((t.nodes.length:Int) - 1)) (by simp -implicitDefEqProofs only[go_sem,aF,getD_map aK hi,hi,aK,hw]<;>rfl) (bY rfl) ?_; simp -implicitDefEqProofs only[go_sem,hin,h3,aF,getD_map aK hi,hi,aK,hw]; refine bK (λh4=>?_) (λh4=>?_)<;>simp -implicitDefEqProofs only[go_sem,h4,aF,getD_map aK hi,hi,aK,hw]
   refine aY (akd (t.au.getD i default).lB (t.au.getD i default).jd) (by simp -implicitDefEqProofs only[go_sem,aF,getD_map aK hi,hi,aK,hw]<;>rfl) (bY rfl) ?_; simp -implicitDefEqProofs only[go_sem,aF,getD_map aK hi,hi,aK,hw]; refine bK (λh5=>?_) (λh5=>?_)<;>simp -implicitDefEqProofs only[go_sem,h5,aF,getD_map aK hi,hi,aK,hw]
   refine aY (akd (t.au.getD i default).qi (t.au.getD i default).mg) (by simp -implicitDefEqProofs only[go_sem,aF,getD_map aK hi,hi,aK,hw]<;>rfl) (bY rfl) ?_; simp -implicitDefEqProofs only[go_sem,aF,getD_map aK hi,hi,aK,hw]; refine aX (λh6=>?_) (λh6=>?_)<;>simp -implicitDefEqProofs only[go_sem,h6,aF,getD_map aK hi,hi,aK,hw]
 ·unfold oz; rw[if_pos h1]
theorem acM (t:Types) (hf:ga t):aS Tryz.prog 93 [aF t] (λr=>r = .dB [.val (.string (iz t).1),.val (.int .i64 (iz t).2)]):=by
 have hn:=hf.nodes; have hm:=hf.au; refine aR [] func93 ?_; rw[ntmps93,results93]; simp -implicitDefEqProofs only[go_sem,aF]; refine aL (λh1=>?_) (λh1=>?_)<;>simp -implicitDefEqProofs only[go_sem,aF]
 ·have sr:=of_decide_eq_true h1; unfold iz; rw[if_pos (by omega)]; exact⟨rfl,rfl⟩
 ·have sr:=of_decide_eq_false h1; have hN:t.nodes.length≠0:=by omega
  have big:12<t.nodes.length\/20<t.au.length->iz t=(⟨#[]⟩,3):=λh=>by unfold iz; rw[if_neg hN,if_pos h]
  refine bO (λh2=>?_) (λh2=>?_)<;>simp -implicitDefEqProofs only[go_sem,h2,aF]
  ·have h2':=of_decide_eq_true h2; rw[big (by omega)]; exact⟨rfl,rfl⟩
  ·have h2':=of_decide_eq_false h2; refine aL (λh3=>?_) (λh3=>?_)<;>simp -implicitDefEqProofs only[go_sem,aF]
   ·have h3':=of_decide_eq_true h3; rw[big (by omega)]; exact⟨rfl,rfl⟩
   ·have h3':=of_decide_eq_false h3
    have hV : iz t = match jT (mA t) 0 t.nodes.length with
      | some k=>((t.nodes.getD k default).name,mA t k)
      | none=>match jT (oz t) 0 t.au.length with
       | some k=>((t.au.getD k default).name,oz t k)
       | none=>(⟨#[]⟩,0):=by unfold iz; rw[if_neg hN,if_neg (by omega)]; try rfl
    clear big; refine bH (σ:=Nat) (λx=>(ct (ct fA 1 (.ptr 1 0)) 4 (.p (.val (.int .i64 x)))))
     (λx=>(bl b8 1 (.box [.p (.aU (t.nodes.map aJ)),.p (.aU (t.au.map aK))])))
     (λx=>x<=t.nodes.length/\∀j,j<x->mA t j=0) (λx=>t.nodes.length - x) 0 ⟨Nat.zero_le _,λj hj=>absurd hj (Nat.not_lt_zero j)⟩ bR ?_
    rintro x ⟨hx,hq⟩; simp -implicitDefEqProofs only[go_sem,aF]; refine aL (λhc=>?_) (λhc=>?_)
    ·have hlt:x<t.nodes.length:=by simpa using hc
     simp -implicitDefEqProofs only[go_sem,aF,getD_map aJ hlt,hlt,aJ]; refine aY (avt t hf x hlt (aeS hq)) (by simp -implicitDefEqProofs only[go_sem,aF,getD_map aJ hlt,hlt,aJ]<;>rfl) (bY rfl) ?_; simp -implicitDefEqProofs only[go_sem,aF,getD_map aJ hlt,hlt,aJ]; refine aX (λh4=>?_) (λh4=>?_)<;>simp -implicitDefEqProofs only[go_sem,aF,getD_map aJ hlt,hlt,aJ]
     ·have yw:=of_decide_eq_true h4; exact bJ (x+1) ⟨hlt,all_succ hq yw⟩ (by omega) (by rw[bq hlt (by omega)]; exact bR)
     ·have yw:=of_decide_eq_false h4; rw[hV,lC (Nat.zero_le _) hlt (λj _=>hq j) yw]; exact⟨rfl,rfl⟩
    ·have hge:t.nodes.length<=x:=by simpa using hc
     have hN0:jT (mA t) 0 t.nodes.length=none:=gZ λj _ hj=>hq j (by omega)
     rw[hN0] at hV; simp only[] at hV; simp -implicitDefEqProofs only[go_sem,aF]; refine bH (σ:=Nat) (λx=>(ct (ct fA 1 (.ptr 1 0)) 6 (.p (.val (.int .i64 x)))))
      (λx=>(bl b8 1 (.box [.p (.aU (t.nodes.map aJ)),.p (.aU (t.au.map aK))])))
      (λx=>x<=t.au.length/\∀j,j<x->oz t j=0) (λx=>t.au.length - x) 0 ⟨Nat.zero_le _,λj hj=>absurd hj (Nat.not_lt_zero j)⟩ bR ?_
     rintro y ⟨hy,hq'⟩; simp -implicitDefEqProofs only[go_sem,aF]; refine aL (λpN=>?_) (λpN=>?_)
     ·have hlt:y<t.au.length:=by simpa using pN
      simp -implicitDefEqProofs only[go_sem,aF,getD_map aK hlt,hlt,aK]; refine aY (avw t hf y hlt) (by simp -implicitDefEqProofs only[go_sem,aF,getD_map aK hlt,hlt,aK]<;>rfl) (bY rfl) ?_; simp -implicitDefEqProofs only[go_sem,aF,getD_map aK hlt,hlt,aK]; refine aX (λh4=>?_) (λh4=>?_)<;>simp -implicitDefEqProofs only[go_sem,aF,getD_map aK hlt,hlt,aK]
      ·have yw:=of_decide_eq_true h4; exact bJ (y+1) ⟨hlt,all_succ hq' yw⟩ (by omega) (by rw[bq hlt (by omega)]; exact bR)
      ·have yw:=of_decide_eq_false h4; rw[hV,lC (Nat.zero_le _) hlt (λj _=>hq' j) yw]; exact⟨rfl,rfl⟩
     ·have hge:t.au.length<=y:=by simpa using pN
      simp -implicitDefEqProofs only[go_sem,aF]; rw[hV,gZ λj _ hj=>hq' j (by omega)]; exact⟨rfl,rfl⟩
end Go.Proofs.YtllicmcihlfajaaGreat
namespace Go.Proofs.YtllicmcihlfajaaGreat
open Go.cE
theorem uv {f:Nat->Int} {s n k:Nat} (h:jT f s n=some k):f k≠0:=by unfold jT at h; have:=List.find?_some h; simpa using this
theorem v8 {f:Nat->Int} {n:Nat} (h:jT f 0 n=none):∀j,j<n->f j=0:=by intro j hj; unfold jT at h; rw[List.find?_eq_none] at h; have:=h j (by rw[List.mem_range'_1]; omega); simpa using this
structure OkT (t:Types):Prop where
 few:ga t
 pos:0<t.nodes.length
 n12:t.nodes.length<=12
 m20:t.au.length<=20
 node:∀j,j<t.nodes.length->mA t j=0
 je:∀j,j<t.au.length->oz t j=0
theorem zd {t:Types} (hf:ga t) (h:(iz t).2=0):OkT t:=by
 unfold iz at h; split at h
 ·cases h
 ·split at h
  ·cases h
  ·split at h
   ·rename_i hk; exact absurd h (uv hk)
   ·split at h
    ·rename_i hk; exact absurd h (uv hk)
    ·rename_i h1 h2 _ h3 _ h4; exact⟨hf,by omega,by omega,by omega,v8 h3,v8 h4⟩
theorem OkT.par {t:Types} (h:OkT t):qj t t.nodes.length:=aeS h.node
theorem OkT.par' {t:Types} (h:OkT t) {a:Nat} (ha:a<t.nodes.length):qj t (a+1):=λj hj=>h.par j (by omega)
theorem OkT.ends {t:Types} (h:OkT t) {i:Nat} (hi:i<t.au.length):inB t (t.au.getD i default).src=true/\inB t (t.au.getD i default).dst=true:=by
 have:=h.je i hi; unfold oz at this; split at this
 ·cases this
 ·split at this
  ·cases this
  ·split at this
   ·rename_i h1; simp only[Bool.and_eq_true] at h1; exact h1.1
   ·cases this
theorem abH {t:Types} {n:Int} : inB t n=true↔0<=n/\n<t.nodes.length:=by unfold inB; simp only[Bool.and_eq_true,decide_eq_true_eq]
def upK (t:Types):Nat->Int->List Int
 | 0,_=>[]
 | k+1,a=>if a<0 then [] else a :: upK t k (t.nodes.getD a.toNat default).parent
def upL (t:Types) (a:Int):List Int:=upK t (a.toNat+1) a
def isB (t:Types) (a b:Int):Bool:=(upL t a).any λx=>decide (x=b)
theorem aih {t:Types} {a:Int} (h:a<0):upL t a=[]:=by unfold upL upK; rw[if_pos h]
theorem akm {t:Types} : ∀ (k k':Nat) (a:Int),(∀j:Nat,(j:Int)<=a->-1<=(t.nodes.getD j default).parent/\(t.nodes.getD j default).parent<j)->a<k->a<k'->0<k->0<k'->upK t k a=upK t k' a
 | 0,_,_,_,_,_,h,_=>by omega
 | _+1,0,_,_,_,_,_,h=>by omega
 | k+1,k'+1,a,hp,h,h',_,_=>by
  unfold upK; split
  ·rfl
  ·rename_i h0; have hq:=hp a.toNat (by omega); congr 1; cases k with
   | zero =>
    cases k' with
    | zero=>rfl
    | succ k' =>
     have:(t.nodes.getD a.toNat default).parent<0:=by omega
     unfold upK; rw[if_pos this]
   | succ k =>
    cases k' with
    | zero =>
     have:(t.nodes.getD a.toNat default).parent<0:=by omega
     unfold upK; rw[if_pos this]
    | succ k'=>exact akm (k+1) (k'+1) _ (λj hj=>hp j (by omega)) (by omega) (by omega) (by omega) (by omega)
theorem akn {t:Types} {a:Nat} (hp:qj t (a+1)):upL t a=(a:Int) :: upL t (t.nodes.getD a default).parent:=by
 have hq:=hp a (by omega); have e:upL t a=(a:Int) :: upK t a (t.nodes.getD a default).parent:=by
  unfold upL; rw[Int.toNat_natCast]
  conv=>lhs; unfold upK
  rw[if_neg (by omega),Int.toNat_natCast]
 rw[e]; congr 1; by_cases h0:(t.nodes.getD a default).parent<0
 ·rw[aih h0]; cases a with
  | zero=>rfl
  | succ a=>unfold upK; rw[if_pos h0]
 ·unfold upL; exact akm _ _ _ (λj hj=>hp j (by omega)) (by omega) (by omega) (by omega) (by omega)
theorem aoX {t:Types} {a b:Int} (h:a<0):isB t a b=false:=by unfold isB; rw[aih h]; try rfl
theorem ako {t:Types} {a:Nat} (hp:qj t (a+1)) (b:Int):isB t a b=(decide ((a:Int)=b)||isB t (t.nodes.getD a default).parent b):=by unfold isB; rw[akn hp]; try rfl
def pR (t:Types) (l:List Int):Int:=if (iz t).2≠0 then (iz t).2 else if l.any (λa=>!inB t a)=true then 6 else 0
theorem acN (t:Types) (b:Int) (hb:0<=b) (hf:ga t):∀ (n:Nat) (a:Int),a<n->-1<=a->a<t.nodes.length->qj t t.nodes.length->aS Tryz.prog 154 [aF t,.val (.int .i64 a),.val (.int .i64 b)] (λr=>r = .val (.bool (isB t a b))):=by
 intro n
 induction n with
 | zero =>
  intro a hn ha hl hp; rw[aoX (by omega)]; refine aR [] func154 ?_; rw[ntmps154,results154]; simp -implicitDefEqProofs only[go_sem,aF]; refine cV [.q,.q,.q,.q,.q,.q,.q,.q,.q,.q,.q,.q,.q,.q,.q,.q,.q,.q,.q] (by kernel_rfl) ?_; simp -implicitDefEqProofs only[go_sem]; refine ov (λh1=>?_) (λh1=>?_)<;>simp -implicitDefEqProofs only[go_sem,h1]
  ·have:=of_decide_eq_true h1; omega
  ·refine nJ (λh2=>?_) (λh2=>?_)<;>simp -implicitDefEqProofs only[go_sem,h1,h2]
   have:=of_decide_eq_true h2; omega
 | succ n ih =>
  intro a hn ha hl hp; refine aR [] func154 ?_; rw[ntmps154,results154]; simp -implicitDefEqProofs only[go_sem,aF]; refine cV [.q,.q,.q,.q,.q,.q,.q,.q,.q,.q,.q,.q,.q,.q,.q,.q,.q,.q,.q] (by kernel_rfl) ?_; simp -implicitDefEqProofs only[go_sem,aF]; refine ov (λh1=>?_) (λh1=>?_)<;>simp -implicitDefEqProofs only[go_sem,h1,aF]
  ·have sr:=of_decide_eq_true h1; subst sr; obtain⟨q,rfl⟩:∃q:Nat,a=q:=⟨_,(Int.toNat_of_nonneg hb).symm⟩; rw[ako (λj hj=>hp j (by omega))]; simp
  ·have sr:=of_decide_eq_false h1; refine nJ (λh2=>?_) (λh2=>?_)<;>simp -implicitDefEqProofs only[go_sem,h1,h2,aF]
   ·have h2':=of_decide_eq_true h2; obtain⟨q,rfl⟩:∃q:Nat,a=q:=⟨_,(Int.toNat_of_nonneg h2').symm⟩; have hq:q<t.nodes.length:=by omega
    have hpq:=hp q hq; simp -implicitDefEqProofs only[go_sem,aF,getD_map aJ hq,hq,aJ]; refine jk (ih (t.nodes.getD q default).parent (by omega) hpq.1 (by omega) hp) (by simp -implicitDefEqProofs only[go_sem,aF,getD_map aJ hq,hq,aJ]<;>rfl) (bY rfl) ?_; simp -implicitDefEqProofs only[go_sem,h1,h2,aF,getD_map aJ hq,hq,aJ]; rw[ako (λj hj=>hp j (by omega)),h1,Bool.false_or]
   ·have h2':=of_decide_eq_false h2; rw[aoX (by omega)]
end Go.Proofs.YtllicmcihlfajaaGreat
namespace Go.Proofs.YtllicmcihlfajaaGreat
open Go.cE
theorem arq (t:Types) (n:Int):aS Tryz.prog 261 [.val (.int .i64 n),.dJ [.aU (t.nodes.map aJ),.aU (t.au.map aK)] 0] (λr=>r = .val (.bool (!inB t n))):=by
 refine aR [] func261 ?_; rw[ntmps261,results261]; simp -implicitDefEqProofs only[go_sem]; unfold inB
 repeat' first | done | (refine bO (λh=>?_) (λh=>?_)<;>try simp -implicitDefEqProofs only[go_sem,h]) | (refine bK (λh=>?_) (λh=>?_)<;>try simp -implicitDefEqProofs only[go_sem,h]) | (refine aX (λh=>?_) (λh=>?_)<;>try simp -implicitDefEqProofs only[go_sem,h]) | (refine aL (λh=>?_) (λh=>?_)<;>try simp -implicitDefEqProofs only[go_sem,h])
 all_goals(simp only[decide_eq_true_eq,decide_eq_false_iff_not,Bool.not_eq_true',Bool.not_eq_false'] at *; rw[Bool.eq_iff_iff]; simp only[Bool.not_eq_true',Bool.not_eq_false',Bool.and_eq_true,Bool.or_eq_true,Bool.and_eq_false_iff,Bool.or_eq_false_iff,decide_eq_true_eq,decide_eq_false_iff_not,Bool.false_eq_true,true_iff,iff_true,false_iff,iff_false]; omega)
theorem aeU (t:Types) (hf:ga t) (l:List Int) (hl:l.length<=1000000):aS Tryz.prog 238 [aF t,.aU (l.map encI)] (λr=>r = .val (.int .i64 (pR t l))):=by
 unfold pR; refine aR [] func238 ?_; rw[ntmps238,results238]; simp -implicitDefEqProofs only[go_sem,aF]; refine aY (akj t hf) (by simp -implicitDefEqProofs only[go_sem,aF]<;>rfl) (bY rfl) ?_; simp -implicitDefEqProofs only[go_sem,aF]; refine aX (λh1=>?_) (λh1=>?_)<;>simp -implicitDefEqProofs only[go_sem,aF]
 ·have sr:=of_decide_eq_true h1; rw[if_neg (by rw[sr]; decide)]; refine aY (abD (λa=>!inB t a) l hl _ [] [.dJ [.aU (t.nodes.map aJ),.aU (t.au.map aK)] 0] (λy _=>arq t y)) (by simp -implicitDefEqProofs only[go_sem,aF]<;>rfl) (bY rfl) ?_; simp -implicitDefEqProofs only[go_sem,aF]; refine aL (λh2=>?_) (λh2=>?_)<;>simp -implicitDefEqProofs only[go_sem,aF]
  ·rw[if_pos h2]
  ·rw[if_neg (by rw[h2]; decide)]
 ·have sr:=of_decide_eq_false h1; rw[if_pos sr]
theorem agM (t:Types) (hf:ga t) (a b:Int):aS Tryz.prog 151 [aF t,.val (.int .i64 a),.val (.int .i64 b)] (λr=>r = .val (.int .i64 (pR t [a,b]))):=by
 have hn':=hf.nodes; have hw:IntKind.i64.wrap ((t.nodes.length:Int) - 1)=(t.nodes.length:Int) - 1:=IntWalk.i64_in _ (by omega); have hin:∀n:Int,(decide (0<=n)&&decide (n<=(t.nodes.length:Int) - 1))=inB t n:=λn=>by unfold inB; congr 1; rw[decide_eq_decide]; omega
 unfold pR; refine aR [] func151 ?_; rw[ntmps151,results151]; simp -implicitDefEqProofs only[go_sem,aF]; refine aY (acM t hf) (by simp -implicitDefEqProofs only[go_sem,aF]<;>rfl) (bY rfl) ?_; simp -implicitDefEqProofs only[go_sem,aF]; refine aX (λh1=>?_) (λh1=>?_)<;>simp -implicitDefEqProofs only[go_sem,aF]
 ·have sr:=of_decide_eq_true h1; rw[if_neg (by rw[sr]; decide)]; simp -implicitDefEqProofs only[go_sem,hw,aF]; refine aY (aab a 0 ((t.nodes.length:Int) - 1)) (by simp -implicitDefEqProofs only[go_sem,aF]<;>rfl) (bY rfl) ?_; simp -implicitDefEqProofs only[go_sem,hin,aF]; refine bK (λh2=>?_) (λh2=>?_)<;>simp -implicitDefEqProofs only[go_sem,h2,hw,aF]
  case refine_2=>simp[h2]
  refine aY (aab b 0 ((t.nodes.length:Int) - 1)) (by simp -implicitDefEqProofs only[go_sem,aF]<;>rfl) (bY rfl) ?_; simp -implicitDefEqProofs only[go_sem,hin,aF]; refine aX (λh3=>?_) (λh3=>?_)<;>simp -implicitDefEqProofs only[go_sem,h3,aF]
  all_goals simp[h2,h3]
 ·have sr:=of_decide_eq_false h1; rw[if_pos sr]
theorem ayV (t:Types) (ht:OkT t) (a:Nat) (ha:a<t.nodes.length):aS Tryz.prog 262 [aF t,.val (.int .i64 a)] (λr=>r = .aU ((upL t a).reverse.map encI)):=by
 have hn:=ht.n12; refine aR [] func262 ?_; rw[ntmps262,results262]; simp -implicitDefEqProofs only[go_sem,aF]; refine bH (σ:=Int×List Int×Nat) (λx=>(ct (ct (ct fA 1 (.p (.val (.int .i64 x.1)))) 2 (.ptr 2 0)) 5 (.row 5 x.2.2)))
  (λx=>(bl (bl b8 2 (.box [.p (.aU (t.nodes.map aJ)),.p (.aU (t.au.map aK))])) 5 (.row x.2.2 3 1 (x.2.1.map encI))))
  (λx=>(-1<=x.1/\x.1<t.nodes.length/\x.2.1.length+(x.1+1).toNat<=20)/\x.2.1++upL t x.1=upL t a) (λx=>(x.1+1).toNat) ((a:Int),[],0) ⟨⟨by omega,by omega,by simp; omega⟩,by simp⟩
  ((iQ 5 5 3 1 rfl rfl (by decide)).trans bR) ?_
 rintro⟨c,acc,v⟩ ⟨⟨h1,h2,h3⟩,h4⟩; simp only at h1 h2 h3 h4; simp -implicitDefEqProofs only[go_sem]; refine aL (λhc=>?_) (λhc=>?_)
 ·have pN:=of_decide_eq_true hc; obtain⟨q,rfl⟩:∃q:Nat,c=q:=⟨_,(Int.toNat_of_nonneg pN).symm⟩; have hq:q<t.nodes.length:=by omega
  have hpq:=ht.par q hq; simp -implicitDefEqProofs only[go_sem,getD_map aJ hq,hq,aJ]; refine⟨by omega,?_⟩; rw[akn (ht.par' hq)] at h4; generalize (t.nodes.getD q default).parent=par at hpq h4 ⊢; refine bJ (par,acc++[(q:Int)],v+1) ⟨⟨by dsimp only; omega,by dsimp only; omega,by simp only[List.length_append,List.length_cons,List.length_nil]; omega⟩,?_⟩ (by dsimp only; omega) ?_
  ·rw[<-h4,List.append_assoc]; try rfl
  ·rw[List.map_append]; exact bR
 ·have pN:=of_decide_eq_false hc; rw[aih (by omega),List.append_nil] at h4; subst h4; simp -implicitDefEqProofs only[go_sem]; refine abC (anh (upL t a) (by omega) v) (by simp -implicitDefEqProofs only[go_sem]<;>rfl) (by simp -implicitDefEqProofs only[go_sem]<;>rfl) (by simp -implicitDefEqProofs only[go_sem]<;>rfl) (λh=>by cases h) ?_; simp -implicitDefEqProofs only[go_sem]
theorem ani (t:Types) (ht:OkT t) (a:Nat) (ha:a<t.nodes.length) (b:Int):aS Tryz.prog 239 [aF t,.val (.int .i64 a),.val (.int .i64 b)] (λr=>r = .val (.bool (isB t a b))):=by
 have hl:∀n:Int,-1<=n->n<t.nodes.length->(upL t n).length<=n.toNat+1:=by
  intro n h1 h2; have:∀ (k:Nat) (n:Int),(upK t k n).length<=k:=by
   intro k
   induction k with
   | zero=>intro n; simp[upK]
   | succ k ih =>
    intro n; unfold upK; split
    ·simp
    ·simp only[List.length_cons]; exact Nat.succ_le_succ (ih _)
  exact this _ _
 have hla:=hl a (by omega) (by omega); have hn:=ht.n12; refine aR [] func239 ?_; rw[ntmps239,results239]; simp -implicitDefEqProofs only[go_sem,aF]; refine aY (ayV t ht a ha) (by simp -implicitDefEqProofs only[go_sem]<;>rfl) (yo) ?_; simp -implicitDefEqProofs only[go_sem]; refine aY (ayK ((upL t a).reverse) b (by simp; omega)) (by simp -implicitDefEqProofs only[go_sem]<;>rfl) (bY rfl) ?_; simp -implicitDefEqProofs only[go_sem]; unfold isB; rw[Bool.eq_iff_iff]; simp only[List.any_eq_true,List.mem_reverse,decide_eq_true_eq]; constructor
 ·rintro⟨x,h1,h2⟩; exact⟨x,h1,h2.symm⟩
 ·rintro⟨x,h1,h2⟩; exact⟨x,h1,h2.symm⟩
end Go.Proofs.YtllicmcihlfajaaGreat
namespace Go.Proofs.YtllicmcihlfajaaGreat
open Go.cE
theorem agN {t:Types} {a b:Int} (hf:ga t) (h:pR t [a,b]=0):OkT t/\(0<=a/\a<t.nodes.length)/\(0<=b/\b<t.nodes.length):=by
 unfold pR at h; split at h
 ·rename_i h1; exact absurd h h1
 ·rename_i h1; split at h
  ·cases h
  ·rename_i h2; refine⟨zd hf (Decidable.of_not_not h1),?_⟩; simp only[List.any_cons,List.any_nil,Bool.or_false,Bool.or_eq_true,Bool.not_eq_true',not_or,Bool.not_eq_false] at h2; exact⟨abH.1 h2.1,abH.1 h2.2⟩
def uw (t:Types) (e a b:Int):Bool:=decide (pR t [a,b]=0)&&((decide (0<=e)&&decide (e<t.au.length))&&(isB t a (t.au.getD e.toNat default).src&&isB t b (t.au.getD e.toNat default).dst))
theorem ayW (t:Types) (hf:ga t) (e a b:Int):aS Tryz.prog 199 [aF t,.val (.int .i64 e),.val (.int .i64 a),.val (.int .i64 b)] (λr=>r = .val (.bool (uw t e a b))):=by
 refine aR [] func199 ?_; rw[ntmps199,results199]; simp -implicitDefEqProofs only[go_sem,aF]; refine aY (aeU t hf [a,b] (by simp)) (by simp -implicitDefEqProofs only[go_sem,aF]<;>rfl) (bY rfl) ?_; simp -implicitDefEqProofs only[go_sem,aF]; refine bK (λh1=>?_) (λh1=>?_)<;>simp -implicitDefEqProofs only[go_sem,h1,aF]
 ·have sr:=of_decide_eq_true h1; obtain⟨ht,ha,hb⟩:=agN hf sr; refine bO (λh2=>?_) (λh2=>?_)<;>simp -implicitDefEqProofs only[go_sem,h1,h2,aF]
  ·have h2':=of_decide_eq_true h2; unfold uw; rw[decide_eq_false (show ¬ 0<=e by omega)]; simp
  ·have h2':=of_decide_eq_false h2; refine aL (λh3=>?_) (λh3=>?_)<;>simp -implicitDefEqProofs only[go_sem,h1,h2,h3,aF]
   ·have h3':=of_decide_eq_true h3; unfold uw; rw[decide_eq_false (show ¬ e<t.au.length by omega)]; simp
   ·have h3':=of_decide_eq_false h3; obtain⟨k,rfl⟩:∃k:Nat,e=k:=⟨_,(Int.toNat_of_nonneg (by omega)).symm⟩; obtain⟨x,rfl⟩:∃k:Nat,a=k:=⟨_,(Int.toNat_of_nonneg ha.1).symm⟩; obtain⟨y,rfl⟩:∃k:Nat,b=k:=⟨_,(Int.toNat_of_nonneg hb.1).symm⟩; have hk:k<t.au.length:=by omega
    have e0:uw t k x y=(isB t x (t.au.getD k default).src&&isB t y (t.au.getD k default).dst):=by unfold uw; rw[h1,decide_eq_true (show (0:Int)<=k by omega),decide_eq_true (show (k:Int)<t.au.length by omega)]; simp
    rw[e0]; refine cV [.q,.q,.q,.q,.q,.q,.q,.q,.q,.q,.q,.q,.q,.q,.q,.q,.q,.q,.q,.q,.q] (by kernel_rfl) ?_; simp -implicitDefEqProofs only[go_sem,aF,getD_map aK hk,hk,aK]; refine jk (ani t ht x (by omega) (t.au.getD k default).src) (by simp -implicitDefEqProofs only[go_sem,aF,getD_map aK hk,hk,aK]<;>rfl) (bY rfl) ?_; simp -implicitDefEqProofs only[go_sem,aF,getD_map aK hk,hk,aK]; refine nJ (λh4=>?_) (λh4=>?_)<;>simp -implicitDefEqProofs only[go_sem,h4,aF,getD_map aK hk,hk,aK]
    refine jk (ani t ht y (by omega) (t.au.getD k default).dst) (by simp -implicitDefEqProofs only[go_sem,aF,getD_map aK hk,hk,aK]<;>rfl) (bY rfl) ?_; simp -implicitDefEqProofs only[go_sem,h4,aF,getD_map aK hk,hk,aK]
 ·unfold uw; rw[h1]; try rfl
theorem avx (t:Types) (hf:ga t) (e a b:Int):aS Tryz.prog 97 [aF t,.val (.int .i64 e),.val (.int .i64 a),.val (.int .i64 b)] (λr=>r = .val (.bool (uw t e a b))):=by
 have hm:=hf.au; have hw:IntKind.i64.wrap ((t.au.length:Int) - 1)=(t.au.length:Int) - 1:=IntWalk.i64_in _ (by omega); refine aR [] func97 ?_; rw[ntmps97,results97]; simp -implicitDefEqProofs only[go_sem,aF]; refine aY (agM t hf a b) (by simp -implicitDefEqProofs only[go_sem,aF]<;>rfl) (bY rfl) ?_; simp -implicitDefEqProofs only[go_sem,aF]; refine bK (λh1=>?_) (λh1=>?_)<;>simp -implicitDefEqProofs only[go_sem,h1,aF]
 ·have sr:=of_decide_eq_true h1; obtain⟨ht,ha,hb⟩:=agN hf sr; simp -implicitDefEqProofs only[go_sem,hw,aF]; refine aY (aab e 0 ((t.au.length:Int) - 1)) (by simp -implicitDefEqProofs only[go_sem,aF]<;>rfl) (bY rfl) ?_; simp -implicitDefEqProofs only[go_sem,h1,aF]; refine aX (λh2=>?_) (λh2=>?_)<;>simp -implicitDefEqProofs only[go_sem,h1,h2,aF]
  ·have h2':0<=e/\e<=(t.au.length:Int) - 1:=by simpa only[Bool.and_eq_true,decide_eq_true_eq] using h2
   obtain⟨k,rfl⟩:∃k:Nat,e=k:=⟨_,(Int.toNat_of_nonneg (by omega)).symm⟩; obtain⟨x,rfl⟩:∃k:Nat,a=k:=⟨_,(Int.toNat_of_nonneg ha.1).symm⟩; obtain⟨y,rfl⟩:∃k:Nat,b=k:=⟨_,(Int.toNat_of_nonneg hb.1).symm⟩; have hk:k<t.au.length:=by omega
   have e0:uw t k x y=(isB t x (t.au.getD k default).src&&isB t y (t.au.getD k default).dst):=by unfold uw; rw[h1,decide_eq_true (show (0:Int)<=k by omega),decide_eq_true (show (k:Int)<t.au.length by omega)]; simp
   rw[e0]; have avy:=ht.ends hk; rw[abH,abH] at avy; refine cV [.q,.q,.q,.q,.q,.q,.q,.q,.q,.q,.q,.q,.q,.q,.q,.q,.q,.q,.q,.q,.q] (by kernel_rfl) ?_; simp -implicitDefEqProofs only[go_sem,aF,getD_map aK hk,hk,aK]; refine jk (acN t (t.au.getD k default).src avy.1.1 hf t.nodes.length x (by omega) (by omega) (by omega) ht.par) (by simp -implicitDefEqProofs only[go_sem,aF,getD_map aK hk,hk,aK]<;>rfl) (bY rfl) ?_; simp -implicitDefEqProofs only[go_sem,aF,getD_map aK hk,hk,aK]; refine nJ (λh4=>?_) (λh4=>?_)<;>simp -implicitDefEqProofs only[go_sem,h4,aF,getD_map aK hk,hk,aK]
   refine jk (acN t (t.au.getD k default).dst avy.2.1 hf t.nodes.length y (by omega) (by omega) (by omega) ht.par) (by simp -implicitDefEqProofs only[go_sem,aF,getD_map aK hk,hk,aK]<;>rfl) (bY rfl) ?_; simp -implicitDefEqProofs only[go_sem,h4,aF,getD_map aK hk,hk,aK]
  ·unfold uw; rw[h1]; by_cases h0:0<=e
   ·have:¬ e<t.au.length:=by rw[decide_eq_true h0,Bool.true_and] at h2; have:=of_decide_eq_false h2; omega
    rw[decide_eq_false this]; simp
   ·rw[decide_eq_false h0]; simp
 ·unfold uw; rw[h1]; try rfl
theorem avz {α:Type} [Inhabited α] (f:α->List PV) {l:List α} {x:Nat} (h:x<l.length):(l.take x).map f++[f (l.getD x default)]=(l.take (x+1)).map f:=by rw[nu h,List.map_append]; try rfl
theorem akp (l:List Attr) {x:Nat} (hx:x<l.length):(l.map aV).set x [.val (.string (l.getD x default).name),.val (.int .i64 (l.getD x default).low),.val (.int .i64 (l.getD x default).high),.aU ((l.getD x default).names.map gC)]=l.map aV:=by
 have:[PV.val (.string (l.getD x default).name),.val (.int .i64 (l.getD x default).low),.val (.int .i64 (l.getD x default).high),.aU ((l.getD x default).names.map gC)]=aV (l.getD x default):=rfl; rw[this,<-List.map_set]; congr 1; have h2:l.getD x default=l[x]:=by simp[hx]
 rw[h2]; simp
theorem OkT.valid {t:Types} (ht:OkT t):(iz t).2=0:=by unfold iz; rw[if_neg (by have:=ht.pos; omega),if_neg (by have:=ht.n12; have:=ht.m20; omega),gZ λj _ hj=>ht.node j hj]; simp only[]; rw[gZ λj _ hj=>ht.je j hj]
theorem OkT.given {t:Types} (ht:OkT t) {l:List Int} (hl:∀a∈l,0<=a/\a<t.nodes.length):pR t l=0:=by unfold pR; rw[if_neg (by rw[ht.valid]; decide),if_neg]; simp only[List.any_eq_true,Bool.not_eq_true',not_exists,not_and,Bool.not_eq_false]; exact λa ha=>abH.2 (hl a ha)
theorem agO (t:Types) (ht:OkT t) (a:Nat) (ha:a<t.nodes.length):aS Tryz.prog 237 [aF t,.val (.int .i64 a)] (λr=>r = .dB [.aU ((bp t a).map aV),.val (.int .i64 0)]):=by
 have hlen:=lX ht.few ha (ht.par' ha); have hg:pR t [(a:Int)]=0:=ht.given (by simp; omega); refine aR [] func237 ?_; rw[ntmps237,results237]; simp -implicitDefEqProofs only[go_sem,aF]; refine aY (aeU t ht.few [(a:Int)] (by simp)) (by simp -implicitDefEqProofs only[go_sem]<;>rfl) (bY rfl) ?_; simp -implicitDefEqProofs only[go_sem,hg]; refine vr 18 (aki t ht.few a ha (ht.par' ha)) (by simp -implicitDefEqProofs only[go_sem]<;>rfl) (yp) (by simp -implicitDefEqProofs only[go_sem]) ?_; simp -implicitDefEqProofs only[go_sem]; refine bH (σ:=Nat) (λx=>(ct (ct (ct fA 7 (.row 18 0)) 20 (.p (.val (.int .i64 (bp t a).length)))) 21 (.p (.val (.int .i64 x)))))
  (λx=>(bl b8 18 (.row 0 126 4 ((bp t a).map aV))))
  (λx=>x<=(bp t a).length) (λx=>(bp t a).length - x) 0 (Nat.zero_le _) bR ?_
 rintro x hx; simp -implicitDefEqProofs only[go_sem]; refine aL (λhc=>?_) (λhc=>?_)
 ·have hlt:x<(bp t a).length:=by simpa using hc
  have hA:=ht.few.ayS ha (ht.par' ha) (gM hlt); have hn:=hA.names; simp -implicitDefEqProofs only[go_sem,getD_map aV hlt,hlt,aV,cG]; refine aY ((arp (((bp t a).getD x default).names) (by omega)).toL) (by simp -implicitDefEqProofs only[go_sem,getD_map aV hlt,hlt,aV,cG]<;>rfl) (yo) ?_; simp -implicitDefEqProofs only[go_sem,getD_map aV hlt,hlt,aV,cG]; rw[akp _ hlt]; exact bJ (x+1) hlt (by omega) (by rw[bq hlt (by omega)]; exact bR)
 ·simp -implicitDefEqProofs only[go_sem]
theorem anj (t:Types) (ht:OkT t) (a:Nat) (ha:a<t.nodes.length):aS Tryz.prog 96 [aF t,.val (.int .i64 a)] (λr=>r = .dB [.aU ((bp t a).map aV),.val (.int .i64 0)]):=by
 have hlen:=lX ht.few ha (ht.par' ha); have hg:pR t [(a:Int),(a:Int)]=0:=ht.given (by simp; omega); refine aR [] func96 ?_; rw[ntmps96,results96]; simp -implicitDefEqProofs only[go_sem,aF]; refine aY (agM t ht.few (a:Int) (a:Int)) (by simp -implicitDefEqProofs only[go_sem]<;>rfl) (bY rfl) ?_; simp -implicitDefEqProofs only[go_sem,hg]; refine aY ((agK t ht.few a ha (ht.par' ha)).toL) (by simp -implicitDefEqProofs only[go_sem]<;>rfl) (yo) ?_; simp -implicitDefEqProofs only[go_sem]; refine bH (σ:=Nat) (λx=>(ct (ct (ct fA 7 (.row 7 x)) 8 (.p (.aU ((bp t a).map aV)))) 9 (.p (.val (.int .i64 x)))))
  (λx=>(bl b8 7 (.row x 126 4 (((bp t a).take x).map aV))))
  (λx=>x<=(bp t a).length) (λx=>(bp t a).length - x) 0 (Nat.zero_le _) ((iQ 7 7 126 4 rfl rfl (by decide)).trans bR) ?_
 rintro x hx; simp -implicitDefEqProofs only[go_sem]; refine aL (λhc=>?_) (λhc=>?_)
 ·have hlt:x<(bp t a).length:=by simpa using hc
  have hA:=ht.few.ayS ha (ht.par' ha) (gM hlt); have hn:=hA.names; simp -implicitDefEqProofs only[go_sem,getD_map aV hlt,hlt,aV,cG]; have e:=avz aV hlt; simp only[aV,cG] at e; rw[e]; refine⟨⟨by omega,akl _⟩,by simp; omega,?_⟩; exact bJ (x+1) hlt (by omega) (by rw[bq hlt (by omega)]; exact bR)
 ·have hge:(bp t a).length<=x:=by simpa using hc
  simp -implicitDefEqProofs only[go_sem]; rw[List.take_of_length_le hge]
end Go.Proofs.YtllicmcihlfajaaGreat
namespace Go.Proofs.YtllicmcihlfajaaGreat
open Go.cE
structure ayX (g:dI):Prop where
 nodes:g.nodes.length<=45
 au:g.au.length<=90
structure ars (g:dI):Prop where
 nodes:g.nodes.length<=1000
 au:g.au.length<=1000
theorem ayX.big {g:dI} (h:ayX g):ars g:=⟨by have:=h.nodes; omega,by have:=h.au; omega⟩
def uz (n:Int):Bool:=decide (0<=n)&&decide (n<=99)
def uA (n:Nat) (e:Edge):Bool:=(uz e.type&&(decide (0<=e.src)&&decide (e.src<=(n:Int) - 1)))&&(decide (0<=e.dst)&&decide (e.dst<=(n:Int) - 1))
def qC (g:dI):Int:=if 40<g.nodes.length\/80<g.au.length then 3 else if g.nodes.any (λn=>!uz n)=true then 6 else if g.au.any (λe=>!uA g.nodes.length e)=true then 6 else 0
structure OkG (g:dI):Prop where
 nodes:g.nodes.length<=40
 au:g.au.length<=80
 kind:∀i,i<g.nodes.length->0<=g.nodes.getD i default/\g.nodes.getD i default<=99
 je:∀i,i<g.au.length->(0<=(g.au.getD i default).type/\(g.au.getD i default).type<=99)/\(0<=(g.au.getD i default).src/\(g.au.getD i default).src<g.nodes.length)/\(0<=(g.au.getD i default).dst/\(g.au.getD i default).dst<g.nodes.length)
theorem okG {g:dI} (h:qC g=0):OkG g:=by
 unfold qC at h; split at h
 ·cases h
 ·split at h
  ·cases h
  ·split at h
   ·cases h
   ·rename_i h1 h2 h3; simp only[List.any_eq_true,not_exists,not_and,Bool.not_eq_true',Bool.not_eq_false] at h2 h3; refine⟨by omega,by omega,λi hi=>?_,λi hi=>?_⟩
    ·have:=h2 _ (gM hi); simpa only[uz,Bool.and_eq_true,decide_eq_true_eq] using this
    ·have:=h3 _ (gM hi); simp only[uA,uz,Bool.and_eq_true,decide_eq_true_eq] at this; omega
theorem avA (e:Edge) (n:Nat) (hn:n<=1000):aS Tryz.prog 236 [.agg (bf e),.val (.int .i64 n)] (λr=>r = .val (.bool (uA n e))):=by
 have hw:IntKind.i64.wrap ((n:Int) - 1)=(n:Int) - 1:=IntWalk.i64_in _ (by omega); unfold uA; refine aR [] func236 ?_; rw[ntmps236,results236]; simp -implicitDefEqProofs only[go_sem,bf,hw]; refine aY (za e.type 99) (by simp -implicitDefEqProofs only[go_sem,bf,hw]<;>rfl) (bY rfl) ?_; simp -implicitDefEqProofs only[go_sem,bf,hw]; have hk:(decide (0<=e.type)&&decide (e.type<=99))=uz e.type:=rfl; rw[hk]; refine bK (λh1=>?_) (λh1=>?_)<;>simp -implicitDefEqProofs only[go_sem,h1,bf,hw]
 refine aY (za e.src ((n:Int) - 1)) (by simp -implicitDefEqProofs only[go_sem,bf,hw]<;>rfl) (bY rfl) ?_; simp -implicitDefEqProofs only[go_sem,bf,hw]; generalize (decide (0<=e.src)&&decide (e.src<=(n:Int) - 1))=b1; refine bK (λh2=>?_) (λh2=>?_)<;>simp -implicitDefEqProofs only[go_sem,h2,bf,hw]
 refine aY (za e.dst ((n:Int) - 1)) (by simp -implicitDefEqProofs only[go_sem,bf,hw]<;>rfl) (bY rfl) ?_; simp -implicitDefEqProofs only[go_sem,bf,hw]
theorem ank (n:Int):aS Tryz.prog 232 [.val (.int .i64 n)] (λr=>r = .val (.bool (!uz n))):=by unfold uz; refine aR [] func232 ?_; rw[ntmps232,results232]; simp -implicitDefEqProofs only[go_sem]; refine aY (za n 99) (by simp -implicitDefEqProofs only[go_sem]<;>rfl) (bY rfl) ?_; simp -implicitDefEqProofs only[go_sem]
theorem anl (g:dI) (hg:ars g) (e:Edge):aS Tryz.prog 235 [.agg (bf e),.dJ [bh g.nodes,.aU (g.au.map bf)] 0] (λr=>r = .val (.bool (!uA g.nodes.length e))):=by refine aR [] func235 ?_; rw[ntmps235,results235]; simp -implicitDefEqProofs only[go_sem,bf,bh]; refine aY (avA e g.nodes.length hg.nodes) (by simp -implicitDefEqProofs only[go_sem]<;>rfl) (bY rfl) ?_; simp -implicitDefEqProofs only[go_sem]
theorem art (g:dI) (hg:ars g):aS Tryz.prog 197 [eF g] (λr=>r = .val (.int .i64 (qC g))):=by
 have h1:=hg.nodes; have h2:=hg.au; unfold qC; refine aR [] func197 ?_; rw[ntmps197,results197]; simp -implicitDefEqProofs only[go_sem,eF,bh]; refine bO (λh3=>?_) (λh3=>?_)<;>simp -implicitDefEqProofs only[go_sem,h3,eF,bh]
 ·have h3':=of_decide_eq_true h3; rw[if_pos (by omega)]
 ·have h3':=of_decide_eq_false h3; refine aL (λh4=>?_) (λh4=>?_)<;>simp -implicitDefEqProofs only[go_sem,eF,bh]
  ·have yw:=of_decide_eq_true h4; rw[if_pos (by omega)]
  ·have yw:=of_decide_eq_false h4; rw[if_neg (by omega)]; refine aY (abD (λn=>!uz n) g.nodes (by omega) _ [] [] (λy _=>ank y)) (by simp -implicitDefEqProofs only[go_sem,eF,bh]<;>rfl) (bY rfl) ?_; simp -implicitDefEqProofs only[go_sem,eF,bh]; refine aL (λh5=>?_) (λh5=>?_)<;>simp -implicitDefEqProofs only[go_sem,eF,bh]
   ·rw[if_pos h5]
   ·rw[if_neg (by rw[h5]; decide)]; refine aY (af1 (λe=>!uA g.nodes.length e) g.au (by omega) _ [] [.dJ [bh g.nodes,.aU (g.au.map bf)] 0] (λy _=>anl g hg y)) (by simp -implicitDefEqProofs only[go_sem,eF,bh]<;>rfl) (bY rfl) ?_; simp -implicitDefEqProofs only[go_sem,eF,bh]; refine aL (λh6=>?_) (λh6=>?_)<;>simp -implicitDefEqProofs only[go_sem,eF,bh]
    ·rw[if_pos h6]
    ·rw[if_neg (by rw[h6]; decide)]
theorem akq (n:Int):aS Tryz.prog 158 [.val (.int .i64 n)] (λr=>r = .val (.bool (uz n))):=by
 unfold uz; refine aR [] func158 ?_; rw[ntmps158,results158]; simp -implicitDefEqProofs only[go_sem]
 repeat' first | done | (refine bO (λh=>?_) (λh=>?_)<;>try simp -implicitDefEqProofs only[go_sem,h]) | (refine bK (λh=>?_) (λh=>?_)<;>try simp -implicitDefEqProofs only[go_sem,h]) | (refine aX (λh=>?_) (λh=>?_)<;>try simp -implicitDefEqProofs only[go_sem,h]) | (refine aL (λh=>?_) (λh=>?_)<;>try simp -implicitDefEqProofs only[go_sem,h])
theorem aru (e:Edge) (n:Nat):aS Tryz.prog 159 [.agg (bf e),.val (.int .i64 n)] (λr=>r = .val (.bool (uA n e))):=by
 refine aR [] func159 ?_; rw[ntmps159,results159]; simp -implicitDefEqProofs only[go_sem,bf]; refine aY (akq e.type) (by simp -implicitDefEqProofs only[go_sem,bf]<;>rfl) (bY rfl) ?_; simp -implicitDefEqProofs only[go_sem,bf]; refine bK (λh1=>?_) (λh1=>?_)<;>simp -implicitDefEqProofs only[go_sem,h1,bf]
 ·have e0:uA n e=((decide (0<=e.src)&&decide (e.src<=(n:Int) - 1))&&(decide (0<=e.dst)&&decide (e.dst<=(n:Int) - 1))):=by unfold uA; rw[h1,Bool.true_and]
  rw[e0]
  repeat' first | done | (refine bO (λh=>?_) (λh=>?_)<;>try simp -implicitDefEqProofs only[go_sem,h,h1,bf]) | (refine bK (λh=>?_) (λh=>?_)<;>try simp -implicitDefEqProofs only[go_sem,h,h1,bf]) | (refine aX (λh=>?_) (λh=>?_)<;>try simp -implicitDefEqProofs only[go_sem,h,h1,bf]) | (refine aL (λh=>?_) (λh=>?_)<;>try simp -implicitDefEqProofs only[go_sem,h,h1,bf])
  all_goals(simp only[decide_eq_true_eq,decide_eq_false_iff_not,Bool.not_eq_true',Bool.not_eq_false'] at *; rw[Bool.eq_iff_iff]; simp only[Bool.not_eq_true',Bool.not_eq_false',Bool.and_eq_true,Bool.or_eq_true,Bool.and_eq_false_iff,Bool.or_eq_false_iff,decide_eq_true_eq,decide_eq_false_iff_not,Bool.false_eq_true,true_iff,iff_true,false_iff,iff_false]; omega)
 ·unfold uA; rw[h1]; try rfl
theorem any_true {α:Type} [Inhabited α] {p:α->Bool} {l:List α} {j:Nat} (hj:j<l.length) (h:p (l.getD j default)=true):l.any p=true:=List.any_eq_true.2 ⟨_,gM hj,h⟩
theorem any_false {α:Type} [Inhabited α] {p:α->Bool} {l:List α} (h:∀j,j<l.length->p (l.getD j default)=false):l.any p=false:=by rw[<-List.take_length (l:=l)]; exact nv (Nat.le_refl _) h
theorem anm (g:dI) (hg:ars g):aS Tryz.prog 100 [eF g] (λr=>r = .val (.int .i64 (qC g))):=by
 have h1:=hg.nodes; have h2:=hg.au; unfold qC; refine aR [] func100 ?_; rw[ntmps100,results100]; simp -implicitDefEqProofs only[go_sem,eF,bh]; refine bO (λh3=>?_) (λh3=>?_)<;>simp -implicitDefEqProofs only[go_sem,h3,eF,bh]
 ·have h3':=of_decide_eq_true h3; rw[if_pos (by omega)]
 ·have h3':=of_decide_eq_false h3; refine aL (λh4=>?_) (λh4=>?_)<;>simp -implicitDefEqProofs only[go_sem,eF,bh]
  ·have yw:=of_decide_eq_true h4; rw[if_pos (by omega)]
  ·have yw:=of_decide_eq_false h4; rw[if_neg (by omega)]; refine bH (σ:=Nat) (λx=>(ct (ct fA 1 (.ptr 1 0)) 3 (.p (.val (.int .i64 x)))))
    (λx=>(bl b8 1 (.box [.p (.aU (g.nodes.map encI)),.p (.aU (g.au.map bf))])))
    (λx=>x<=g.nodes.length/\∀j,j<x->(!uz (g.nodes.getD j default))=false) (λx=>g.nodes.length - x) 0 ⟨Nat.zero_le _,λj hj=>absurd hj (Nat.not_lt_zero j)⟩ bR ?_
   rintro x ⟨hx,hq⟩; simp -implicitDefEqProofs only[go_sem,eF,bh]; refine aL (λhc=>?_) (λhc=>?_)
   ·have hlt:x<g.nodes.length:=by simpa using hc
    simp -implicitDefEqProofs only[go_sem,eF,bh,getD_map encI hlt,hlt,encI]; refine aY (akq (g.nodes.getD x default)) (by simp -implicitDefEqProofs only[go_sem,eF,bh,getD_map encI hlt,hlt,encI]<;>rfl) (bY rfl) ?_; simp -implicitDefEqProofs only[go_sem,eF,bh,getD_map encI hlt,hlt,encI]; refine aX (λh5=>?_) (λh5=>?_)<;>simp -implicitDefEqProofs only[go_sem,eF,bh,getD_map encI hlt,hlt,encI]
    ·exact bJ (x+1) ⟨hlt,sN (p:=λj=>!uz (g.nodes.getD j default)) (λj hj=>by have:=hq j hj; simpa using this) (by rw[h5]; rfl)⟩ (by omega) (by rw[bq hlt (by omega)]; exact bR)
    ·rw[if_pos (any_true (p:=λn=>!uz n) hlt (by rw[h5]; rfl))]
   ·have hge:g.nodes.length<=x:=by simpa using hc
    rw[if_neg (by rw[any_false (p:=λn=>!uz n) λj hj=>hq j (by omega)]; decide)]; simp -implicitDefEqProofs only[go_sem,eF,bh]; refine bH (σ:=Nat) (λx=>(ct (ct fA 1 (.ptr 1 0)) 4 (.p (.val (.int .i64 x)))))
     (λx=>(bl b8 1 (.box [.p (.aU (g.nodes.map encI)),.p (.aU (g.au.map bf))])))
     (λx=>x<=g.au.length/\∀j,j<x->(!uA g.nodes.length (g.au.getD j default))=false) (λx=>g.au.length - x) 0 ⟨Nat.zero_le _,λj hj=>absurd hj (Nat.not_lt_zero j)⟩ bR ?_
    rintro y ⟨hy,hq'⟩; simp -implicitDefEqProofs only[go_sem,eF,bh]; refine aL (λpN=>?_) (λpN=>?_)
    ·have hlt:y<g.au.length:=by simpa using pN
     simp -implicitDefEqProofs only[go_sem,eF,bh,getD_map bf hlt,hlt,bf]; refine cV [.q,.q,.q,.q,.q,.q,.q,.q,.q,.q] (by kernel_rfl) ?_; simp -implicitDefEqProofs only[go_sem,eF,bh,getD_map bf hlt,hlt,bf]; refine jk (aru (g.au.getD y default) g.nodes.length) (by simp -implicitDefEqProofs only[go_sem,eF,bh,getD_map bf hlt,hlt,bf]<;>rfl) (bY rfl) ?_; simp -implicitDefEqProofs only[go_sem,eF,bh,getD_map bf hlt,hlt,bf]; refine aX (λh5=>?_) (λh5=>?_)<;>simp -implicitDefEqProofs only[go_sem,eF,bh,getD_map bf hlt,hlt,bf]
     ·exact bJ (y+1) ⟨hlt,sN (p:=λj=>!uA g.nodes.length (g.au.getD j default)) (λj hj=>by have:=hq' j hj; simpa using this) (by rw[h5]; rfl)⟩ (by omega) (by rw[bq hlt (by omega)]; exact bR)
     ·rw[if_pos (any_true (p:=λe=>!uA g.nodes.length e) hlt (by rw[h5]; rfl))]
    ·have aAE:g.au.length<=y:=by simpa using pN
     rw[if_neg (by rw[any_false (p:=λe=>!uA g.nodes.length e) λj hj=>hq' j (by omega)]; decide)]; simp -implicitDefEqProofs only[go_sem,eF,bh]
end Go.Proofs.YtllicmcihlfajaaGreat
namespace Go.Proofs.YtllicmcihlfajaaGreat
open Go.cE
structure aAF (h:Host):Prop where
 graph:ayX h.graph
 values:h.values.length<=45
 row:∀l∈h.values,l.length<=12
structure tU (h:Host):Prop where
 graph:ars h.graph
 values:h.values.length<=1000
 row:∀l∈h.values,l.length<=1000
theorem aAF.big {h:Host} (hh:aAF h):tU h:=⟨hh.graph.big,by have:=hh.values; omega,λl hl=>by have:=hh.row l hl; omega⟩
def nw (t:Types) (kind:Nat) (values:List Int) (k:Nat):Int:=if values.getD k default<((bp t kind).getD k default).low\/((bp t kind).getD k default).high<values.getD k default then 6 else 0
def oA (t:Types) (kind:Int) (values:List Int):Int :=
 if (t.nodes.length:Int)<=kind then 6
 else if (t.nodes.getD kind.toNat default).abs=true then 13
 else if values.length≠(bp t kind.toNat).length then 20
 else oP (nw t kind.toNat values) 0 values.length
def tj (t:Types) (h:Host) (i:Nat):Int :=
 if (t.au.length:Int)<=(h.graph.au.getD i default).type then 6
 else if uw t (h.graph.au.getD i default).type (h.graph.nodes.getD (h.graph.au.getD i default).src.toNat default) (h.graph.nodes.getD (h.graph.au.getD i default).dst.toNat default)=true then 0 else 13
def j6 (t:Types) (h:Host):Int×Int :=
 if (iz t).2≠0 then (-1,(iz t).2)
 else if qC h.graph≠0 then (-1,qC h.graph)
 else if h.values.length≠h.graph.nodes.length then (-1,20)
 else match jT (λi=>oA t (h.graph.nodes.getD i default) (h.values.getD i default)) 0 h.graph.nodes.length with
  | some k=>((k:Int),oA t (h.graph.nodes.getD k default) (h.values.getD k default))
  | none=>match jT (tj t h) 0 h.graph.au.length with
   | some k=>((k:Int),tj t h k)
   | none=>(-1,0)
theorem avB (t:Types) (ht:OkT t) (kind:Int) (hk:0<=kind) (values:List Int) (hv:values.length<=1000):aS Tryz.prog 198 [aF t,.val (.int .i64 kind),.aU (values.map encI)] (λr=>r = .val (.int .i64 (oA t kind values))):=by
 obtain⟨k,rfl⟩:∃k:Nat,kind=k:=⟨_,(Int.toNat_of_nonneg hk).symm⟩; refine aR [] func198 ?_; rw[ntmps198,results198]; simp -implicitDefEqProofs only[go_sem,aF]; refine aL (λh1=>?_) (λh1=>?_)<;>simp -implicitDefEqProofs only[go_sem,aF]
 ·have sr:=of_decide_eq_true h1; unfold oA; rw[if_pos (by omega)]
 ·have sr:=of_decide_eq_false h1; have qD:k<t.nodes.length:=by omega
  have hlen:=lX ht.few qD (ht.par' qD); have e0:oA t k values=if (t.nodes.getD k default).abs=true then 13 else if values.length≠(bp t k).length then 20 else oP (nw t k values) 0 values.length:=by unfold oA; rw[if_neg (by omega),Int.toNat_natCast]
  rw[e0]; clear e0; simp -implicitDefEqProofs only[go_sem,aF,getD_map aJ qD,qD,aJ]; refine aL (λh2=>?_) (λh2=>?_)<;>simp -implicitDefEqProofs only[go_sem,aF,getD_map aJ qD,qD,aJ]
  ·rw[if_pos h2]
  ·rw[if_neg (by rw[h2]; decide)]; refine aY (agO t ht k qD) (by simp -implicitDefEqProofs only[go_sem,aF,getD_map aJ qD,qD,aJ]<;>rfl) (yo) ?_; simp -implicitDefEqProofs only[go_sem,aF,getD_map aJ qD,qD,aJ]; refine aX (λh3=>?_) (λh3=>?_)<;>simp -implicitDefEqProofs only[go_sem,aF,getD_map aJ qD,qD,aJ]
   ·have h3':=of_decide_eq_true h3; have hvl:values.length=(bp t k).length:=by omega
    rw[if_neg (by omega)]; refine bH (σ:=Nat) (λx=>(ct (ct (ct (ct fA 2 (.p (.aU (values.map encI)))) 33 (.p (.aU ((bp t k).map aV)))) 34 (.p (.val (.int .i64 (bp t k).length)))) 35 (.p (.val (.int .i64 x))))) (λx=>b8)
     (λx=>x<=values.length/\∀j,j<x->nw t k values j=0) (λx=>values.length - x) 0 ⟨Nat.zero_le _,λj hj=>absurd hj (Nat.not_lt_zero j)⟩ bR ?_
    rintro x ⟨hx,hq⟩; simp -implicitDefEqProofs only[go_sem,aF,getD_map aJ qD,qD,aJ]; refine aL (λhc=>?_) (λhc=>?_)
    ·have hlt:x<(bp t k).length:=by simpa using hc
     have jU:x<values.length:=by omega
     simp -implicitDefEqProofs only[go_sem,aF,getD_map aJ qD,qD,aJ,getD_map aV hlt,hlt,aV,cG,getD_map encI jU,jU,encI]; refine cV [.q,.q,.q,.q,.q,.q,.q,.q,.q,.q,.q,.q,.q,.q,.q,.q] (by kernel_rfl) ?_; simp -implicitDefEqProofs only[go_sem,aF,getD_map aJ qD,qD,aJ,getD_map aV hlt,hlt,aV,cG,getD_map encI jU,jU,encI]; have bad:∀p:Prop,nw t k values x=6->p=p->(6:Int)=oP (nw t k values) 0 values.length:=λp e _=>by rw[qB jU hq (by rw[e]; decide),e]
     refine ov (λh4=>?_) (λh4=>?_)<;>simp -implicitDefEqProofs only[go_sem,h4,aF,getD_map aJ qD,qD,aJ,getD_map aV hlt,hlt,aV,cG,getD_map encI jU,jU,encI]
     ·have yw:=of_decide_eq_true h4; exact bad True (by unfold nw; rw[if_pos (.inl yw)]) rfl
     ·have yw:=of_decide_eq_false h4; refine aL (λh5=>?_) (λh5=>?_)<;>simp -implicitDefEqProofs only[go_sem,h5,aF,getD_map aJ qD,qD,aJ,getD_map aV hlt,hlt,aV,cG,getD_map encI jU,jU,encI]
      ·have h5':=of_decide_eq_true h5; exact bad True (by unfold nw; rw[if_pos (.inr h5')]) rfl
      ·have h5':=of_decide_eq_false h5; have e:nw t k values x=0:=by unfold nw; rw[if_neg (by omega)]
       exact bJ (x+1) ⟨jU,all_succ hq e⟩ (by omega) (by rw[bq jU (by omega)]; exact bR)
    ·have hge:(bp t k).length<=x:=by simpa using hc
     simp -implicitDefEqProofs only[go_sem,aF,getD_map aJ qD,qD,aJ]; rw[sx λj hj=>hq j (by omega)]
   ·have h3':=of_decide_eq_false h3; rw[if_pos (by omega)]
theorem arv (t:Types) (ht:OkT t) (kind:Int) (hk:0<=kind) (values:List Int) (hv:values.length<=1000):aS Tryz.prog 101 [aF t,.val (.int .i64 kind),.aU (values.map encI)] (λr=>r = .val (.int .i64 (oA t kind values))):=by
 obtain⟨k,rfl⟩:∃k:Nat,kind=k:=⟨_,(Int.toNat_of_nonneg hk).symm⟩; refine aR [] func101 ?_; rw[ntmps101,results101]; simp -implicitDefEqProofs only[go_sem,aF]; refine aL (λh1=>?_) (λh1=>?_)<;>simp -implicitDefEqProofs only[go_sem,aF]
 ·have sr:=of_decide_eq_true h1; unfold oA; rw[if_pos (by omega)]
 ·have sr:=of_decide_eq_false h1; have qD:k<t.nodes.length:=by omega
  have hlen:=lX ht.few qD (ht.par' qD); have e0:oA t k values=if (t.nodes.getD k default).abs=true then 13 else if values.length≠(bp t k).length then 20 else oP (nw t k values) 0 values.length:=by unfold oA; rw[if_neg (by omega),Int.toNat_natCast]
  rw[e0]; clear e0; simp -implicitDefEqProofs only[go_sem,aF,getD_map aJ qD,qD,aJ]; refine aL (λh2=>?_) (λh2=>?_)<;>simp -implicitDefEqProofs only[go_sem,aF,getD_map aJ qD,qD,aJ]
  ·rw[if_pos h2]
  ·rw[if_neg (by rw[h2]; decide)]; refine aY (anj t ht k qD) (by simp -implicitDefEqProofs only[go_sem,aF,getD_map aJ qD,qD,aJ]<;>rfl) (yo) ?_; simp -implicitDefEqProofs only[go_sem,aF,getD_map aJ qD,qD,aJ]; refine aX (λh3=>?_) (λh3=>?_)<;>simp -implicitDefEqProofs only[go_sem,aF,getD_map aJ qD,qD,aJ]
   ·have h3':=of_decide_eq_true h3; have hvl:values.length=(bp t k).length:=by omega
    rw[if_neg (by omega)]; refine bH (σ:=Nat) (λx=>(ct (ct (ct fA 2 (.p (.aU (values.map encI)))) 7 (.p (.aU ((bp t k).map aV)))) 9 (.p (.val (.int .i64 x))))) (λx=>b8)
     (λx=>x<=values.length/\∀j,j<x->nw t k values j=0) (λx=>values.length - x) 0 ⟨Nat.zero_le _,λj hj=>absurd hj (Nat.not_lt_zero j)⟩ bR ?_
    rintro x ⟨hx,hq⟩; simp -implicitDefEqProofs only[go_sem,aF,getD_map aJ qD,qD,aJ]; refine aL (λhc=>?_) (λhc=>?_)
    ·have hlt:x<(bp t k).length:=by simpa using hc
     have jU:x<values.length:=by omega
     simp -implicitDefEqProofs only[go_sem,aF,getD_map aJ qD,qD,aJ,getD_map aV hlt,hlt,aV,cG,getD_map encI jU,jU,encI]; refine cV [.q,.q,.q,.q,.q,.q,.q,.q,.q,.q,.q,.q,.q,.q,.q,.q,.q,.q,.q,.q,.q,.q] (by kernel_rfl) ?_; simp -implicitDefEqProofs only[go_sem,aF,getD_map aJ qD,qD,aJ,getD_map aV hlt,hlt,aV,cG,getD_map encI jU,jU,encI]; have bad:∀p:Prop,nw t k values x=6->p=p->(6:Int)=oP (nw t k values) 0 values.length:=λp e _=>by rw[qB jU hq (by rw[e]; decide),e]
     refine ov (λh4=>?_) (λh4=>?_)<;>simp -implicitDefEqProofs only[go_sem,h4,aF,getD_map aJ qD,qD,aJ,getD_map aV hlt,hlt,aV,cG,getD_map encI jU,jU,encI]
     ·have yw:=of_decide_eq_true h4; exact bad True (by unfold nw; rw[if_pos (.inl yw)]) rfl
     ·have yw:=of_decide_eq_false h4; refine aL (λh5=>?_) (λh5=>?_)<;>simp -implicitDefEqProofs only[go_sem,h5,aF,getD_map aJ qD,qD,aJ,getD_map aV hlt,hlt,aV,cG,getD_map encI jU,jU,encI]
      ·have h5':=of_decide_eq_true h5; exact bad True (by unfold nw; rw[if_pos (.inr h5')]) rfl
      ·have h5':=of_decide_eq_false h5; have e:nw t k values x=0:=by unfold nw; rw[if_neg (by omega)]
       exact bJ (x+1) ⟨jU,all_succ hq e⟩ (by omega) (by rw[bq jU (by omega)]; exact bR)
    ·have hge:(bp t k).length<=x:=by simpa using hc
     simp -implicitDefEqProofs only[go_sem,aF,getD_map aJ qD,qD,aJ]; rw[sx λj hj=>hq j (by omega)]
   ·have h3':=of_decide_eq_false h3; rw[if_pos (by omega)]
end Go.Proofs.YtllicmcihlfajaaGreat
