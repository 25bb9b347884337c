/- Part of many_said. -/
import Derived.Test.YtdfonihgkhbpcaaGreatDoorD
import Derived.Test.YtdfonihgkhbpcaaGreatDoorCards
import Derived.Test.YtdfonihgkhbpcaaGreatDoorTie
import Derived.Test.YtdfonihgkhbpcaaGreatDoorX
set_option maxRecDepth 100000
set_option maxHeartbeats 8000000
namespace Go.Proofs.YtdfonihgkhbpcaaGreatDoor
open Go Go.aG Go.ChangeShapes Go.WideShapes Go.ChangeAt Go.RowKit
theorem own:ownKnob Tryz.prog.godebug=none:=az5
theorem acz(H:Type):CZ (H:=H) Rows.uptoBulk where
 str s:=by simp[Rows.uptoBulk]
 slice es sp:=by
  have a:∀l:List (DataW H),l.length<=Rows.uptoBulkAll l/\∀x,x∈l->Rows.uptoBulk x<=Rows.uptoBulkAll l:=by
   intro l;induction l with
   |nil=>exact⟨az7,az7⟩
   |cons y l ih=>
    have c:1<=Rows.uptoBulk y:=by cases y<;>(try rename_i q;cases q)<;>simp[Rows.uptoBulk]
    refine⟨by simp only[aCU,Rows.uptoBulkAll];omega,λx ai=> ?_⟩;simp only[Rows.uptoBulkAll];rcases aCJ.1 ai with rfl|ai
    .omega
    .have:=ih.2 x ai;omega
  obtain⟨c,b⟩:=a es;simp only[Rows.uptoBulk];exact⟨az6,λx ai=>by have:=b x ai;omega⟩
 agg d x ai:=by
  have a:∀l:List (DataW H),∀x,x∈l->Rows.uptoBulk x<=Rows.uptoBulkAll l:=by
   intro l;induction l with
   |nil=>simp
   |cons y l ih=>
    intro x ai;simp only[Rows.uptoBulkAll];rcases aCJ.1 ai with rfl|ai
    .omega
    .have:=ih x ai;omega
  have:=a d x ai;simp only[Rows.uptoBulk];omega
def lY:List (Bool×List iI):=[(false,[.int .i64]),(false,[.bool])]
theorem aon:Tryz.f3.params.toList.mapM (oC Tryz.prog 20)=some lY:=az5
noncomputable def low:Nat:=(World.holding Tryz.prog default ⟨#[],#[],[]⟩).heap.size
noncomputable def MT(os:Os):World:=
 let w0:=World.holding Tryz.prog os ⟨#[.cells #[.string ⟨#[118,97,108,117,101,32,111,117,116,32,111,102,32,114,97,110,103,101]⟩] 323 (0,0),.cells #[.string ⟨#[105,110,118,97,108,105,100,32,115,121,110,116,97,120]⟩] 323 (0,0),.map (amA Rows.laid_bywash_show_ranks) 1000],#[],[]⟩
 {w0 with heap:=(qm (qm (qm (qm (qm (qm (qm (qm (qm (qm (qm (qm (qm w0.heap 0 (ql Rows.laid_bywash_schema_words)) 1 (ql Rows.laid_bywash_lex_signs)) 2 (ql Rows.laid_bywash_relop_needs)) 3 (ql Rows.laid_bywash_cron_bounds)) 5 [.iface 321 (.pointer (some ⟨low+1,0,none⟩))]) 6 [.iface 321 (.pointer (some ⟨low+0,0,none⟩))]) 7 [.map (some (low+2))]) 8 (ql Rows.laid_internal_strconv_uint64pow10)) 9 (ql Rows.laid_unicode_utf8_first)) 10 (ql Rows.laid_unicode_utf8_acceptRanges)) 11 (ql Rows.laid_bywash_calendar_lengths)) 12 (ql Rows.laid_math_bits_deBruijn32tab)) 13 (ql Rows.laid_math_bits_deBruijn64tab))}
noncomputable def Hf:Array Value:= #[.int .i64 0,.bool false]
theorem aoo(os:Os):laidMet Tryz.prog Rows.checkManyRow.laid ((MT os).forCall (λ_ _=>0) ⟨#[],Hf,[]⟩).memory:=
 laidMet_of_run3 8 az5 az5 az5
theorem aop(os:Os){H:Type}(enc:TypeId×Value->H):∃a,DataW.whole enc Tryz.prog ((MT os).forCall (λ_ _=>0) ⟨#[],Hf,[]⟩).memory Tryz.f3.params.toList Rows.checkManySpec.vars false Hf.toList 8=some ([.lit (.int .i64 0),.lit (.bool false)],[],a):=
 ⟨[],az5⟩
theorem aJG{H:Type}{enc:TypeId×Value->H}{W:World}{args:Array Value}{c n:List (DataW H)}{j:List MemPlace}(p:DataW.Whole enc Tryz.prog Tryz.f3.params.toList Rows.checkManySpec.vars false W args.toList c n j):
  c.length=2/\∀d,d∈c->Rows.uptoBulk d<=9223372036854775808:=by
 obtain⟨f,q,g,_⟩:=p;have a:DataW.TrodAll enc Tryz.prog W 0 (λ_=>true) true Tryz.f3.params.toList args.toList c f:=g;rw[Tryz.params3]at a;obtain⟨z,s,u,t,y,w,_,rfl,_,i,a⟩:=trodAll_cons a;obtain⟨A,x,v,r,f,q,_,rfl,_,o,a⟩:=trodAll_cons a;obtain⟨_,rfl,_⟩:=trodAll_nil a;refine⟨rfl,λd e=> ?_⟩;simp only[aCJ,List.mem_nil_iff,aDW]at e;rcases e with rfl|rfl
 .obtain⟨l,h⟩:=i;obtain⟨m,_,b,_⟩:=DataW.trod_int (P:=Tryz.prog) (k:=.i64) az5 h;simp only[aC6]at b;rw[b.1];simp[Rows.uptoBulk]
 .obtain⟨l,h⟩:=o;obtain⟨m,_,b⟩:=DataW.trod_bool (P:=Tryz.prog) az5 h;simp only[aC6]at b;rw[b.1];simp[Rows.uptoBulk]
theorem contract(r:∀c,uQ 9223372036854775808 lY c->bD Tryz.prog gl 3 c [] (.d (.bool true)) [])(H:Type)(enc:TypeId×Value->H)(W:World)(base:Nat)(args:Array Value)(d a:List (DataW H))(f:List MemPlace)
  (m:∀(j:Nat) t v,Tryz.f3.params[j]?=some t->args[j]?=some v->Value.okWide Tryz.prog W .any base t v)
  (b:DataW.Whole enc Tryz.prog Tryz.f3.params.toList Rows.checkManySpec.vars false W args.toList d a f) (g:laidMetH Tryz.prog Rows.checkManyRow.laid W):
  Calls Tryz.prog 3 args W λe h=>∃v,e=.returned v/\Rows.checkManySpec.post enc Tryz.prog Tryz.f3 false true false false W args v h:=by
 obtain⟨l,i⟩:=aJG b;refine alI (acz H) (N:=9223372036854775808) (n:=20) (tb:=4) (gl:=gl) rfl (λ_=> ?_) az5 az5 laidOut az5 aon (globals g) m b i r;have k:a=[]:=by
  obtain⟨p,q,_,o,_⟩:=b;exact(trodVars_none (show DataW.TrodVars enc Tryz.prog W (λ_=>true) [] a q from o)).1
 subst k;match d,l with
 |[d0,d1],_=>rfl
theorem lifted(n:∀a,uQ 9223372036854775808 lY a->bD Tryz.prog gl 3 a [] (.d (.bool true)) [])(os:Os)(m:os.Started)(H:Type)(enc:TypeId×Value->H)(F:Stop.Interp):
  ReturnsInHanded {} Tryz.checked os 3 .any ((OpenSpec.ofChange Rows.checkManySpec).preRow enc Tryz.prog Tryz.f3 Rows.checkManyRow.domain false Rows.checkManyRow.laid) (((OpenSpec.ofChange Rows.checkManySpec).at F).post enc Tryz.prog Tryz.f3 false true false false):=by
 obtain⟨o,b⟩:=aop os enc;refine returnsInHanded_of_row (C:=Tryz.checked) (s:=OpenSpec.ofChange Rows.checkManySpec) own m az5 Tryz.func3
  (witness_row_at (enc:=enc) (C:=Tryz.checked) false (MT os) Hf rfl az5 az5 az5
   (OpenSpec.preRow_of_cond 8 b az5 (λk l=>by cases l) az5 (aoo os))) ?_
 intro W d c g h e i j _ _ _ f _ _;exact contract n H enc W d c g h e i j f
theorem said(e:∀a,uQ 9223372036854775808 lY a->bD Tryz.prog gl 3 a [] (.d (.bool true)) []):Rows.CheckManySaid:=
 OpenClaim.holds_of_cond 3 Tryz.f3 rfl rfl rfl rfl rfl rfl rfl ⟨rfl,rfl,rfl,rfl,rfl⟩ rfl rfl rfl rfl rfl az5 Tryz.func3 aoj
  (of_decide_eq_true az5) (by unfold Func.isWrapper;first|(rw[aCT (by decide+kernel)];kernel_rfl)|(rw[aCV (by decide+kernel)];exact⟨rfl,rfl⟩))
  (λc d H b _ F=>by rw[OpenClaim.pre_eq_preRow];exact lifted e c d H b F)
theorem plain(f:FuncId)(b:Func)(d:Tryz.pinned.checked.prog.funcNamed Rows.checkManyRow.func=some f)(g:Tryz.pinned.checked.prog.funcs[f]?=some b):
  true=Tryz.pinned.checked.prog.looks []/\∀(j:Nat) t,b.params[j]?=some t->Tryz.pinned.checked.prog.wantsStandIn t=false:=by
 obtain rfl:f=3:=aDM ((show Tryz.prog.funcNamed Rows.checkManyRow.func=some 3 by kernel_rfl).symm.trans d) |>.symm;obtain rfl:b=Tryz.f3:=(aDM (Tryz.func3.symm.trans g)).symm;refine⟨az5,λj t c=> ?_⟩;have e:(Tryz.f3.params.toList.all λt=>!Tryz.prog.wantsStandIn t)=true:=az5
 have:=aCQ.1 e t (by
  have:=aC8 (l:=Tryz.f3.params.toList) (i:=j) (a:=t) (by simpa using c);exact this)
 exact aCX _ |>.mp this
theorem aor(b:∀a,uQ 9223372036854775808 lY a->bD Tryz.prog gl 3 a [] (.d (.bool true)) []):Rows.CheckManyCardSaid:=
 Claim7.holds_tied_plain_at .later [] _ _ _ _ (said b) (λ_ h=>aAb) aok (λ_ h=>aAb) checkMany_row_tie rfl ⟨rfl,rfl⟩ aol rfl plain aom
end Go.Proofs.YtdfonihgkhbpcaaGreatDoor
