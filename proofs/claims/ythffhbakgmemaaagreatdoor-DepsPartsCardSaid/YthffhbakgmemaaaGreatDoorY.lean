/- Part of parts_said. -/
import Derived.Test.YthffhbakgmemaaaGreatDoorD
import Derived.Test.YthffhbakgmemaaaGreatDoorCards
import Derived.Test.YthffhbakgmemaaaGreatDoorTie
import Derived.Test.YthffhbakgmemaaaGreatDoorX
set_option maxRecDepth 100000
set_option maxHeartbeats 8000000
namespace Go.Proofs.YthffhbakgmemaaaGreatDoor
open Go Go.aG Go.ChangeShapes Go.WideShapes Go.ChangeAt Go.RowKit
theorem own:ownKnob Tryz.prog.godebug=none:=az5
theorem acz(H:Type):CZ (H:=H) Rows.uptoBulk where
 str s:=by simp[Rows.uptoBulk]
 slice es sp:=by
  have a:∀l:List (DataW H),l.length<=Rows.uptoBulkAll l/\∀x,x∈l->Rows.uptoBulk x<=Rows.uptoBulkAll l:=by
   intro l;induction l with
   |nil=>exact⟨az7,az7⟩
   |cons y l ih=>
    have h1:1<=Rows.uptoBulk y:=by cases y<;>(try rename_i q;cases q)<;>simp[Rows.uptoBulk]
    refine⟨by simp only[aCU,Rows.uptoBulkAll];omega,λx ai=> ?_⟩;simp only[Rows.uptoBulkAll];rcases aCJ.1 ai with rfl|ai
    .omega
    .have:=ih.2 x ai;omega
  obtain⟨h1,c⟩:=a es;simp only[Rows.uptoBulk];exact⟨az6,λx ai=>by have:=c x ai;omega⟩
 agg ps x ai:=by
  have a:∀l:List (DataW H),∀x,x∈l->Rows.uptoBulk x<=Rows.uptoBulkAll l:=by
   intro l;induction l with
   |nil=>simp
   |cons y l ih=>
    intro x ai;simp only[Rows.uptoBulkAll];rcases aCJ.1 ai with rfl|ai
    .omega
    .have:=ih x ai;omega
  have:=a ps x ai;simp only[Rows.uptoBulk];omega
def lY:List (Bool×List iI):=[(false,[.str]),(false,[.list true [.str,.int .i64]])]
theorem aon:Tryz.f4.params.toList.mapM (oC Tryz.prog 20)=some lY:=az5
noncomputable def low:Nat:=(World.holding Tryz.prog default ⟨#[],#[],[]⟩).heap.size
noncomputable def MT(os:Os):World:=
 let w0:=World.holding Tryz.prog os ⟨#[.cells #[.string ⟨#[118,97,108,117,101,32,111,117,116,32,111,102,32,114,97,110,103,101]⟩] 376 (0,0),.cells #[.string ⟨#[105,110,118,97,108,105,100,32,115,121,110,116,97,120]⟩] 376 (0,0),.map (amA Rows.laid_bywash_show_ranks) 1000],#[],[]⟩
 {w0 with heap:=(qm (qm (qm (qm (qm (qm (qm (qm (qm (qm (qm (qm w0.heap 0 (ql Rows.laid_bywash_lex_signs)) 1 (ql Rows.laid_bywash_relop_needs)) 2 (ql Rows.laid_bywash_cron_bounds)) 3 [.iface 374 (.pointer (some ⟨low+1,0,none⟩))]) 4 [.iface 374 (.pointer (some ⟨low+0,0,none⟩))]) 6 [.map (some (low+2))]) 7 (ql Rows.laid_bywash_calendar_lengths)) 8 (ql Rows.laid_internal_strconv_uint64pow10)) 9 (ql Rows.laid_unicode_utf8_first)) 10 (ql Rows.laid_unicode_utf8_acceptRanges)) 11 (ql Rows.laid_math_bits_deBruijn32tab)) 12 (ql Rows.laid_math_bits_deBruijn64tab))}
noncomputable def Hf:Array Value:= #[.string ⟨#[]⟩,.slice none 0 0]
theorem aoo(os:Os):laidMet Tryz.prog Rows.depsPartsRow.laid ((MT os).forCall (λ_ _=>0) ⟨#[],Hf,[]⟩).memory:=
 laidMet_of_run3 8 az5 az5 az5
theorem aop(os:Os){H:Type}(enc:TypeId×Value->H):∃a,DataW.whole enc Tryz.prog ((MT os).forCall (λ_ _=>0) ⟨#[],Hf,[]⟩).memory Tryz.f4.params.toList Rows.depsPartsSpec.vars false Hf.toList 8=some ([.lit (.string []),.nil],[],a):=
 ⟨[],az5⟩
theorem two{H:Type}{enc:TypeId×Value->H}{W:World}{args:Array Value}{c j:List (DataW H)}{g:List MemPlace}(k:DataW.Whole enc Tryz.prog Tryz.f4.params.toList Rows.depsPartsSpec.vars false W args.toList c j g):c.length=2:=by
 obtain⟨d,l,f,_⟩:=k;have a:DataW.TrodAll enc Tryz.prog W 0 (λ_=>true) true Tryz.f4.params.toList args.toList c d:=f;rw[Tryz.params4]at a;obtain⟨t,m,d0,n,s,p,_,rfl,_,bB,a⟩:=trodAll_cons a;obtain⟨u,r,o,acA,d,l,_,rfl,_,h1,a⟩:=trodAll_cons a;obtain⟨_,rfl,_⟩:=trodAll_nil a;rfl
theorem contract(u:∀N g,uQ N lY g->bD Tryz.prog gl 4 g [] (.d (.bool true)) [])(H:Type)(enc:TypeId×Value->H)(W:World)(base:Nat)(args:Array Value)(a c:List (DataW H))(k:List MemPlace)
  (r:∀(j:Nat) t v,Tryz.f4.params[j]?=some t->args[j]?=some v->Value.okWide Tryz.prog W .any base t v)
  (f:DataW.Whole enc Tryz.prog Tryz.f4.params.toList Rows.depsPartsSpec.vars false W args.toList a c k) (l:laidMetH Tryz.prog Rows.depsPartsRow.laid W):
  Calls Tryz.prog 4 args W λe dH=>∃v,e=.returned v/\Rows.depsPartsSpec.post enc Tryz.prog Tryz.f4 false true false false W args v dH:=by
 have o:=two f;refine alI (acz H) (N:=Rows.uptoBulk (.agg a)) (n:=20) (tb:=4) (gl:=gl) rfl (λ_=> ?_) az5 az5 laidOut az5 aon (globals l) r f (λd h=>(acz H).agg a d h) (u _);have m:c=[]:=by
  obtain⟨p,q,_,s,_⟩:=f;exact(trodVars_none (show DataW.TrodVars enc Tryz.prog W (λ_=>true) [] c q from s)).1
 subst m;match a,o with
 |[d0,d1],_=>rfl
theorem lifted(t:∀N a,uQ N lY a->bD Tryz.prog gl 4 a [] (.d (.bool true)) [])(os:Os)(r:os.Started)(H:Type)(enc:TypeId×Value->H)(F:Stop.Interp):
  ReturnsInHanded {} Tryz.checked os 4 .any ((OpenSpec.ofChange Rows.depsPartsSpec).preRow enc Tryz.prog Tryz.f4 Rows.depsPartsRow.domain false Rows.depsPartsRow.laid) (((OpenSpec.ofChange Rows.depsPartsSpec).at F).post enc Tryz.prog Tryz.f4 false true false false):=by
 obtain⟨u,c⟩:=aop os enc;refine returnsInHanded_of_row (C:=Tryz.checked) (s:=OpenSpec.ofChange Rows.depsPartsSpec) own r az5 Tryz.func4
  (witness_row_at (enc:=enc) (C:=Tryz.checked) false (MT os) Hf rfl az5 az5 az5
   (OpenSpec.preRow_of_cond 8 c az5 (λk n=>by cases n) az5 (aoo os))) ?_
 intro W f d l m g o p _ _ _ j _ _;exact contract t H enc W f d l m g o p j
theorem said(f:∀N a,uQ N lY a->bD Tryz.prog gl 4 a [] (.d (.bool true)) []):Rows.DepsPartsSaid:=
 OpenClaim.holds_of_cond 4 Tryz.f4 rfl rfl rfl rfl rfl rfl rfl ⟨rfl,rfl,rfl,rfl,rfl⟩ rfl rfl rfl rfl rfl az5 Tryz.func4 aoj
  (of_decide_eq_true az5) (by unfold Func.isWrapper;first|(rw[aCT (by decide+kernel)];kernel_rfl)|(rw[aCV (by decide+kernel)];exact⟨rfl,rfl⟩))
  (λos d H c _ F=>by rw[OpenClaim.pre_eq_preRow];exact lifted f os d H c F)
theorem plain(f:FuncId)(c:Func)(g:Tryz.pinned.checked.prog.funcNamed Rows.depsPartsRow.func=some f)(m:Tryz.pinned.checked.prog.funcs[f]?=some c):
  true=Tryz.pinned.checked.prog.looks []/\∀(j:Nat) t,c.params[j]?=some t->Tryz.pinned.checked.prog.wantsStandIn t=false:=by
 obtain rfl:f=4:=aDM ((show Tryz.prog.funcNamed Rows.depsPartsRow.func=some 4 by kernel_rfl).symm.trans g) |>.symm;obtain rfl:c=Tryz.f4:=(aDM (Tryz.func4.symm.trans m)).symm;refine⟨az5,λj t d=> ?_⟩;have k:(Tryz.f4.params.toList.all λt=>!Tryz.prog.wantsStandIn t)=true:=az5
 have:=aCQ.1 k t (by
  have:=aC8 (l:=Tryz.f4.params.toList) (i:=j) (a:=t) (by simpa using d);exact this)
 exact aCX _ |>.mp this
theorem aor(c:∀N a,uQ N lY a->bD Tryz.prog gl 4 a [] (.d (.bool true)) []):Rows.DepsPartsCardSaid:=
 Claim7.holds_tied_plain_at .later [] _ _ _ _ (said c) (λ_ h=>aAb) aok (λ_ h=>aAb) depsParts_row_tie rfl ⟨rfl,rfl⟩ aol rfl plain aom
end Go.Proofs.YthffhbakgmemaaaGreatDoor
