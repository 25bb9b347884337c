/- Part of ranges_said. -/
import Derived.Test.YthffhbakgmemaaaGreatDoorD
import Derived.Test.YthffhbakgmemaaaGreatDoorCards
import Derived.Test.YthffhbakgmemaaaGreatDoorTie
import Derived.Test.YthffhbakgmemaaaGreatDoorX
set_option maxRecDepth 100000
set_option maxHeartbeats 8000000
namespace Go.Proofs.YthffhbakgmemaaaGreatDoor
open Go Go.aH Go.ChangeShapes Go.WideShapes Go.ChangeAt Go.RowKit
theorem own:ownKnob Tryz.prog.godebug=none:=axV
theorem am5(H:Type):Cn (H:=H) Rows.uptoBulk where
 str s:=by simp[Rows.uptoBulk]
 slice es sp:=by
  have key:∀l:List (DataW H),l.length<=Rows.uptoBulkAll l/\∀x,x∈l->Rows.uptoBulk x<=Rows.uptoBulkAll l:=by
   intro l;induction l with
   |nil=>exact⟨axX,axX⟩
   |cons y l ih=>
    have h1:1<=Rows.uptoBulk y:=by cases y<;>(try rename_i q;cases q)<;>simp[Rows.uptoBulk]
    refine⟨by simp only[aAu,Rows.uptoBulkAll];omega,λx ak=> ?_⟩;simp only[Rows.uptoBulkAll];rcases aAs.1 ak with rfl|ak
    .omega
    .have:=ih.2 x ak;omega
  obtain⟨h1,sh⟩:=key es;simp only[Rows.uptoBulk];exact⟨axW,λx ak=>by have:=sh x ak;omega⟩
 agg ps x ak:=by
  have key:∀l:List (DataW H),∀x,x∈l->Rows.uptoBulk x<=Rows.uptoBulkAll l:=by
   intro l;induction l with
   |nil=>simp
   |cons y l ih=>
    intro x ak;simp only[Rows.uptoBulkAll];rcases aAs.1 ak with rfl|ak
    .omega
    .have:=ih x ak;omega
  have:=key ps x ak;simp only[Rows.uptoBulk];omega
def l8:List (Bool×List iq):=[(false,[.str]),(false,[.str]),(true,[.int .i64,.int .i64])]
theorem am6:Tryz.f3.params.toList.mapM (od Tryz.prog 20)=some l8:=axV
noncomputable def low:Nat:=(World.holding Tryz.prog default ⟨#[],#[],[]⟩).heap.size
noncomputable def LY(os:Os):World:=
 let w0:=World.holding Tryz.prog os ⟨#[.cells #[.string ⟨#[118,97,108,117,101,32,111,117,116,32,111,102,32,114,97,110,103,101]⟩] 376 (0,0),.cells #[.string ⟨#[105,110,118,97,108,105,100,32,115,121,110,116,97,120]⟩] 376 (0,0),.map (ak8 Rows.laid_bywash_show_ranks) 1000],#[],[]⟩
 {w0 with heap:=(oX (oX (oX (oX (oX (oX (oX (oX (oX (oX (oX (oX w0.heap 0 (oW Rows.laid_bywash_lex_signs)) 1 (oW Rows.laid_bywash_relop_needs)) 2 (oW Rows.laid_bywash_cron_bounds)) 3 [.iface 374 (.pointer (some ⟨low+1,0,none⟩))]) 4 [.iface 374 (.pointer (some ⟨low+0,0,none⟩))]) 6 [.map (some (low+2))]) 7 (oW Rows.laid_bywash_calendar_lengths)) 8 (oW Rows.laid_internal_strconv_uint64pow10)) 9 (oW Rows.laid_unicode_utf8_first)) 10 (oW Rows.laid_unicode_utf8_acceptRanges)) 11 (oW Rows.laid_math_bits_deBruijn32tab)) 12 (oW Rows.laid_math_bits_deBruijn64tab))}
noncomputable def Gh:Array Value:= #[.string ⟨#[]⟩,.string ⟨#[]⟩,.agg #[.int .i64 0,.int .i64 0]]
theorem am7(os:Os):laidMet Tryz.prog Rows.depsRangesRow.laid ((LY os).forCall (λ_ _=>0) ⟨#[],Gh,[]⟩).memory:=
 laidMet_of_run3 8 axV axV axV
theorem am8(os:Os){H:Type}(enc:TypeId×Value->H):∃places,DataW.whole enc Tryz.prog ((LY os).forCall (λ_ _=>0) ⟨#[],Gh,[]⟩).memory Tryz.f3.params.toList Rows.depsRangesSpec.vars false Gh.toList 8=some ([.lit (.string []),.lit (.string []),.agg [.lit (.int .i64 0),.lit (.int .i64 0)]],[],places):=
 ⟨[],axV⟩
noncomputable def JP(i:Nat):Field:=match Tryz.prog.underlying (Tryz.f3.params[2]!)with|some (.struct fs)=>fs[i]!|_=>default
theorem am9{H:Type}{enc:TypeId×Value->H}{W:World}{args:Array Value}{ds gs:List (DataW H)}{before:List MemPlace}(NO:DataW.Whole enc Tryz.prog Tryz.f3.params.toList Rows.depsRangesSpec.vars false W args.toList ds gs before):
  ds.length=3/\∀d,d∈ds->Rows.uptoBulk d<=9223372036854775808:=by
 obtain⟨AN,q1,aGk,_⟩:=NO;have hA:DataW.TrodAll enc Tryz.prog W 0 (λ_=>true) true Tryz.f3.params.toList args.toList ds AN:=aGk;rw[Tryz.params3]at hA;obtain⟨v0,awc,d0,awd,aDj,fG,_,rfl,_,wb,hA⟩:=trodAll_cons hA;obtain⟨v1,pB,d1,ao7,AN,q1,_,rfl,_,h1,hA⟩:=trodAll_cons hA;obtain⟨v2,oN,d2,iN,eb,bF,_,rfl,_,sh,hA⟩:=trodAll_cons hA;obtain⟨_,rfl,_⟩:=trodAll_nil hA;have hs:∀{t v d p},Tryz.prog.underlying t=some .string->(∃fuel,DataW.trod enc Tryz.prog W 0 (λ_=>true) true fuel t v=some (d,p))->Rows.uptoBulk d<=9223372036854775808:=λaE h=>by
  obtain⟨fuel,h⟩:=h;obtain⟨m,_,he,cg⟩:=aC2 (P:=Tryz.prog) aE h;simp only[aAJ]at he;rw[he.1];have hm:m.data.toList.length=m.size:=rfl;unfold maxLen at cg;simp only[Rows.uptoBulk,hm];omega
 refine⟨rfl,λd aY=> ?_⟩;simp only[aAs,aCl,aBo]at aY;rcases aY with rfl|rfl|rfl
 .exact hs axV wb
 .exact hs axV h1
 .obtain⟨fuel,h⟩:=sh;obtain⟨qd,de,n,he,_,g0,g1⟩:=trod_struct2 (P:=Tryz.prog) (f0:=JP 0) (f1:=JP 1) axV h;obtain⟨_,_,b2,_⟩:=DataW.trod_int (P:=Tryz.prog) (k:=.i64) axV g0;obtain⟨_,_,aj,_⟩:=DataW.trod_int (P:=Tryz.prog) (k:=.i64) axV g1;simp only[aAJ]at he;rw[he.1,b2,aj];simp[Rows.uptoBulk,Rows.uptoBulkAll]
theorem contract(ud:∀dN,uc 9223372036854775808 l8 dN->bG Tryz.prog gl 3 dN [] (.d (.bool true)) [])(H:Type)(enc:TypeId×Value->H)(W:World)(base:Nat)(args:Array Value)(ds gs:List (DataW H))(before:List MemPlace)
  (hval:∀(j:Nat) t v,Tryz.f3.params[j]?=some t->args[j]?=some v->Value.okWide Tryz.prog W .any base t v)
  (NO:DataW.Whole enc Tryz.prog Tryz.f3.params.toList Rows.depsRangesSpec.vars false W args.toList ds gs before) (bE:laidMetH Tryz.prog Rows.depsRangesRow.laid W):
  Calls Tryz.prog 3 args W λe AS=>∃v,e=.returned v/\Rows.depsRangesSpec.post enc Tryz.prog Tryz.f3 false true false false W args v AS:=by
 obtain⟨hlen,eJ⟩:=am9 NO;refine ake (am5 H) (N:=9223372036854775808) (n:=20) (tb:=4) (gl:=gl) rfl (λ_=> ?_) axV axV laidOut axV am6 (globals bE) hval NO eJ ud;have fH:gs=[]:=by
  obtain⟨p,q,_,AT,_⟩:=NO;exact(trodVars_none (show DataW.TrodVars enc Tryz.prog W (λ_=>true) [] gs q from AT)).1
 subst fH;match ds,hlen with
 |[d0,d1,d2],_=>rfl
theorem lifted(ud:∀dN,uc 9223372036854775808 l8 dN->bG Tryz.prog gl 3 dN [] (.d (.bool true)) [])(os:Os)(started:os.Started)(H:Type)(enc:TypeId×Value->H)(F:Stop.Interp):
  ReturnsInHanded {} Tryz.checked os 3 .any ((OpenSpec.ofChange Rows.depsRangesSpec).preRow enc Tryz.prog Tryz.f3 Rows.depsRangesRow.domain false Rows.depsRangesRow.laid) (((OpenSpec.ofChange Rows.depsRangesSpec).at F).post enc Tryz.prog Tryz.f3 false true false false):=by
 obtain⟨places,ak⟩:=am8 os enc;refine returnsInHanded_of_row (C:=Tryz.checked) (s:=OpenSpec.ofChange Rows.depsRangesSpec) own started axV Tryz.func3
  (witness_row_at (enc:=enc) (C:=Tryz.checked) false (LY os) Gh rfl axV axV axV
   (OpenSpec.preRow_of_cond 8 ak axV (λk aq=>by cases aq) axV (am7 os))) ?_
 intro W base args ds gs before hval NO _ _ _ bE _ _;exact contract ud H enc W base args ds gs before hval NO bE
theorem said(ud:∀dN,uc 9223372036854775808 l8 dN->bG Tryz.prog gl 3 dN [] (.d (.bool true)) []):Rows.DepsRangesSaid:=
 OpenClaim.holds_of_cond 3 Tryz.f3 rfl rfl rfl rfl rfl rfl rfl ⟨rfl,rfl,rfl,rfl,rfl⟩ rfl rfl rfl rfl rfl axV Tryz.func3 am1
  (of_decide_eq_true axV) (by unfold Func.isWrapper;first|(rw[aAD (by decide+kernel)];kernel_rfl)|(rw[aAG (by decide+kernel)];exact⟨rfl,rfl⟩))
  (λos started H enc _ F=>by rw[OpenClaim.pre_eq_preRow];exact lifted ud os started H enc F)
theorem plain(f:FuncId)(fn:Func)(bh:Tryz.pinned.checked.prog.funcNamed Rows.depsRangesRow.func=some f)(wW:Tryz.pinned.checked.prog.funcs[f]?=some fn):
  true=Tryz.pinned.checked.prog.looks []/\∀(j:Nat) t,fn.params[j]?=some t->Tryz.pinned.checked.prog.wantsStandIn t=false:=by
 obtain rfl:f=3:=aBO ((show Tryz.prog.funcNamed Rows.depsRangesRow.func=some 3 by kernel_rfl).symm.trans bh) |>.symm;obtain rfl:fn=Tryz.f3:=(aBO (Tryz.func3.symm.trans wW)).symm;refine⟨axV,λj t aE=> ?_⟩;have gT:(Tryz.f3.params.toList.all λt=>!Tryz.prog.wantsStandIn t)=true:=axV
 have:=aAx.1 gT t (by
  have:=aAM (l:=Tryz.f3.params.toList) (i:=j) (a:=t) (by simpa using aE);exact this)
 exact aAE _ |>.mp this
theorem aGl(ud:∀dN,uc 9223372036854775808 l8 dN->bG Tryz.prog gl 3 dN [] (.d (.bool true)) []):Rows.DepsRangesCardSaid:=
 Claim7.holds_tied_plain_at .later [] _ _ _ _ (said ud) (λ_ h=>ax2) am2 (λ_ h=>ax2) depsRanges_row_tie rfl ⟨rfl,rfl⟩ am3 rfl plain am4
end Go.Proofs.YthffhbakgmemaaaGreatDoor
