/- Part of graphs_said. -/
import Derived.Test.YtmgpekpnidjfoaaGreatDoorD
import Derived.Test.YtmgpekpnidjfoaaGreatDoorCards
import Derived.Test.YtmgpekpnidjfoaaGreatDoorTie
import Derived.Test.YtmgpekpnidjfoaaGreatDoorX
set_option maxRecDepth 100000
set_option maxHeartbeats 8000000
namespace Go.Proofs.YtmgpekpnidjfoaaGreatDoor
open Go Go.aH Go.ChangeShapes Go.WideShapes Go.ChangeAt Go.RowKit
theorem own:ownKnob Tryz.prog.godebug=none:=axV
theorem am5(H:Type):Cn (H:=H) Rows.uptoBulk where
 str s:=by simp[Rows.uptoBulk]
 slice es sp:=by
  have key:∀l:List (DataW H),l.length<=Rows.uptoBulkAll l/\∀x,x∈l->Rows.uptoBulk x<=Rows.uptoBulkAll l:=by
   intro l;induction l with
   |nil=>exact⟨axX,axX⟩
   |cons y l ih=>
    have h1:1<=Rows.uptoBulk y:=by cases y<;>(try rename_i q;cases q)<;>simp[Rows.uptoBulk]
    refine⟨by simp only[aAu,Rows.uptoBulkAll];omega,λx ak=> ?_⟩;simp only[Rows.uptoBulkAll];rcases aAs.1 ak with rfl|ak
    .omega
    .have:=ih.2 x ak;omega
  obtain⟨h1,h2⟩:=key es;simp only[Rows.uptoBulk];exact⟨axW,λx ak=>by have:=h2 x ak;omega⟩
 agg ps x ak:=by
  have key:∀l:List (DataW H),∀x,x∈l->Rows.uptoBulk x<=Rows.uptoBulkAll l:=by
   intro l;induction l with
   |nil=>simp
   |cons y l ih=>
    intro x ak;simp only[Rows.uptoBulkAll];rcases aAs.1 ak with rfl|ak
    .omega
    .have:=ih x ak;omega
  have:=key ps x ak;simp only[Rows.uptoBulk];omega
def l8:List (Bool×List iq):=[(false,[.str])]
theorem am6:Tryz.f4.params.toList.mapM (od Tryz.prog 20)=some l8:=axV
noncomputable def low:Nat:=(World.holding Tryz.prog default ⟨#[],#[],[]⟩).heap.size
noncomputable def LY(os:Os):World:=
 let w0:=World.holding Tryz.prog os ⟨#[.cells #[.string ⟨#[118,97,108,117,101,32,111,117,116,32,111,102,32,114,97,110,103,101]⟩] 339 (0,0),.cells #[.string ⟨#[105,110,118,97,108,105,100,32,115,121,110,116,97,120]⟩] 339 (0,0),.map (ak8 Rows.laid_bywash_show_ranks) 1000],#[],[]⟩
 {w0 with heap:=(oX (oX (oX (oX (oX (oX (oX (oX (oX (oX (oX (oX (oX w0.heap 0 (oW Rows.laid_bywash_schema_words)) 1 (oW Rows.laid_bywash_cron_bounds)) 2 (oW Rows.laid_bywash_lex_signs)) 3 (oW Rows.laid_bywash_relop_needs)) 4 (oW Rows.laid_unicode_utf8_first)) 5 (oW Rows.laid_unicode_utf8_acceptRanges)) 7 [.map (some (low+2))]) 8 [.iface 337 (.pointer (some ⟨low+1,0,none⟩))]) 9 [.iface 337 (.pointer (some ⟨low+0,0,none⟩))]) 10 (oW Rows.laid_internal_strconv_uint64pow10)) 11 (oW Rows.laid_bywash_calendar_lengths)) 12 (oW Rows.laid_math_bits_deBruijn32tab)) 13 (oW Rows.laid_math_bits_deBruijn64tab))}
noncomputable def Gh:Array Value:= #[.string ⟨#[]⟩]
theorem am7(os:Os):laidMet Tryz.prog Rows.checkGraphsRow.laid ((LY os).forCall (λ_ _=>0) ⟨#[],Gh,[]⟩).memory:=
 laidMet_of_run3 8 axV axV axV
theorem am8(os:Os){H:Type}(enc:TypeId×Value->H):∃places,DataW.whole enc Tryz.prog ((LY os).forCall (λ_ _=>0) ⟨#[],Gh,[]⟩).memory Tryz.f4.params.toList Rows.checkGraphsSpec.vars false Gh.toList 8=some ([.lit (.string [])],[],places):=
 ⟨[],axV⟩
theorem am9{H:Type}{enc:TypeId×Value->H}{W:World}{args:Array Value}{ds gs:List (DataW H)}{before:List MemPlace}(hW:DataW.Whole enc Tryz.prog Tryz.f4.params.toList Rows.checkGraphsSpec.vars false W args.toList ds gs before):
  ds.length=1/\∀d,d∈ds->Rows.uptoBulk d<=9223372036854775808:=by
 obtain⟨p1,q1,hA0,_⟩:=hW;have hA:DataW.TrodAll enc Tryz.prog W 0 (λ_=>true) true Tryz.f4.params.toList args.toList ds p1:=hA0;rw[Tryz.params4]at hA;obtain⟨v0,awc,d0,awd,p0,fG,_,rfl,_,h0,hA⟩:=trodAll_cons hA;obtain⟨_,rfl,_⟩:=trodAll_nil hA;refine⟨rfl,λd aY=> ?_⟩;simp only[aAs,aCl,aBo]at aY;rcases aY with rfl
 .obtain⟨fuel,h⟩:=h0;obtain⟨m,_,he,cg⟩:=aC2 (P:=Tryz.prog) axV h;simp only[aAJ]at he;rw[he.1];have hm:m.data.toList.length=m.size:=rfl;unfold maxLen at cg;simp only[Rows.uptoBulk,hm];omega
theorem contract(ud:∀dN,uc 9223372036854775808 l8 dN->bG Tryz.prog gl 4 dN [] (.d (.bool true)) [])(H:Type)(enc:TypeId×Value->H)(W:World)(base:Nat)(args:Array Value)(ds gs:List (DataW H))(before:List MemPlace)
  (hval:∀(j:Nat) t v,Tryz.f4.params[j]?=some t->args[j]?=some v->Value.okWide Tryz.prog W .any base t v)
  (hW:DataW.Whole enc Tryz.prog Tryz.f4.params.toList Rows.checkGraphsSpec.vars false W args.toList ds gs before) (bE:laidMetH Tryz.prog Rows.checkGraphsRow.laid W):
  Calls Tryz.prog 4 args W λe W'=>∃v,e=.returned v/\Rows.checkGraphsSpec.post enc Tryz.prog Tryz.f4 false true false false W args v W':=by
 obtain⟨hlen,eJ⟩:=am9 hW;refine ake (am5 H) (N:=9223372036854775808) (n:=20) (tb:=4) (gl:=gl) rfl (λ_=> ?_) axV axV laidOut axV am6 (globals bE) hval hW eJ ud;have fH:gs=[]:=by
  obtain⟨p,q,_,hV,_⟩:=hW;exact(trodVars_none (show DataW.TrodVars enc Tryz.prog W (λ_=>true) [] gs q from hV)).1
 subst fH;match ds,hlen with
 |[d0],_=>rfl
theorem lifted(ud:∀dN,uc 9223372036854775808 l8 dN->bG Tryz.prog gl 4 dN [] (.d (.bool true)) [])(os:Os)(started:os.Started)(H:Type)(enc:TypeId×Value->H)(F:Stop.Interp):
  ReturnsInHanded {} Tryz.checked os 4 .any ((OpenSpec.ofChange Rows.checkGraphsSpec).preRow enc Tryz.prog Tryz.f4 Rows.checkGraphsRow.domain false Rows.checkGraphsRow.laid) (((OpenSpec.ofChange Rows.checkGraphsSpec).at F).post enc Tryz.prog Tryz.f4 false true false false):=by
 obtain⟨places,ak⟩:=am8 os enc;refine returnsInHanded_of_row (C:=Tryz.checked) (s:=OpenSpec.ofChange Rows.checkGraphsSpec) own started axV Tryz.func4
  (witness_row_at (enc:=enc) (C:=Tryz.checked) false (LY os) Gh rfl axV axV axV
   (OpenSpec.preRow_of_cond 8 ak axV (λk aq=>by cases aq) axV (am7 os))) ?_
 intro W base args ds gs before hval hW _ _ _ bE _ _;exact contract ud H enc W base args ds gs before hval hW bE
theorem said(ud:∀dN,uc 9223372036854775808 l8 dN->bG Tryz.prog gl 4 dN [] (.d (.bool true)) []):Rows.CheckGraphsSaid:=
 OpenClaim.holds_of_cond 4 Tryz.f4 rfl rfl rfl rfl rfl rfl rfl ⟨rfl,rfl,rfl,rfl,rfl⟩ rfl rfl rfl rfl rfl axV Tryz.func4 am1
  (of_decide_eq_true axV) (by unfold Func.isWrapper;first|(rw[aAD (by decide+kernel)];kernel_rfl)|(rw[aAG (by decide+kernel)];exact⟨rfl,rfl⟩))
  (λos started H enc _ F=>by rw[OpenClaim.pre_eq_preRow];exact lifted ud os started H enc F)
theorem plain(f:FuncId)(fn:Func)(bh:Tryz.pinned.checked.prog.funcNamed Rows.checkGraphsRow.func=some f)(wW:Tryz.pinned.checked.prog.funcs[f]?=some fn):
  true=Tryz.pinned.checked.prog.looks []/\∀(j:Nat) t,fn.params[j]?=some t->Tryz.pinned.checked.prog.wantsStandIn t=false:=by
 obtain rfl:f=4:=aBO ((show Tryz.prog.funcNamed Rows.checkGraphsRow.func=some 4 by kernel_rfl).symm.trans bh) |>.symm;obtain rfl:fn=Tryz.f4:=(aBO (Tryz.func4.symm.trans wW)).symm;refine⟨axV,λj t aE=> ?_⟩;have gT:(Tryz.f4.params.toList.all λt=>!Tryz.prog.wantsStandIn t)=true:=axV
 have:=aAx.1 gT t (by
  have:=aAM (l:=Tryz.f4.params.toList) (i:=j) (a:=t) (by simpa using aE);exact this)
 exact aAE _ |>.mp this
theorem card(ud:∀dN,uc 9223372036854775808 l8 dN->bG Tryz.prog gl 4 dN [] (.d (.bool true)) []):Rows.CheckGraphsCardSaid:=
 Claim7.holds_tied_plain_at .later [] _ _ _ _ (said ud) (λ_ h=>ax2) am2 (λ_ h=>ax2) checkGraphs_row_tie rfl ⟨rfl,rfl⟩ am3 rfl plain am4
end Go.Proofs.YtmgpekpnidjfoaaGreatDoor
