/- The code is the program's; what is checked of it. -/
import Derived.Test.YtgfmodmeimhhpaaDoorNT
namespace Go.Proofs.YtgfmodmeimhhpaaDoor
open Go.VM
set_option maxRecDepth 100000
theorem tab4:mM Tryd.prog hh4 vf4.kept vf4.cons Tryd.f4=some vf4:=by kernel_rfl
theorem sig4:(⟨vf4.cons,vf4.quiet⟩:Sig)=⟨[],false⟩:=by kernel_rfl
theorem chk4:aH8 sgN vsN (sgN 4) fi4 vf4=true:=by kernel_rfl
theorem tab5:mM Tryd.prog hh5 vf5.kept vf5.cons Tryd.f5=some vf5:=by kernel_rfl
theorem sig5:(⟨vf5.cons,vf5.quiet⟩:Sig)=⟨[],true⟩:=by kernel_rfl
theorem chk5:aH8 sgN vsN (sgN 5) fi5 vf5=true:=by kernel_rfl
theorem tab6:mM Tryd.prog hh6 vf6.kept vf6.cons Tryd.f6=some vf6:=by kernel_rfl
theorem sig6:(⟨vf6.cons,vf6.quiet⟩:Sig)=⟨[],true⟩:=by kernel_rfl
theorem chk6:aH8 sgN vsN (sgN 6) fi6 vf6=true:=by kernel_rfl
theorem tab7:mM Tryd.prog hh7 vf7.kept vf7.cons Tryd.f7=some vf7:=by kernel_rfl
theorem sig7:(⟨vf7.cons,vf7.quiet⟩:Sig)=⟨[],false⟩:=by kernel_rfl
theorem chk7:aH8 sgN vsN (sgN 7) fi7 vf7=true:=by kernel_rfl
theorem tab9:mM Tryd.prog hh9 vf9.kept vf9.cons Tryd.f9=some vf9:=by kernel_rfl
theorem sig9:(⟨vf9.cons,vf9.quiet⟩:Sig)=⟨[],true⟩:=by kernel_rfl
theorem chk9:aH8 sgN vsN (sgN 9) fi9 vf9=true:=by kernel_rfl
theorem tab10:mM Tryd.prog hh10 vf10.kept vf10.cons Tryd.f10=some vf10:=by kernel_rfl
theorem sig10:(⟨vf10.cons,vf10.quiet⟩:Sig)=⟨[],true⟩:=by kernel_rfl
theorem chk10:aH8 sgN vsN (sgN 10) fi10 vf10=true:=by kernel_rfl
theorem tab12:mM Tryd.prog hh12 vf12.kept vf12.cons Tryd.f12=some vf12:=by kernel_rfl
theorem sig12:(⟨vf12.cons,vf12.quiet⟩:Sig)=⟨[],false⟩:=by kernel_rfl
theorem chk12:aH8 sgN vsN (sgN 12) fi12 vf12=true:=by kernel_rfl
theorem tab13:mM Tryd.prog hh13 vf13.kept vf13.cons Tryd.f13=some vf13:=by kernel_rfl
theorem sig13:(⟨vf13.cons,vf13.quiet⟩:Sig)=⟨[],false⟩:=by kernel_rfl
theorem chk13:aH8 sgN vsN (sgN 13) fi13 vf13=true:=by kernel_rfl
theorem tab14:mM Tryd.prog hh14 vf14.kept vf14.cons Tryd.f14=some vf14:=by kernel_rfl
theorem sig14:(⟨vf14.cons,vf14.quiet⟩:Sig)=⟨[],true⟩:=by kernel_rfl
theorem chk14:aH8 sgN vsN (sgN 14) fi14 vf14=true:=by kernel_rfl
theorem tab15:mM Tryd.prog hh15 vf15.kept vf15.cons Tryd.f15=some vf15:=by kernel_rfl
theorem sig15:(⟨vf15.cons,vf15.quiet⟩:Sig)=⟨[],true⟩:=by kernel_rfl
theorem chk15:aH8 sgN vsN (sgN 15) fi15 vf15=true:=by kernel_rfl
theorem tab16:mM Tryd.prog hh16 vf16.kept vf16.cons Tryd.f16=some vf16:=by kernel_rfl
theorem sig16:(⟨vf16.cons,vf16.quiet⟩:Sig)=⟨[],true⟩:=by kernel_rfl
theorem chk16:aH8 sgN vsN (sgN 16) fi16 vf16=true:=by kernel_rfl
theorem tab17:mM Tryd.prog hh17 vf17.kept vf17.cons Tryd.f17=some vf17:=by kernel_rfl
theorem sig17:(⟨vf17.cons,vf17.quiet⟩:Sig)=⟨[],true⟩:=by kernel_rfl
theorem chk17:aH8 sgN vsN (sgN 17) fi17 vf17=true:=by kernel_rfl
theorem tab19:mM Tryd.prog hh19 vf19.kept vf19.cons Tryd.f19=some vf19:=by kernel_rfl
theorem sig19:(⟨vf19.cons,vf19.quiet⟩:Sig)=⟨[],false⟩:=by kernel_rfl
theorem chk19:aH8 sgN vsN (sgN 19) fi19 vf19=true:=by kernel_rfl
theorem tab21:mM Tryd.prog hh21 vf21.kept vf21.cons Tryd.f21=some vf21:=by kernel_rfl
theorem sig21:(⟨vf21.cons,vf21.quiet⟩:Sig)=⟨[],true⟩:=by kernel_rfl
theorem chk21:aH8 sgN vsN (sgN 21) fi21 vf21=true:=by kernel_rfl
theorem tab22:mM Tryd.prog hh22 vf22.kept vf22.cons Tryd.f22=some vf22:=by kernel_rfl
theorem sig22:(⟨vf22.cons,vf22.quiet⟩:Sig)=⟨[],true⟩:=by kernel_rfl
theorem chk22:aH8 sgN vsN (sgN 22) fi22 vf22=true:=by kernel_rfl
theorem tab23:mM Tryd.prog hh23 vf23.kept vf23.cons Tryd.f23=some vf23:=by kernel_rfl
theorem sig23:(⟨vf23.cons,vf23.quiet⟩:Sig)=⟨[],true⟩:=by kernel_rfl
theorem chk23:aH8 sgN vsN (sgN 23) fi23 vf23=true:=by kernel_rfl
theorem tab25:mM Tryd.prog hh25 vf25.kept vf25.cons Tryd.f25=some vf25:=by kernel_rfl
theorem sig25:(⟨vf25.cons,vf25.quiet⟩:Sig)=⟨[],true⟩:=by kernel_rfl
theorem chk25:aH8 sgN vsN (sgN 25) fi25 vf25=true:=by kernel_rfl
theorem tab27:mM Tryd.prog hh27 vf27.kept vf27.cons Tryd.f27=some vf27:=by kernel_rfl
theorem sig27:(⟨vf27.cons,vf27.quiet⟩:Sig)=⟨[],true⟩:=by kernel_rfl
theorem chk27:aH8 sgN vsN (sgN 27) fi27 vf27=true:=by kernel_rfl
theorem tab28:mM Tryd.prog hh28 vf28.kept vf28.cons Tryd.f28=some vf28:=by kernel_rfl
theorem sig28:(⟨vf28.cons,vf28.quiet⟩:Sig)=⟨[],true⟩:=by kernel_rfl
theorem chk28:aH8 sgN vsN (sgN 28) fi28 vf28=true:=by kernel_rfl
theorem tab29:mM Tryd.prog hh29 vf29.kept vf29.cons Tryd.f29=some vf29:=by kernel_rfl
theorem sig29:(⟨vf29.cons,vf29.quiet⟩:Sig)=⟨[],true⟩:=by kernel_rfl
theorem chk29:aH8 sgN vsN (sgN 29) fi29 vf29=true:=by kernel_rfl
theorem tab34:mM Tryd.prog hh34 vf34.kept vf34.cons Tryd.f34=some vf34:=by kernel_rfl
theorem sig34:(⟨vf34.cons,vf34.quiet⟩:Sig)=⟨[],true⟩:=by kernel_rfl
theorem chk34:aH8 sgN vsN (sgN 34) fi34 vf34=true:=by kernel_rfl
theorem tab35:mM Tryd.prog hh35 vf35.kept vf35.cons Tryd.f35=some vf35:=by kernel_rfl
theorem sig35:(⟨vf35.cons,vf35.quiet⟩:Sig)=⟨[],true⟩:=by kernel_rfl
theorem chk35:aH8 sgN vsN (sgN 35) fi35 vf35=true:=by kernel_rfl
theorem tab36:mM Tryd.prog hh36 vf36.kept vf36.cons Tryd.f36=some vf36:=by kernel_rfl
theorem sig36:(⟨vf36.cons,vf36.quiet⟩:Sig)=⟨[],true⟩:=by kernel_rfl
theorem chk36:aH8 sgN vsN (sgN 36) fi36 vf36=true:=by kernel_rfl
theorem tab37:mM Tryd.prog hh37 vf37.kept vf37.cons Tryd.f37=some vf37:=by kernel_rfl
theorem sig37:(⟨vf37.cons,vf37.quiet⟩:Sig)=⟨[],true⟩:=by kernel_rfl
theorem chk37:aH8 sgN vsN (sgN 37) fi37 vf37=true:=by kernel_rfl
theorem tab38:mM Tryd.prog hh38 vf38.kept vf38.cons Tryd.f38=some vf38:=by kernel_rfl
theorem sig38:(⟨vf38.cons,vf38.quiet⟩:Sig)=⟨[],true⟩:=by kernel_rfl
theorem chk38:aH8 sgN vsN (sgN 38) fi38 vf38=true:=by kernel_rfl
theorem tab39:mM Tryd.prog hh39 vf39.kept vf39.cons Tryd.f39=some vf39:=by kernel_rfl
theorem sig39:(⟨vf39.cons,vf39.quiet⟩:Sig)=⟨[],true⟩:=by kernel_rfl
theorem chk39:aH8 sgN vsN (sgN 39) fi39 vf39=true:=by kernel_rfl
theorem tab40:mM Tryd.prog hh40 vf40.kept vf40.cons Tryd.f40=some vf40:=by kernel_rfl
theorem sig40:(⟨vf40.cons,vf40.quiet⟩:Sig)=⟨[],true⟩:=by kernel_rfl
theorem chk40:aH8 sgN vsN (sgN 40) fi40 vf40=true:=by kernel_rfl
theorem tab41:mM Tryd.prog hh41 vf41.kept vf41.cons Tryd.f41=some vf41:=by kernel_rfl
theorem sig41:(⟨vf41.cons,vf41.quiet⟩:Sig)=⟨[],true⟩:=by kernel_rfl
theorem chk41:aH8 sgN vsN (sgN 41) fi41 vf41=true:=by kernel_rfl
theorem tab42:mM Tryd.prog hh42 vf42.kept vf42.cons Tryd.f42=some vf42:=by kernel_rfl
theorem sig42:(⟨vf42.cons,vf42.quiet⟩:Sig)=⟨[],true⟩:=by kernel_rfl
theorem chk42:aH8 sgN vsN (sgN 42) fi42 vf42=true:=by kernel_rfl
theorem tab43:mM Tryd.prog hh43 vf43.kept vf43.cons Tryd.f43=some vf43:=by kernel_rfl
theorem sig43:(⟨vf43.cons,vf43.quiet⟩:Sig)=⟨[],true⟩:=by kernel_rfl
theorem chk43:aH8 sgN vsN (sgN 43) fi43 vf43=true:=by kernel_rfl
theorem tab44:mM Tryd.prog hh44 vf44.kept vf44.cons Tryd.f44=some vf44:=by kernel_rfl
theorem sig44:(⟨vf44.cons,vf44.quiet⟩:Sig)=⟨[],true⟩:=by kernel_rfl
theorem chk44:aH8 sgN vsN (sgN 44) fi44 vf44=true:=by kernel_rfl
theorem tab45:mM Tryd.prog hh45 vf45.kept vf45.cons Tryd.f45=some vf45:=by kernel_rfl
theorem sig45:(⟨vf45.cons,vf45.quiet⟩:Sig)=⟨[],true⟩:=by kernel_rfl
theorem chk45:aH8 sgN vsN (sgN 45) fi45 vf45=true:=by kernel_rfl
theorem tab46:mM Tryd.prog hh46 vf46.kept vf46.cons Tryd.f46=some vf46:=by kernel_rfl
theorem sig46:(⟨vf46.cons,vf46.quiet⟩:Sig)=⟨[],true⟩:=by kernel_rfl
theorem chk46:aH8 sgN vsN (sgN 46) fi46 vf46=true:=by kernel_rfl
theorem tab47:mM Tryd.prog hh47 vf47.kept vf47.cons Tryd.f47=some vf47:=by kernel_rfl
theorem sig47:(⟨vf47.cons,vf47.quiet⟩:Sig)=⟨[],true⟩:=by kernel_rfl
theorem chk47:aH8 sgN vsN (sgN 47) fi47 vf47=true:=by kernel_rfl
theorem tab48:mM Tryd.prog hh48 vf48.kept vf48.cons Tryd.f48=some vf48:=by kernel_rfl
theorem sig48:(⟨vf48.cons,vf48.quiet⟩:Sig)=⟨[],true⟩:=by kernel_rfl
theorem chk48:aH8 sgN vsN (sgN 48) fi48 vf48=true:=by kernel_rfl
theorem tab52:mM Tryd.prog hh52 vf52.kept vf52.cons Tryd.f52=some vf52:=by kernel_rfl
theorem sig52:(⟨vf52.cons,vf52.quiet⟩:Sig)=⟨[],true⟩:=by kernel_rfl
theorem chk52:aH8 sgN vsN (sgN 52) fi52 vf52=true:=by kernel_rfl
theorem tab57:mM Tryd.prog hh57 vf57.kept vf57.cons Tryd.f57=some vf57:=by kernel_rfl
theorem sig57:(⟨vf57.cons,vf57.quiet⟩:Sig)=⟨[],true⟩:=by kernel_rfl
theorem chk57:aH8 sgN vsN (sgN 57) fi57 vf57=true:=by kernel_rfl
theorem tab58:mM Tryd.prog hh58 vf58.kept vf58.cons Tryd.f58=some vf58:=by kernel_rfl
theorem sig58:(⟨vf58.cons,vf58.quiet⟩:Sig)=⟨[],true⟩:=by kernel_rfl
theorem chk58:aH8 sgN vsN (sgN 58) fi58 vf58=true:=by kernel_rfl
theorem tab59:mM Tryd.prog hh59 vf59.kept vf59.cons Tryd.f59=some vf59:=by kernel_rfl
theorem sig59:(⟨vf59.cons,vf59.quiet⟩:Sig)=⟨[],true⟩:=by kernel_rfl
theorem chk59:aH8 sgN vsN (sgN 59) fi59 vf59=true:=by kernel_rfl
theorem tab60:mM Tryd.prog hh60 vf60.kept vf60.cons Tryd.f60=some vf60:=by kernel_rfl
theorem sig60:(⟨vf60.cons,vf60.quiet⟩:Sig)=⟨[],true⟩:=by kernel_rfl
theorem chk60:aH8 sgN vsN (sgN 60) fi60 vf60=true:=by kernel_rfl
theorem tab61:mM Tryd.prog hh61 vf61.kept vf61.cons Tryd.f61=some vf61:=by kernel_rfl
theorem sig61:(⟨vf61.cons,vf61.quiet⟩:Sig)=⟨[],true⟩:=by kernel_rfl
theorem chk61:aH8 sgN vsN (sgN 61) fi61 vf61=true:=by kernel_rfl
theorem tab62:mM Tryd.prog hh62 vf62.kept vf62.cons Tryd.f62=some vf62:=by kernel_rfl
theorem sig62:(⟨vf62.cons,vf62.quiet⟩:Sig)=⟨[],true⟩:=by kernel_rfl
theorem chk62:aH8 sgN vsN (sgN 62) fi62 vf62=true:=by kernel_rfl
theorem tab63:mM Tryd.prog hh63 vf63.kept vf63.cons Tryd.f63=some vf63:=by kernel_rfl
theorem sig63:(⟨vf63.cons,vf63.quiet⟩:Sig)=⟨[],true⟩:=by kernel_rfl
theorem chk63:aH8 sgN vsN (sgN 63) fi63 vf63=true:=by kernel_rfl
theorem tab64:mM Tryd.prog hh64 vf64.kept vf64.cons Tryd.f64=some vf64:=by kernel_rfl
theorem sig64:(⟨vf64.cons,vf64.quiet⟩:Sig)=⟨[],true⟩:=by kernel_rfl
theorem chk64:aH8 sgN vsN (sgN 64) fi64 vf64=true:=by kernel_rfl
theorem tab65:mM Tryd.prog hh65 vf65.kept vf65.cons Tryd.f65=some vf65:=by kernel_rfl
theorem sig65:(⟨vf65.cons,vf65.quiet⟩:Sig)=⟨[],true⟩:=by kernel_rfl
theorem chk65:aH8 sgN vsN (sgN 65) fi65 vf65=true:=by kernel_rfl
theorem tab66:mM Tryd.prog hh66 vf66.kept vf66.cons Tryd.f66=some vf66:=by kernel_rfl
theorem sig66:(⟨vf66.cons,vf66.quiet⟩:Sig)=⟨[],true⟩:=by kernel_rfl
theorem chk66:aH8 sgN vsN (sgN 66) fi66 vf66=true:=by kernel_rfl
theorem tab68:mM Tryd.prog hh68 vf68.kept vf68.cons Tryd.f68=some vf68:=by kernel_rfl
theorem sig68:(⟨vf68.cons,vf68.quiet⟩:Sig)=⟨[],true⟩:=by kernel_rfl
theorem chk68:aH8 sgN vsN (sgN 68) fi68 vf68=true:=by kernel_rfl
theorem tab69:mM Tryd.prog hh69 vf69.kept vf69.cons Tryd.f69=some vf69:=by kernel_rfl
theorem sig69:(⟨vf69.cons,vf69.quiet⟩:Sig)=⟨[],true⟩:=by kernel_rfl
theorem chk69:aH8 sgN vsN (sgN 69) fi69 vf69=true:=by kernel_rfl
theorem tab70:mM Tryd.prog hh70 vf70.kept vf70.cons Tryd.f70=some vf70:=by kernel_rfl
theorem sig70:(⟨vf70.cons,vf70.quiet⟩:Sig)=⟨[],true⟩:=by kernel_rfl
theorem chk70:aH8 sgN vsN (sgN 70) fi70 vf70=true:=by kernel_rfl
theorem tab71:mM Tryd.prog hh71 vf71.kept vf71.cons Tryd.f71=some vf71:=by kernel_rfl
theorem sig71:(⟨vf71.cons,vf71.quiet⟩:Sig)=⟨[],true⟩:=by kernel_rfl
theorem chk71:aH8 sgN vsN (sgN 71) fi71 vf71=true:=by kernel_rfl
theorem tab72:mM Tryd.prog hh72 vf72.kept vf72.cons Tryd.f72=some vf72:=by kernel_rfl
theorem sig72:(⟨vf72.cons,vf72.quiet⟩:Sig)=⟨[],true⟩:=by kernel_rfl
theorem chk72:aH8 sgN vsN (sgN 72) fi72 vf72=true:=by kernel_rfl
theorem tab78:mM Tryd.prog hh78 vf78.kept vf78.cons Tryd.f78=some vf78:=by kernel_rfl
theorem sig78:(⟨vf78.cons,vf78.quiet⟩:Sig)=⟨[],true⟩:=by kernel_rfl
theorem chk78:aH8 sgN vsN (sgN 78) fi78 vf78=true:=by kernel_rfl
theorem tab79:mM Tryd.prog hh79 vf79.kept vf79.cons Tryd.f79=some vf79:=by kernel_rfl
theorem sig79:(⟨vf79.cons,vf79.quiet⟩:Sig)=⟨[],true⟩:=by kernel_rfl
theorem chk79:aH8 sgN vsN (sgN 79) fi79 vf79=true:=by kernel_rfl
theorem tab80:mM Tryd.prog hh80 vf80.kept vf80.cons Tryd.f80=some vf80:=by kernel_rfl
theorem sig80:(⟨vf80.cons,vf80.quiet⟩:Sig)=⟨[],true⟩:=by kernel_rfl
theorem chk80:aH8 sgN vsN (sgN 80) fi80 vf80=true:=by kernel_rfl
theorem tab81:mM Tryd.prog hh81 vf81.kept vf81.cons Tryd.f81=some vf81:=by kernel_rfl
theorem sig81:(⟨vf81.cons,vf81.quiet⟩:Sig)=⟨[],true⟩:=by kernel_rfl
theorem chk81:aH8 sgN vsN (sgN 81) fi81 vf81=true:=by kernel_rfl
theorem tab84:mM Tryd.prog hh84 vf84.kept vf84.cons Tryd.f84=some vf84:=by kernel_rfl
theorem sig84:(⟨vf84.cons,vf84.quiet⟩:Sig)=⟨[],true⟩:=by kernel_rfl
theorem chk84:aH8 sgN vsN (sgN 84) fi84 vf84=true:=by kernel_rfl
theorem tab85:mM Tryd.prog hh85 vf85.kept vf85.cons Tryd.f85=some vf85:=by kernel_rfl
theorem sig85:(⟨vf85.cons,vf85.quiet⟩:Sig)=⟨[],true⟩:=by kernel_rfl
theorem chk85:aH8 sgN vsN (sgN 85) fi85 vf85=true:=by kernel_rfl
theorem tab86:mM Tryd.prog hh86 vf86.kept vf86.cons Tryd.f86=some vf86:=by kernel_rfl
theorem sig86:(⟨vf86.cons,vf86.quiet⟩:Sig)=⟨[],true⟩:=by kernel_rfl
theorem chk86:aH8 sgN vsN (sgN 86) fi86 vf86=true:=by kernel_rfl
theorem tab87:mM Tryd.prog hh87 vf87.kept vf87.cons Tryd.f87=some vf87:=by kernel_rfl
theorem sig87:(⟨vf87.cons,vf87.quiet⟩:Sig)=⟨[],true⟩:=by kernel_rfl
theorem chk87:aH8 sgN vsN (sgN 87) fi87 vf87=true:=by kernel_rfl
theorem tab88:mM Tryd.prog hh88 vf88.kept vf88.cons Tryd.f88=some vf88:=by kernel_rfl
theorem sig88:(⟨vf88.cons,vf88.quiet⟩:Sig)=⟨[],true⟩:=by kernel_rfl
theorem chk88:aH8 sgN vsN (sgN 88) fi88 vf88=true:=by kernel_rfl
theorem tab89:mM Tryd.prog hh89 vf89.kept vf89.cons Tryd.f89=some vf89:=by kernel_rfl
theorem sig89:(⟨vf89.cons,vf89.quiet⟩:Sig)=⟨[],true⟩:=by kernel_rfl
theorem chk89:aH8 sgN vsN (sgN 89) fi89 vf89=true:=by kernel_rfl
theorem tab93:mM Tryd.prog hh93 vf93.kept vf93.cons Tryd.f93=some vf93:=by kernel_rfl
theorem sig93:(⟨vf93.cons,vf93.quiet⟩:Sig)=⟨[],true⟩:=by kernel_rfl
theorem chk93:aH8 sgN vsN (sgN 93) fi93 vf93=true:=by kernel_rfl
theorem tab94:mM Tryd.prog hh94 vf94.kept vf94.cons Tryd.f94=some vf94:=by kernel_rfl
theorem sig94:(⟨vf94.cons,vf94.quiet⟩:Sig)=⟨[],true⟩:=by kernel_rfl
theorem chk94:aH8 sgN vsN (sgN 94) fi94 vf94=true:=by kernel_rfl
theorem tab95:mM Tryd.prog hh95 vf95.kept vf95.cons Tryd.f95=some vf95:=by kernel_rfl
theorem sig95:(⟨vf95.cons,vf95.quiet⟩:Sig)=⟨[],true⟩:=by kernel_rfl
theorem chk95:aH8 sgN vsN (sgN 95) fi95 vf95=true:=by kernel_rfl
theorem tab96:mM Tryd.prog hh96 vf96.kept vf96.cons Tryd.f96=some vf96:=by kernel_rfl
theorem sig96:(⟨vf96.cons,vf96.quiet⟩:Sig)=⟨[],true⟩:=by kernel_rfl
theorem chk96:aH8 sgN vsN (sgN 96) fi96 vf96=true:=by kernel_rfl
theorem tab97:mM Tryd.prog hh97 vf97.kept vf97.cons Tryd.f97=some vf97:=by kernel_rfl
theorem sig97:(⟨vf97.cons,vf97.quiet⟩:Sig)=⟨[],true⟩:=by kernel_rfl
theorem chk97:aH8 sgN vsN (sgN 97) fi97 vf97=true:=by kernel_rfl
end Go.Proofs.YtgfmodmeimhhpaaDoor
