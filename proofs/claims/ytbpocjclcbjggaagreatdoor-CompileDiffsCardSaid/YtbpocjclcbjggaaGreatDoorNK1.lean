/- The code is the program's; what is checked of it. -/
import Derived.Test.YtbpocjclcbjggaaGreatDoorNT
namespace Go.Proofs.YtbpocjclcbjggaaGreatDoor
open Go.VM
set_option maxRecDepth 100000
theorem tab6:mM Tryz.prog hh6 vf6.kept vf6.cons Tryz.f6=some vf6:=by kernel_rfl
theorem sig6:(⟨vf6.cons,vf6.quiet⟩:Sig)=⟨[],false⟩:=by kernel_rfl
theorem chk6:aH8 sgN vsN (sgN 6) fi6 vf6=true:=by kernel_rfl
theorem tab8:mM Tryz.prog hh8 vf8.kept vf8.cons Tryz.f8=some vf8:=by kernel_rfl
theorem sig8:(⟨vf8.cons,vf8.quiet⟩:Sig)=⟨[],true⟩:=by kernel_rfl
theorem chk8:aH8 sgN vsN (sgN 8) fi8 vf8=true:=by kernel_rfl
theorem tab9:mM Tryz.prog hh9 vf9.kept vf9.cons Tryz.f9=some vf9:=by kernel_rfl
theorem sig9:(⟨vf9.cons,vf9.quiet⟩:Sig)=⟨[],false⟩:=by kernel_rfl
theorem chk9:aH8 sgN vsN (sgN 9) fi9 vf9=true:=by kernel_rfl
theorem tab11:mM Tryz.prog hh11 vf11.kept vf11.cons Tryz.f11=some vf11:=by kernel_rfl
theorem sig11:(⟨vf11.cons,vf11.quiet⟩:Sig)=⟨[],true⟩:=by kernel_rfl
theorem chk11:aH8 sgN vsN (sgN 11) fi11 vf11=true:=by kernel_rfl
theorem tab13:mM Tryz.prog hh13 vf13.kept vf13.cons Tryz.f13=some vf13:=by kernel_rfl
theorem sig13:(⟨vf13.cons,vf13.quiet⟩:Sig)=⟨[],true⟩:=by kernel_rfl
theorem chk13:aH8 sgN vsN (sgN 13) fi13 vf13=true:=by kernel_rfl
theorem tab14:mM Tryz.prog hh14 vf14.kept vf14.cons Tryz.f14=some vf14:=by kernel_rfl
theorem sig14:(⟨vf14.cons,vf14.quiet⟩:Sig)=⟨[],true⟩:=by kernel_rfl
theorem chk14:aH8 sgN vsN (sgN 14) fi14 vf14=true:=by kernel_rfl
theorem tab15:mM Tryz.prog hh15 vf15.kept vf15.cons Tryz.f15=some vf15:=by kernel_rfl
theorem sig15:(⟨vf15.cons,vf15.quiet⟩:Sig)=⟨[],true⟩:=by kernel_rfl
theorem chk15:aH8 sgN vsN (sgN 15) fi15 vf15=true:=by kernel_rfl
theorem tab16:mM Tryz.prog hh16 vf16.kept vf16.cons Tryz.f16=some vf16:=by kernel_rfl
theorem sig16:(⟨vf16.cons,vf16.quiet⟩:Sig)=⟨[],true⟩:=by kernel_rfl
theorem chk16:aH8 sgN vsN (sgN 16) fi16 vf16=true:=by kernel_rfl
theorem tab17:mM Tryz.prog hh17 vf17.kept vf17.cons Tryz.f17=some vf17:=by kernel_rfl
theorem sig17:(⟨vf17.cons,vf17.quiet⟩:Sig)=⟨[],false⟩:=by kernel_rfl
theorem chk17:aH8 sgN vsN (sgN 17) fi17 vf17=true:=by kernel_rfl
theorem tab18:mM Tryz.prog hh18 vf18.kept vf18.cons Tryz.f18=some vf18:=by kernel_rfl
theorem sig18:(⟨vf18.cons,vf18.quiet⟩:Sig)=⟨[],true⟩:=by kernel_rfl
theorem chk18:aH8 sgN vsN (sgN 18) fi18 vf18=true:=by kernel_rfl
theorem tab19:mM Tryz.prog hh19 vf19.kept vf19.cons Tryz.f19=some vf19:=by kernel_rfl
theorem sig19:(⟨vf19.cons,vf19.quiet⟩:Sig)=⟨[],true⟩:=by kernel_rfl
theorem chk19:aH8 sgN vsN (sgN 19) fi19 vf19=true:=by kernel_rfl
theorem tab20:mM Tryz.prog hh20 vf20.kept vf20.cons Tryz.f20=some vf20:=by kernel_rfl
theorem sig20:(⟨vf20.cons,vf20.quiet⟩:Sig)=⟨[],true⟩:=by kernel_rfl
theorem chk20:aH8 sgN vsN (sgN 20) fi20 vf20=true:=by kernel_rfl
theorem tab21:mM Tryz.prog hh21 vf21.kept vf21.cons Tryz.f21=some vf21:=by kernel_rfl
theorem sig21:(⟨vf21.cons,vf21.quiet⟩:Sig)=⟨[],true⟩:=by kernel_rfl
theorem chk21:aH8 sgN vsN (sgN 21) fi21 vf21=true:=by kernel_rfl
theorem tab26:mM Tryz.prog hh26 vf26.kept vf26.cons Tryz.f26=some vf26:=by kernel_rfl
theorem sig26:(⟨vf26.cons,vf26.quiet⟩:Sig)=⟨[],true⟩:=by kernel_rfl
theorem chk26:aH8 sgN vsN (sgN 26) fi26 vf26=true:=by kernel_rfl
theorem tab27:mM Tryz.prog hh27 vf27.kept vf27.cons Tryz.f27=some vf27:=by kernel_rfl
theorem sig27:(⟨vf27.cons,vf27.quiet⟩:Sig)=⟨[],true⟩:=by kernel_rfl
theorem chk27:aH8 sgN vsN (sgN 27) fi27 vf27=true:=by kernel_rfl
theorem tab28:mM Tryz.prog hh28 vf28.kept vf28.cons Tryz.f28=some vf28:=by kernel_rfl
theorem sig28:(⟨vf28.cons,vf28.quiet⟩:Sig)=⟨[],true⟩:=by kernel_rfl
theorem chk28:aH8 sgN vsN (sgN 28) fi28 vf28=true:=by kernel_rfl
theorem tab29:mM Tryz.prog hh29 vf29.kept vf29.cons Tryz.f29=some vf29:=by kernel_rfl
theorem sig29:(⟨vf29.cons,vf29.quiet⟩:Sig)=⟨[],true⟩:=by kernel_rfl
theorem chk29:aH8 sgN vsN (sgN 29) fi29 vf29=true:=by kernel_rfl
theorem tab32:mM Tryz.prog hh32 vf32.kept vf32.cons Tryz.f32=some vf32:=by kernel_rfl
theorem sig32:(⟨vf32.cons,vf32.quiet⟩:Sig)=⟨[],true⟩:=by kernel_rfl
theorem chk32:aH8 sgN vsN (sgN 32) fi32 vf32=true:=by kernel_rfl
theorem tab33:mM Tryz.prog hh33 vf33.kept vf33.cons Tryz.f33=some vf33:=by kernel_rfl
theorem sig33:(⟨vf33.cons,vf33.quiet⟩:Sig)=⟨[],true⟩:=by kernel_rfl
theorem chk33:aH8 sgN vsN (sgN 33) fi33 vf33=true:=by kernel_rfl
theorem tab34:mM Tryz.prog hh34 vf34.kept vf34.cons Tryz.f34=some vf34:=by kernel_rfl
theorem sig34:(⟨vf34.cons,vf34.quiet⟩:Sig)=⟨[],false⟩:=by kernel_rfl
theorem chk34:aH8 sgN vsN (sgN 34) fi34 vf34=true:=by kernel_rfl
theorem tab35:mM Tryz.prog hh35 vf35.kept vf35.cons Tryz.f35=some vf35:=by kernel_rfl
theorem sig35:(⟨vf35.cons,vf35.quiet⟩:Sig)=⟨[],false⟩:=by kernel_rfl
theorem chk35:aH8 sgN vsN (sgN 35) fi35 vf35=true:=by kernel_rfl
theorem tab36:mM Tryz.prog hh36 vf36.kept vf36.cons Tryz.f36=some vf36:=by kernel_rfl
theorem sig36:(⟨vf36.cons,vf36.quiet⟩:Sig)=⟨[],true⟩:=by kernel_rfl
theorem chk36:aH8 sgN vsN (sgN 36) fi36 vf36=true:=by kernel_rfl
theorem tab37:mM Tryz.prog hh37 vf37.kept vf37.cons Tryz.f37=some vf37:=by kernel_rfl
theorem sig37:(⟨vf37.cons,vf37.quiet⟩:Sig)=⟨[],true⟩:=by kernel_rfl
theorem chk37:aH8 sgN vsN (sgN 37) fi37 vf37=true:=by kernel_rfl
theorem tab38:mM Tryz.prog hh38 vf38.kept vf38.cons Tryz.f38=some vf38:=by kernel_rfl
theorem sig38:(⟨vf38.cons,vf38.quiet⟩:Sig)=⟨[],true⟩:=by kernel_rfl
theorem chk38:aH8 sgN vsN (sgN 38) fi38 vf38=true:=by kernel_rfl
theorem tab39:mM Tryz.prog hh39 vf39.kept vf39.cons Tryz.f39=some vf39:=by kernel_rfl
theorem sig39:(⟨vf39.cons,vf39.quiet⟩:Sig)=⟨[],true⟩:=by kernel_rfl
theorem chk39:aH8 sgN vsN (sgN 39) fi39 vf39=true:=by kernel_rfl
theorem tab40:mM Tryz.prog hh40 vf40.kept vf40.cons Tryz.f40=some vf40:=by kernel_rfl
theorem sig40:(⟨vf40.cons,vf40.quiet⟩:Sig)=⟨[],true⟩:=by kernel_rfl
theorem chk40:aH8 sgN vsN (sgN 40) fi40 vf40=true:=by kernel_rfl
theorem tab42:mM Tryz.prog hh42 vf42.kept vf42.cons Tryz.f42=some vf42:=by kernel_rfl
theorem sig42:(⟨vf42.cons,vf42.quiet⟩:Sig)=⟨[],true⟩:=by kernel_rfl
theorem chk42:aH8 sgN vsN (sgN 42) fi42 vf42=true:=by kernel_rfl
theorem tab43:mM Tryz.prog hh43 vf43.kept vf43.cons Tryz.f43=some vf43:=by kernel_rfl
theorem sig43:(⟨vf43.cons,vf43.quiet⟩:Sig)=⟨[],true⟩:=by kernel_rfl
theorem chk43:aH8 sgN vsN (sgN 43) fi43 vf43=true:=by kernel_rfl
theorem tab44:mM Tryz.prog hh44 vf44.kept vf44.cons Tryz.f44=some vf44:=by kernel_rfl
theorem sig44:(⟨vf44.cons,vf44.quiet⟩:Sig)=⟨[],true⟩:=by kernel_rfl
theorem chk44:aH8 sgN vsN (sgN 44) fi44 vf44=true:=by kernel_rfl
theorem tab45:mM Tryz.prog hh45 vf45.kept vf45.cons Tryz.f45=some vf45:=by kernel_rfl
theorem sig45:(⟨vf45.cons,vf45.quiet⟩:Sig)=⟨[],true⟩:=by kernel_rfl
theorem chk45:aH8 sgN vsN (sgN 45) fi45 vf45=true:=by kernel_rfl
theorem tab46:mM Tryz.prog hh46 vf46.kept vf46.cons Tryz.f46=some vf46:=by kernel_rfl
theorem sig46:(⟨vf46.cons,vf46.quiet⟩:Sig)=⟨[],true⟩:=by kernel_rfl
theorem chk46:aH8 sgN vsN (sgN 46) fi46 vf46=true:=by kernel_rfl
theorem tab47:mM Tryz.prog hh47 vf47.kept vf47.cons Tryz.f47=some vf47:=by kernel_rfl
theorem sig47:(⟨vf47.cons,vf47.quiet⟩:Sig)=⟨[],true⟩:=by kernel_rfl
theorem chk47:aH8 sgN vsN (sgN 47) fi47 vf47=true:=by kernel_rfl
theorem tab49:mM Tryz.prog hh49 vf49.kept vf49.cons Tryz.f49=some vf49:=by kernel_rfl
theorem sig49:(⟨vf49.cons,vf49.quiet⟩:Sig)=⟨[],true⟩:=by kernel_rfl
theorem chk49:aH8 sgN vsN (sgN 49) fi49 vf49=true:=by kernel_rfl
theorem tab50:mM Tryz.prog hh50 vf50.kept vf50.cons Tryz.f50=some vf50:=by kernel_rfl
theorem sig50:(⟨vf50.cons,vf50.quiet⟩:Sig)=⟨[],true⟩:=by kernel_rfl
theorem chk50:aH8 sgN vsN (sgN 50) fi50 vf50=true:=by kernel_rfl
theorem tab51:mM Tryz.prog hh51 vf51.kept vf51.cons Tryz.f51=some vf51:=by kernel_rfl
theorem sig51:(⟨vf51.cons,vf51.quiet⟩:Sig)=⟨[],true⟩:=by kernel_rfl
theorem chk51:aH8 sgN vsN (sgN 51) fi51 vf51=true:=by kernel_rfl
theorem tab56:mM Tryz.prog hh56 vf56.kept vf56.cons Tryz.f56=some vf56:=by kernel_rfl
theorem sig56:(⟨vf56.cons,vf56.quiet⟩:Sig)=⟨[],true⟩:=by kernel_rfl
theorem chk56:aH8 sgN vsN (sgN 56) fi56 vf56=true:=by kernel_rfl
theorem tab57:mM Tryz.prog hh57 vf57.kept vf57.cons Tryz.f57=some vf57:=by kernel_rfl
theorem sig57:(⟨vf57.cons,vf57.quiet⟩:Sig)=⟨[],true⟩:=by kernel_rfl
theorem chk57:aH8 sgN vsN (sgN 57) fi57 vf57=true:=by kernel_rfl
theorem tab59:mM Tryz.prog hh59 vf59.kept vf59.cons Tryz.f59=some vf59:=by kernel_rfl
theorem sig59:(⟨vf59.cons,vf59.quiet⟩:Sig)=⟨[],true⟩:=by kernel_rfl
theorem chk59:aH8 sgN vsN (sgN 59) fi59 vf59=true:=by kernel_rfl
theorem tab60:mM Tryz.prog hh60 vf60.kept vf60.cons Tryz.f60=some vf60:=by kernel_rfl
theorem sig60:(⟨vf60.cons,vf60.quiet⟩:Sig)=⟨[],true⟩:=by kernel_rfl
theorem chk60:aH8 sgN vsN (sgN 60) fi60 vf60=true:=by kernel_rfl
theorem tab61:mM Tryz.prog hh61 vf61.kept vf61.cons Tryz.f61=some vf61:=by kernel_rfl
theorem sig61:(⟨vf61.cons,vf61.quiet⟩:Sig)=⟨[],true⟩:=by kernel_rfl
theorem chk61:aH8 sgN vsN (sgN 61) fi61 vf61=true:=by kernel_rfl
theorem tab62:mM Tryz.prog hh62 vf62.kept vf62.cons Tryz.f62=some vf62:=by kernel_rfl
theorem sig62:(⟨vf62.cons,vf62.quiet⟩:Sig)=⟨[],true⟩:=by kernel_rfl
theorem chk62:aH8 sgN vsN (sgN 62) fi62 vf62=true:=by kernel_rfl
theorem tab64:mM Tryz.prog hh64 vf64.kept vf64.cons Tryz.f64=some vf64:=by kernel_rfl
theorem sig64:(⟨vf64.cons,vf64.quiet⟩:Sig)=⟨[],true⟩:=by kernel_rfl
theorem chk64:aH8 sgN vsN (sgN 64) fi64 vf64=true:=by kernel_rfl
theorem tab65:mM Tryz.prog hh65 vf65.kept vf65.cons Tryz.f65=some vf65:=by kernel_rfl
theorem sig65:(⟨vf65.cons,vf65.quiet⟩:Sig)=⟨[],true⟩:=by kernel_rfl
theorem chk65:aH8 sgN vsN (sgN 65) fi65 vf65=true:=by kernel_rfl
theorem tab66:mM Tryz.prog hh66 vf66.kept vf66.cons Tryz.f66=some vf66:=by kernel_rfl
theorem sig66:(⟨vf66.cons,vf66.quiet⟩:Sig)=⟨[],true⟩:=by kernel_rfl
theorem chk66:aH8 sgN vsN (sgN 66) fi66 vf66=true:=by kernel_rfl
theorem tab67:mM Tryz.prog hh67 vf67.kept vf67.cons Tryz.f67=some vf67:=by kernel_rfl
theorem sig67:(⟨vf67.cons,vf67.quiet⟩:Sig)=⟨[],true⟩:=by kernel_rfl
theorem chk67:aH8 sgN vsN (sgN 67) fi67 vf67=true:=by kernel_rfl
theorem tab68:mM Tryz.prog hh68 vf68.kept vf68.cons Tryz.f68=some vf68:=by kernel_rfl
theorem sig68:(⟨vf68.cons,vf68.quiet⟩:Sig)=⟨[],true⟩:=by kernel_rfl
theorem chk68:aH8 sgN vsN (sgN 68) fi68 vf68=true:=by kernel_rfl
theorem tab69:mM Tryz.prog hh69 vf69.kept vf69.cons Tryz.f69=some vf69:=by kernel_rfl
theorem sig69:(⟨vf69.cons,vf69.quiet⟩:Sig)=⟨[],true⟩:=by kernel_rfl
theorem chk69:aH8 sgN vsN (sgN 69) fi69 vf69=true:=by kernel_rfl
theorem tab71:mM Tryz.prog hh71 vf71.kept vf71.cons Tryz.f71=some vf71:=by kernel_rfl
theorem sig71:(⟨vf71.cons,vf71.quiet⟩:Sig)=⟨[],true⟩:=by kernel_rfl
theorem chk71:aH8 sgN vsN (sgN 71) fi71 vf71=true:=by kernel_rfl
theorem tab72:mM Tryz.prog hh72 vf72.kept vf72.cons Tryz.f72=some vf72:=by kernel_rfl
theorem sig72:(⟨vf72.cons,vf72.quiet⟩:Sig)=⟨[],true⟩:=by kernel_rfl
theorem chk72:aH8 sgN vsN (sgN 72) fi72 vf72=true:=by kernel_rfl
theorem tab73:mM Tryz.prog hh73 vf73.kept vf73.cons Tryz.f73=some vf73:=by kernel_rfl
theorem sig73:(⟨vf73.cons,vf73.quiet⟩:Sig)=⟨[],true⟩:=by kernel_rfl
theorem chk73:aH8 sgN vsN (sgN 73) fi73 vf73=true:=by kernel_rfl
theorem tab74:mM Tryz.prog hh74 vf74.kept vf74.cons Tryz.f74=some vf74:=by kernel_rfl
theorem sig74:(⟨vf74.cons,vf74.quiet⟩:Sig)=⟨[],true⟩:=by kernel_rfl
theorem chk74:aH8 sgN vsN (sgN 74) fi74 vf74=true:=by kernel_rfl
theorem tab79:mM Tryz.prog hh79 vf79.kept vf79.cons Tryz.f79=some vf79:=by kernel_rfl
theorem sig79:(⟨vf79.cons,vf79.quiet⟩:Sig)=⟨[],true⟩:=by kernel_rfl
theorem chk79:aH8 sgN vsN (sgN 79) fi79 vf79=true:=by kernel_rfl
theorem tab80:mM Tryz.prog hh80 vf80.kept vf80.cons Tryz.f80=some vf80:=by kernel_rfl
theorem sig80:(⟨vf80.cons,vf80.quiet⟩:Sig)=⟨[],true⟩:=by kernel_rfl
theorem chk80:aH8 sgN vsN (sgN 80) fi80 vf80=true:=by kernel_rfl
theorem tab93:mM Tryz.prog hh93 vf93.kept vf93.cons Tryz.f93=some vf93:=by kernel_rfl
theorem sig93:(⟨vf93.cons,vf93.quiet⟩:Sig)=⟨[],true⟩:=by kernel_rfl
theorem chk93:aH8 sgN vsN (sgN 93) fi93 vf93=true:=by kernel_rfl
theorem tab96:mM Tryz.prog hh96 vf96.kept vf96.cons Tryz.f96=some vf96:=by kernel_rfl
theorem sig96:(⟨vf96.cons,vf96.quiet⟩:Sig)=⟨[],true⟩:=by kernel_rfl
theorem chk96:aH8 sgN vsN (sgN 96) fi96 vf96=true:=by kernel_rfl
theorem tab97:mM Tryz.prog hh97 vf97.kept vf97.cons Tryz.f97=some vf97:=by kernel_rfl
theorem sig97:(⟨vf97.cons,vf97.quiet⟩:Sig)=⟨[],true⟩:=by kernel_rfl
theorem chk97:aH8 sgN vsN (sgN 97) fi97 vf97=true:=by kernel_rfl
theorem tab98:mM Tryz.prog hh98 vf98.kept vf98.cons Tryz.f98=some vf98:=by kernel_rfl
theorem sig98:(⟨vf98.cons,vf98.quiet⟩:Sig)=⟨[],true⟩:=by kernel_rfl
theorem chk98:aH8 sgN vsN (sgN 98) fi98 vf98=true:=by kernel_rfl
theorem tab99:mM Tryz.prog hh99 vf99.kept vf99.cons Tryz.f99=some vf99:=by kernel_rfl
theorem sig99:(⟨vf99.cons,vf99.quiet⟩:Sig)=⟨[],true⟩:=by kernel_rfl
theorem chk99:aH8 sgN vsN (sgN 99) fi99 vf99=true:=by kernel_rfl
theorem tab100:mM Tryz.prog hh100 vf100.kept vf100.cons Tryz.f100=some vf100:=by kernel_rfl
theorem sig100:(⟨vf100.cons,vf100.quiet⟩:Sig)=⟨[],true⟩:=by kernel_rfl
theorem chk100:aH8 sgN vsN (sgN 100) fi100 vf100=true:=by kernel_rfl
theorem tab101:mM Tryz.prog hh101 vf101.kept vf101.cons Tryz.f101=some vf101:=by kernel_rfl
theorem sig101:(⟨vf101.cons,vf101.quiet⟩:Sig)=⟨[],true⟩:=by kernel_rfl
theorem chk101:aH8 sgN vsN (sgN 101) fi101 vf101=true:=by kernel_rfl
theorem tab102:mM Tryz.prog hh102 vf102.kept vf102.cons Tryz.f102=some vf102:=by kernel_rfl
theorem sig102:(⟨vf102.cons,vf102.quiet⟩:Sig)=⟨[],true⟩:=by kernel_rfl
theorem chk102:aH8 sgN vsN (sgN 102) fi102 vf102=true:=by kernel_rfl
theorem tab103:mM Tryz.prog hh103 vf103.kept vf103.cons Tryz.f103=some vf103:=by kernel_rfl
theorem sig103:(⟨vf103.cons,vf103.quiet⟩:Sig)=⟨[],true⟩:=by kernel_rfl
theorem chk103:aH8 sgN vsN (sgN 103) fi103 vf103=true:=by kernel_rfl
theorem tab104:mM Tryz.prog hh104 vf104.kept vf104.cons Tryz.f104=some vf104:=by kernel_rfl
theorem sig104:(⟨vf104.cons,vf104.quiet⟩:Sig)=⟨[],true⟩:=by kernel_rfl
theorem chk104:aH8 sgN vsN (sgN 104) fi104 vf104=true:=by kernel_rfl
theorem tab105:mM Tryz.prog hh105 vf105.kept vf105.cons Tryz.f105=some vf105:=by kernel_rfl
theorem sig105:(⟨vf105.cons,vf105.quiet⟩:Sig)=⟨[],true⟩:=by kernel_rfl
theorem chk105:aH8 sgN vsN (sgN 105) fi105 vf105=true:=by kernel_rfl
theorem tab111:mM Tryz.prog hh111 vf111.kept vf111.cons Tryz.f111=some vf111:=by kernel_rfl
theorem sig111:(⟨vf111.cons,vf111.quiet⟩:Sig)=⟨[],true⟩:=by kernel_rfl
theorem chk111:aH8 sgN vsN (sgN 111) fi111 vf111=true:=by kernel_rfl
theorem tab112:mM Tryz.prog hh112 vf112.kept vf112.cons Tryz.f112=some vf112:=by kernel_rfl
theorem sig112:(⟨vf112.cons,vf112.quiet⟩:Sig)=⟨[],true⟩:=by kernel_rfl
theorem chk112:aH8 sgN vsN (sgN 112) fi112 vf112=true:=by kernel_rfl
theorem tab113:mM Tryz.prog hh113 vf113.kept vf113.cons Tryz.f113=some vf113:=by kernel_rfl
theorem sig113:(⟨vf113.cons,vf113.quiet⟩:Sig)=⟨[],true⟩:=by kernel_rfl
theorem chk113:aH8 sgN vsN (sgN 113) fi113 vf113=true:=by kernel_rfl
theorem tab114:mM Tryz.prog hh114 vf114.kept vf114.cons Tryz.f114=some vf114:=by kernel_rfl
theorem sig114:(⟨vf114.cons,vf114.quiet⟩:Sig)=⟨[],true⟩:=by kernel_rfl
theorem chk114:aH8 sgN vsN (sgN 114) fi114 vf114=true:=by kernel_rfl
theorem tab115:mM Tryz.prog hh115 vf115.kept vf115.cons Tryz.f115=some vf115:=by kernel_rfl
theorem sig115:(⟨vf115.cons,vf115.quiet⟩:Sig)=⟨[],true⟩:=by kernel_rfl
theorem chk115:aH8 sgN vsN (sgN 115) fi115 vf115=true:=by kernel_rfl
theorem tab116:mM Tryz.prog hh116 vf116.kept vf116.cons Tryz.f116=some vf116:=by kernel_rfl
theorem sig116:(⟨vf116.cons,vf116.quiet⟩:Sig)=⟨[],true⟩:=by kernel_rfl
theorem chk116:aH8 sgN vsN (sgN 116) fi116 vf116=true:=by kernel_rfl
theorem tab117:mM Tryz.prog hh117 vf117.kept vf117.cons Tryz.f117=some vf117:=by kernel_rfl
theorem sig117:(⟨vf117.cons,vf117.quiet⟩:Sig)=⟨[],true⟩:=by kernel_rfl
theorem chk117:aH8 sgN vsN (sgN 117) fi117 vf117=true:=by kernel_rfl
theorem tab130:mM Tryz.prog hh130 vf130.kept vf130.cons Tryz.f130=some vf130:=by kernel_rfl
theorem sig130:(⟨vf130.cons,vf130.quiet⟩:Sig)=⟨[],true⟩:=by kernel_rfl
theorem chk130:aH8 sgN vsN (sgN 130) fi130 vf130=true:=by kernel_rfl
theorem tab131:mM Tryz.prog hh131 vf131.kept vf131.cons Tryz.f131=some vf131:=by kernel_rfl
theorem sig131:(⟨vf131.cons,vf131.quiet⟩:Sig)=⟨[],true⟩:=by kernel_rfl
theorem chk131:aH8 sgN vsN (sgN 131) fi131 vf131=true:=by kernel_rfl
theorem tab132:mM Tryz.prog hh132 vf132.kept vf132.cons Tryz.f132=some vf132:=by kernel_rfl
theorem sig132:(⟨vf132.cons,vf132.quiet⟩:Sig)=⟨[],true⟩:=by kernel_rfl
theorem chk132:aH8 sgN vsN (sgN 132) fi132 vf132=true:=by kernel_rfl
theorem tab134:mM Tryz.prog hh134 vf134.kept vf134.cons Tryz.f134=some vf134:=by kernel_rfl
theorem sig134:(⟨vf134.cons,vf134.quiet⟩:Sig)=⟨[],true⟩:=by kernel_rfl
theorem chk134:aH8 sgN vsN (sgN 134) fi134 vf134=true:=by kernel_rfl
theorem tab135:mM Tryz.prog hh135 vf135.kept vf135.cons Tryz.f135=some vf135:=by kernel_rfl
theorem sig135:(⟨vf135.cons,vf135.quiet⟩:Sig)=⟨[],true⟩:=by kernel_rfl
theorem chk135:aH8 sgN vsN (sgN 135) fi135 vf135=true:=by kernel_rfl
theorem tab136:mM Tryz.prog hh136 vf136.kept vf136.cons Tryz.f136=some vf136:=by kernel_rfl
theorem sig136:(⟨vf136.cons,vf136.quiet⟩:Sig)=⟨[],true⟩:=by kernel_rfl
theorem chk136:aH8 sgN vsN (sgN 136) fi136 vf136=true:=by kernel_rfl
theorem tab138:mM Tryz.prog hh138 vf138.kept vf138.cons Tryz.f138=some vf138:=by kernel_rfl
theorem sig138:(⟨vf138.cons,vf138.quiet⟩:Sig)=⟨[],true⟩:=by kernel_rfl
theorem chk138:aH8 sgN vsN (sgN 138) fi138 vf138=true:=by kernel_rfl
theorem tab139:mM Tryz.prog hh139 vf139.kept vf139.cons Tryz.f139=some vf139:=by kernel_rfl
theorem sig139:(⟨vf139.cons,vf139.quiet⟩:Sig)=⟨[],true⟩:=by kernel_rfl
theorem chk139:aH8 sgN vsN (sgN 139) fi139 vf139=true:=by kernel_rfl
theorem tab140:mM Tryz.prog hh140 vf140.kept vf140.cons Tryz.f140=some vf140:=by kernel_rfl
theorem sig140:(⟨vf140.cons,vf140.quiet⟩:Sig)=⟨[],true⟩:=by kernel_rfl
theorem chk140:aH8 sgN vsN (sgN 140) fi140 vf140=true:=by kernel_rfl
theorem tab141:mM Tryz.prog hh141 vf141.kept vf141.cons Tryz.f141=some vf141:=by kernel_rfl
theorem sig141:(⟨vf141.cons,vf141.quiet⟩:Sig)=⟨[],true⟩:=by kernel_rfl
theorem chk141:aH8 sgN vsN (sgN 141) fi141 vf141=true:=by kernel_rfl
theorem tab142:mM Tryz.prog hh142 vf142.kept vf142.cons Tryz.f142=some vf142:=by kernel_rfl
theorem sig142:(⟨vf142.cons,vf142.quiet⟩:Sig)=⟨[],true⟩:=by kernel_rfl
theorem chk142:aH8 sgN vsN (sgN 142) fi142 vf142=true:=by kernel_rfl
theorem tab165:mM Tryz.prog hh165 vf165.kept vf165.cons Tryz.f165=some vf165:=by kernel_rfl
theorem sig165:(⟨vf165.cons,vf165.quiet⟩:Sig)=⟨[],true⟩:=by kernel_rfl
theorem chk165:aH8 sgN vsN (sgN 165) fi165 vf165=true:=by kernel_rfl
end Go.Proofs.YtbpocjclcbjggaaGreatDoor
